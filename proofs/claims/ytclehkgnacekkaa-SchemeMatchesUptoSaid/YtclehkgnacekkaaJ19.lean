/- Part 19 of the proof: VSM3. Conditions: none. -/
import Derived.Test.YtclehkgnacekkaaJ18
set_option linter.all false
set_option linter.unusedVariables false
set_option linter.unusedSimpArgs false
section
namespace Go.Proofs.Ytclehkgnacekkaa.Vm
open Go.RowKit
set_option maxRecDepth 100000
set_option maxHeartbeats 8000000
theorem sm_code : okCode Try.prog (Try.f3.body.getD .skip) = true := okCode2_ok (by kernel_rfl)
theorem sm_big (g s : Ty) (hg : Sm g) (hs : Sm s) (h : 200 < g.parts.length ∨ 200 < s.parts.length) : Spec 3 [.ag (cT g), .ag (cT s)] [.one (.sc (.bool true))] := by
  have hal := alive_s
  have hmg := many_s g hg.1
  have hms := many_s s hs.1
  obtain ⟨g0, g1, g2, g3, hgg⟩ := cT_four g
  obtain ⟨s0, s1, s2, s3, hss⟩ := cT_four s
  rw [hgg] at hmg ⊢
  rw [hss] at hms ⊢
  by_cases h1 : 200 < g.parts.length
  · rw [decide_eq_true h1] at hmg
    refine spec_of Try.func3 rfl (by kernel_rfl) sm_code (by kernel_rfl) fun aWrap aAdd aSub aMul aQuo aRem aBits aLt aLe aEq aNz aSeq aSlt aBytes aCat aFits aSlen aSget aSsub aNat aLen aGet aSub2 aApp aSet aRoom aMlook aMput aRep aCall aCalld aCallo aNew aLit aKeep aNext aLoop hA => ?_
    cbv
    repeat (first | (with_reducible apply next_at hA; cbv) | (refine call_at hA _ hal rfl ?_; cbv) | (refine calm_at hA _ hal ?_; cbv) | (refine call_at hA _ hmg rfl ?_; cbv) | (refine calm_at hA _ hmg ?_; cbv))
    try cbv
    repeat (first | (with_reducible apply next_at hA; cbv) | (refine call_at hA _ hal rfl ?_; cbv) | (refine calm_at hA _ hal ?_; cbv) | (refine call_at hA _ hmg rfl ?_; cbv) | (refine calm_at hA _ hmg ?_; cbv))
    try simp (maxSteps := 4000000) only [nc] at *
  · rw [decide_eq_false h1] at hmg
    rw [decide_eq_true (h.resolve_left h1)] at hms
    refine spec_of Try.func3 rfl (by kernel_rfl) sm_code (by kernel_rfl) fun aWrap aAdd aSub aMul aQuo aRem aBits aLt aLe aEq aNz aSeq aSlt aBytes aCat aFits aSlen aSget aSsub aNat aLen aGet aSub2 aApp aSet aRoom aMlook aMput aRep aCall aCalld aCallo aNew aLit aKeep aNext aLoop hA => ?_
    cbv
    repeat (first | (with_reducible apply next_at hA; cbv) | (refine call_at hA _ hal rfl ?_; cbv) | (refine calm_at hA _ hal ?_; cbv) | (refine call_at hA _ hmg rfl ?_; cbv) | (refine calm_at hA _ hmg ?_; cbv) | (refine call_at hA _ hms rfl ?_; cbv) | (refine calm_at hA _ hms ?_; cbv))
    try cbv
    repeat (first | (with_reducible apply next_at hA; cbv) | (refine call_at hA _ hal rfl ?_; cbv) | (refine calm_at hA _ hal ?_; cbv) | (refine call_at hA _ hmg rfl ?_; cbv) | (refine calm_at hA _ hmg ?_; cbv) | (refine call_at hA _ hms rfl ?_; cbv) | (refine calm_at hA _ hms ?_; cbv))
    try simp (maxSteps := 4000000) only [nc] at *
theorem sm_wrong (g s : Ty) (hg : Sm g) (hs : Sm s) (h1 : ¬ 200 < g.parts.length) (h2 : ¬ 200 < s.parts.length) (hr : ¬ (rightB g 116 = true ∧ rightB s 116 = true)) : Spec 3 [.ag (cT g), .ag (cT s)] [.one (.sc (.bool true))] := by
  have hal := alive_s
  have hmg := many_s g hg.1
  have hms := many_s s hs.1
  have hM := Match_s g s hg hs
  have hI := Instance_s g s hg hs
  have hRg := Right_s g hg.1 hg.2
  have hRs := Right_s s hs.1 hs.2
  have hn : matchR g s = none := by unfold matchR; rw [if_neg hr]
  rw [hn, Option.isSome_none, Option.getD_none, show rB [] = [] from rfl] at hM
  rw [hn, Option.isSome_none] at hI
  rw [decide_eq_false h1] at hmg
  rw [decide_eq_false h2] at hms
  obtain ⟨g0, g1, g2, g3, hgg⟩ := cT_four g
  obtain ⟨s0, s1, s2, s3, hss⟩ := cT_four s
  rw [hgg] at hmg hRg hM hI ⊢
  rw [hss] at hms hRs hM hI ⊢
  cases hb : rightB g 116 with
  | false =>
    rw [hb] at hRg
    refine spec_of Try.func3 rfl (by kernel_rfl) sm_code (by kernel_rfl) fun aWrap aAdd aSub aMul aQuo aRem aBits aLt aLe aEq aNz aSeq aSlt aBytes aCat aFits aSlen aSget aSsub aNat aLen aGet aSub2 aApp aSet aRoom aMlook aMput aRep aCall aCalld aCallo aNew aLit aKeep aNext aLoop hA => ?_
    have q0 : aEq (aLen []) 0 = true := by
      obtain ⟨e1, e2, e3, e4, e5, e6, e7, e8, e9⟩ := ar_at hA
      obtain ⟨r1, r2, -⟩ := row_at hA
      rw [e9, r1]; rfl
    cbv
    repeat (first | (with_reducible apply next_at hA; cbv) | (rw [q0]; cbv) | (refine call_at hA _ hal rfl ?_; cbv) | (refine calm_at hA _ hal ?_; cbv) | (refine call_at hA _ hmg rfl ?_; cbv) | (refine calm_at hA _ hmg ?_; cbv) | (refine call_at hA _ hms rfl ?_; cbv) | (refine calm_at hA _ hms ?_; cbv) | (refine call_at hA _ hM rfl ?_; cbv) | (refine calm_at hA _ hM ?_; cbv) | (refine call_at hA _ hI rfl ?_; cbv) | (refine calm_at hA _ hI ?_; cbv) | (refine call_at hA _ hRg rfl ?_; cbv) | (refine calm_at hA _ hRg ?_; cbv))
    try cbv
    repeat (first | (with_reducible apply next_at hA; cbv) | (rw [q0]; cbv) | (refine call_at hA _ hal rfl ?_; cbv) | (refine calm_at hA _ hal ?_; cbv) | (refine call_at hA _ hmg rfl ?_; cbv) | (refine calm_at hA _ hmg ?_; cbv) | (refine call_at hA _ hms rfl ?_; cbv) | (refine calm_at hA _ hms ?_; cbv) | (refine call_at hA _ hM rfl ?_; cbv) | (refine calm_at hA _ hM ?_; cbv) | (refine call_at hA _ hI rfl ?_; cbv) | (refine calm_at hA _ hI ?_; cbv) | (refine call_at hA _ hRg rfl ?_; cbv) | (refine calm_at hA _ hRg ?_; cbv))
    try simp (maxSteps := 4000000) only [nc] at *
  | true =>
    have hb2 : rightB s 116 = false := by
      cases h : rightB s 116 with
      | false => rfl
      | true => exact absurd ⟨hb, h⟩ hr
    rw [hb] at hRg
    rw [hb2] at hRs
    refine spec_of Try.func3 rfl (by kernel_rfl) sm_code (by kernel_rfl) fun aWrap aAdd aSub aMul aQuo aRem aBits aLt aLe aEq aNz aSeq aSlt aBytes aCat aFits aSlen aSget aSsub aNat aLen aGet aSub2 aApp aSet aRoom aMlook aMput aRep aCall aCalld aCallo aNew aLit aKeep aNext aLoop hA => ?_
    have q0 : aEq (aLen []) 0 = true := by
      obtain ⟨e1, e2, e3, e4, e5, e6, e7, e8, e9⟩ := ar_at hA
      obtain ⟨r1, r2, -⟩ := row_at hA
      rw [e9, r1]; rfl
    cbv
    repeat (first | (with_reducible apply next_at hA; cbv) | (rw [q0]; cbv) | (refine call_at hA _ hal rfl ?_; cbv) | (refine calm_at hA _ hal ?_; cbv) | (refine call_at hA _ hmg rfl ?_; cbv) | (refine calm_at hA _ hmg ?_; cbv) | (refine call_at hA _ hms rfl ?_; cbv) | (refine calm_at hA _ hms ?_; cbv) | (refine call_at hA _ hM rfl ?_; cbv) | (refine calm_at hA _ hM ?_; cbv) | (refine call_at hA _ hI rfl ?_; cbv) | (refine calm_at hA _ hI ?_; cbv) | (refine call_at hA _ hRg rfl ?_; cbv) | (refine calm_at hA _ hRg ?_; cbv) | (refine call_at hA _ hRs rfl ?_; cbv) | (refine calm_at hA _ hRs ?_; cbv))
    try cbv
    repeat (first | (with_reducible apply next_at hA; cbv) | (rw [q0]; cbv) | (refine call_at hA _ hal rfl ?_; cbv) | (refine calm_at hA _ hal ?_; cbv) | (refine call_at hA _ hmg rfl ?_; cbv) | (refine calm_at hA _ hmg ?_; cbv) | (refine call_at hA _ hms rfl ?_; cbv) | (refine calm_at hA _ hms ?_; cbv) | (refine call_at hA _ hM rfl ?_; cbv) | (refine calm_at hA _ hM ?_; cbv) | (refine call_at hA _ hI rfl ?_; cbv) | (refine calm_at hA _ hI ?_; cbv) | (refine call_at hA _ hRg rfl ?_; cbv) | (refine calm_at hA _ hRg ?_; cbv) | (refine call_at hA _ hRs rfl ?_; cbv) | (refine calm_at hA _ hRs ?_; cbv))
    try simp (maxSteps := 4000000) only [nc] at *
theorem sm_right (g s : Ty) (hg : Sm g) (hs : Sm s) (h1 : ¬ 200 < g.parts.length) (h2 : ¬ 200 < s.parts.length) (hrg : rightB g 116 = true) (hrs : rightB s 116 = true) : Spec 3 [.ag (cT g), .ag (cT s)] [.one (.sc (.bool true))] := by
  have hal := alive_s
  have hmg := many_s g hg.1
  have hms := many_s s hs.1
  have hM := Match_s g s hg hs
  have hI := Instance_s g s hg hs
  have hRg := Right_s g hg.1 hg.2
  have hRs := Right_s s hs.1 hs.2
  have sg := (right_shape hrg).1
  have ss := (right_shape hrs).1
  have cg := canon_shape _ g 116 (Nat.le_refl _) sg
  have hC := canon_s _ g (Nat.le_refl _) hg.1 (shape_spineAll sg)
  have hcl := canon_len _ g (Nat.le_refl _) (shape_spineAll sg)
  have hgl := hg.1
  have hD := Matched_s (canonS g) s ⟨116, cg, ss⟩ (by omega) hs.1
  obtain ⟨hsame, hvals⟩ := match_same hrg hrs
  rw [← hsame] at hD
  have hcs : ∀ p ∈ (matchR g s).getD [], p.2.parts.length ≤ 1048576 := by
    cases hm : matchR g s with
    | none => intro p hp; simp at hp
    | some c =>
      intro p hp
      obtain ⟨t, ht, l, hl, n, hn⟩ := hvals c hm p hp
      have hi := (matchF_inv _ (canonS g) s [] l ⟨116, cg, ss⟩ hs.1 hl).2 (n, t) hn
      have hgd : GoodT _ t := hi.elim (fun h => by simp at h) id
      rw [ht, canon_len _ t (Nat.le_refl _) hgd.spine]
      exact hgd.1
  have hll : ((matchR g s).getD []).length ≤ 1048576 := by
    unfold matchR
    rw [if_pos ⟨hrg, hrs⟩]
    have hvl := varsS_len hg.1 (shape_spineAll sg)
    cases typS g s with
    | none => simp
    | some c =>
      show (binds g c).length ≤ _
      unfold binds
      exact Nat.le_trans (List.length_filterMap_le _ _) hvl
  generalize (matchR g s).getD [] = c at *
  generalize (matchR g s).isSome = b at *
  obtain ⟨L, hL⟩ : ∃ L, L = rB c := ⟨_, rfl⟩
  rw [← hL] at hM hD
  rw [decide_eq_false h1] at hmg
  rw [decide_eq_false h2] at hms
  rw [hrg] at hRg
  rw [hrs] at hRs
  obtain ⟨g0, g1, g2, g3, hgg⟩ := cT_four g
  obtain ⟨s0, s1, s2, s3, hss⟩ := cT_four s
  obtain ⟨k0, k1, k2, k3, hkk⟩ := cT_four (canonS g)
  rw [hgg] at hmg hRg hM hI hC ⊢
  rw [hss] at hms hRs hM hI hD ⊢
  rw [hkk] at hC hD
  refine spec_of Try.func3 rfl (by kernel_rfl) sm_code (by kernel_rfl) fun aWrap aAdd aSub aMul aQuo aRem aBits aLt aLe aEq aNz aSeq aSlt aBytes aCat aFits aSlen aSget aSsub aNat aLen aGet aSub2 aApp aSet aRoom aMlook aMput aRep aCall aCalld aCallo aNew aLit aKeep aNext aLoop hA => ?_
  obtain ⟨e1, e2, e3, e4, e5, e6, e7, e8, e9⟩ := ar_at hA
  obtain ⟨r1, r2, -⟩ := row_at hA
  have qL : aEq (aLen L) (aLen L) = true := by rw [e9]; exact beq_self_eq_true _
  have hlL : aLen L = ((c.length : Nat) : Int) := by rw [r1, hL, rB_len]
  clear hsame hvals
  cases b
  all_goals
    cbv
    repeat (first | (with_reducible apply next_at hA; cbv) | (rw [qL]; cbv) | (refine call_at hA _ hal rfl ?_; cbv) | (refine calm_at hA _ hal ?_; cbv) | (refine call_at hA _ hmg rfl ?_; cbv) | (refine calm_at hA _ hmg ?_; cbv) | (refine call_at hA _ hms rfl ?_; cbv) | (refine calm_at hA _ hms ?_; cbv) | (refine call_at hA _ hM rfl ?_; cbv) | (refine calm_at hA _ hM ?_; cbv) | (refine call_at hA _ hI rfl ?_; cbv) | (refine calm_at hA _ hI ?_; cbv) | (refine call_at hA _ hRg rfl ?_; cbv) | (refine calm_at hA _ hRg ?_; cbv) | (refine call_at hA _ hRs rfl ?_; cbv) | (refine calm_at hA _ hRs ?_; cbv) | (refine call_at hA _ hC rfl ?_; cbv) | (refine calm_at hA _ hC ?_; cbv) | (refine call_at hA _ hD rfl ?_; cbv) | (refine calm_at hA _ hD ?_; cbv))
    try cbv
    repeat (first | (with_reducible apply next_at hA; cbv) | (rw [qL]; cbv) | (refine call_at hA _ hal rfl ?_; cbv) | (refine calm_at hA _ hal ?_; cbv) | (refine call_at hA _ hmg rfl ?_; cbv) | (refine calm_at hA _ hmg ?_; cbv) | (refine call_at hA _ hms rfl ?_; cbv) | (refine calm_at hA _ hms ?_; cbv) | (refine call_at hA _ hM rfl ?_; cbv) | (refine calm_at hA _ hM ?_; cbv) | (refine call_at hA _ hI rfl ?_; cbv) | (refine calm_at hA _ hI ?_; cbv) | (refine call_at hA _ hRg rfl ?_; cbv) | (refine calm_at hA _ hRg ?_; cbv) | (refine call_at hA _ hRs rfl ?_; cbv) | (refine calm_at hA _ hRs ?_; cbv) | (refine call_at hA _ hC rfl ?_; cbv) | (refine calm_at hA _ hC ?_; cbv) | (refine call_at hA _ hD rfl ?_; cbv) | (refine calm_at hA _ hD ?_; cbv))
    try simp (maxSteps := 4000000) only [nc] at *
    refine loop_at hA (γ := Int) (fun z => [(9, vi .i64 z), (18, .jk), (21, .jk), (44, .jk), (48, .jk)]) (fun z => []) (fun z => ∃ k : Nat, z = (k : Int) ∧ k ≤ c.length) (fun z => c.length - z.toNat) 0 ?_ ?_ ?_
    · exact ⟨0, rfl, Nat.zero_le _⟩
    · cbv
    · intro z hinv
      cbv
      repeat ((with_reducible apply next_at hA); cbv)
      try simp (maxSteps := 4000000) only [nc] at *
      obtain ⟨k, hz, hk⟩ := hinv
      replace hz : z = (k : Int) := hz
      have hlt : aLt z (aLen L) = decide (k < c.length) := by rw [e7, hlL, hz]; exact decide_eq_decide.2 (by omega)
      by_cases h9 : k < c.length
      · rw [decide_eq_true h9] at hlt
        obtain ⟨p, hp⟩ : ∃ p, c[k]? = some p := ⟨_, List.getElem?_eq_getElem h9⟩
        have hA2 := Alike_s p.2 p.2 (hcs p (List.mem_of_getElem? hp))
        rw [(alike_iff p.2 p.2).2 rfl] at hA2
        obtain ⟨pn, pt⟩ := p
        obtain ⟨c0, c1, c2, c3, hc⟩ := cT_four pt
        simp only at hA2
        rw [hc] at hA2
        have gx : aGet L z = some [.sc (.int .i64 pn), c0, c1, c2, c3] := by rw [r2, hz, if_pos (by omega), hL, show ((k : Int)).toNat = k by omega, rB_get hp, hc]
        have qn : aEq pn pn = true := by rw [e9]; exact beq_self_eq_true _
        have hz1 : aWrap .i64 (aAdd z 1) = ((k + 1 : Nat) : Int) := by rw [e1, e2, hz, IntWalk.i64_in _ (by omega)]; omega
        have hmu : c.length - (aWrap .i64 (aAdd z 1)).toNat < c.length - z.toNat := by rw [hz1, hz]; omega
        rw [hlt]
        cbv
        repeat (first | (with_reducible apply next_at hA; cbv) | (rw [gx]; cbv) | (rw [qn]; cbv) | (refine call_at hA _ hA2 rfl ?_; cbv) | (refine calm_at hA _ hA2 ?_; cbv))
        try cbv
        repeat (first | (with_reducible apply next_at hA; cbv) | (rw [gx]; cbv) | (rw [qn]; cbv) | (refine call_at hA _ hA2 rfl ?_; cbv) | (refine calm_at hA _ hA2 ?_; cbv))
        try simp (maxSteps := 4000000) only [nc] at *
        refine ⟨aWrap .i64 (aAdd z 1), ⟨k + 1, hz1, h9⟩, hmu, ?_⟩
        cbv
      · rw [decide_eq_false h9] at hlt
        rw [hlt]
        cbv
        repeat ((with_reducible apply next_at hA); cbv)
theorem SM_s (g s : Ty) (hg : Sm g) (hs : Sm s) : Spec 3 [.ag (cT g), .ag (cT s)] [.one (.sc (.bool true))] := by
  by_cases h1 : 200 < g.parts.length
  · exact sm_big g s hg hs (.inl h1)
  · by_cases h2 : 200 < s.parts.length
    · exact sm_big g s hg hs (.inr h2)
    · by_cases hr : rightB g 116 = true ∧ rightB s 116 = true
      · exact sm_right g s hg hs h1 h2 hr.1 hr.2
      · exact sm_wrong g s hg hs h1 h2 hr
end Go.Proofs.Ytclehkgnacekkaa.Vm
end

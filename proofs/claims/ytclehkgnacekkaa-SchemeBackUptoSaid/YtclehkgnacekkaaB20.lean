/- Part 20 of the proof: VSc2. Conditions: none. -/
import Derived.Test.YtclehkgnacekkaaB19
set_option linter.all false
set_option linter.unusedVariables false
set_option linter.unusedSimpArgs false
section
namespace Go.Proofs.Ytclehkgnacekkaa.Vm
open Go.RowKit
set_option maxRecDepth 100000
set_option maxHeartbeats 8000000
theorem drop_cons {α : Type} {l : List α} {k : Nat} {x : α} (h : l[k]? = some x) : l.drop k = x :: l.drop (k + 1) := by
  obtain ⟨hk, e⟩ := List.getElem?_eq_some_iff.1 h
  rw [List.drop_eq_getElem_cons hk, e]
theorem rows_s (T : Ty → Ty → List (Int × Ty) → Option (List (Int × Ty))) (g s : Ty) (c0 : List (Int × Ty)) (hg : Ok1 114 g) (hs : Ok1 114 s) (hc0 : CB c0)
    (hT : ∀ f ∈ fieldsS g, ∀ x ∈ fieldsS s, ∀ c, CB c → SpecO 43 [.ag [.mp 0], .ag (ofD (cT f.2)), .ag (ofD (cT x.2))] [.mp 3 (esT c)] (BindQ (T f.2 x.2 c)) ∧ ∀ c', T f.2 x.2 c = some c' → CB c') :
    SpecO 95 [.ag [.mp 0], .ag (ofD (cT g)), .ag (ofD (cT s))] [.mp 3 (esT c0)] (BindQ (rowsC T g s c0)) := by
  have hF1 := Flat_s g hg.sm hg.1
  have hF2 := Flat_s s hs.sm hs.1
  have hcg := cn_fields hg.shape hg.2.1
  have hcs := cn_fields hs.shape hs.2.1
  rw [sortS_self hcg.1] at hF1
  rw [sortS_self hcs.1] at hF2
  have hgl := fieldsS_len _ g (Nat.le_refl _)
  have hsl := fieldsS_len _ s (Nat.le_refl _)
  have hgN := hg.2.2
  have hsN := hs.2.2
  obtain ⟨gop, gnm, gn, gks, hgt⟩ : ∃ op nm n ks, tailS g = .mk op nm n ks := ⟨_, _, _, _, Ty.eta _⟩
  obtain ⟨sop, snm, sn, sks, hst⟩ : ∃ op nm n ks, tailS s = .mk op nm n ks := ⟨_, _, _, _, Ty.eta _⟩
  have hrest : ∀ left : List (ByteArray × Ty), left.Sublist (fieldsS s) → Ok1 114 (rowS left (tailS s)) := fun left hl => hs.rest hl
  have hjoin : ∀ left : List (ByteArray × Ty), left.Sublist (fieldsS s) → Spec 63 [.one (.sl 5 (rF left)), .ag (cT (tailS s))] [.ag (cT (rowS left (tailS s)))] := fun left hl => by
    obtain ⟨d0, d1, d2, d3, hd⟩ := cT_four (tailS s)
    have hj := joinD_is (tailS s) left
    rw [hd] at hj ⊢
    rw [← hj]
    refine join_s (rF left) d0 d1 d2 d3 (by rw [rF_len]; have := hl.length_le; omega) ?_ ?_
    · rw [← hd]
      exact copied_s _ (Nat.le_trans (part_len (tail_mem (shape_spineAll hs.shape).self)) hs.2.2)
    · intro r hr
      obtain ⟨f, hf, rfl⟩ := List.mem_map.1 hr
      obtain ⟨e0, e1, e2, e3, he⟩ := cT_four f.2
      refine ⟨_, e0, e1, e2, e3, by show D.sc _ :: cT f.2 = _; rw [he], ?_⟩
      rw [← he]
      exact copied_s _ (hs.field (hl.subset hf)).2.2
  have hrc : rowsC T g s c0 = (goC T (fieldsS g) (fieldsS s) [] c0).bind (endC (tailS g) (tailS s)) := rfl
  have hfm : ∀ f ∈ fieldsS g, Ok1 116 f.2 := fun f hf => hg.field hf
  generalize fieldsS g = gl at *
  generalize fieldsS s = ml at *
  obtain ⟨Z, hR⟩ : ∃ Z, Z = rowsC T g s c0 := ⟨_, rfl⟩
  rw [← hR] at hrc ⊢
  have hcgt : cT (tailS g) = [.sc (.int .u8 gop), .sc (.string gnm), .sc (.int .i64 gn), .sl 4 (rT gks)] := by rw [hgt, cT]
  have hcst : cT (tailS s) = [.sc (.int .u8 sop), .sc (.string snm), .sc (.int .i64 sn), .sl 4 (rT sks)] := by rw [hst, cT]
  have hgo : (tailS g).op = gop := by rw [hgt]; rfl
  have hgn : (tailS g).n = gn := by rw [hgt]; rfl
  have hso : (tailS s).op = sop := by rw [hst]; rfl
  rw [hcgt] at hF1
  rw [hcst] at hF2
  simp only [hcst] at hjoin
  obtain ⟨Q, hQ⟩ : ∃ Q, Q = BindQ Z := ⟨_, rfl⟩
  rw [← hQ]
  obtain ⟨G, hG⟩ : ∃ G, G = rF gl := ⟨_, rfl⟩
  obtain ⟨M, hM⟩ : ∃ M, M = rF ml := ⟨_, rfl⟩
  rw [← hG] at hF1
  rw [← hM] at hF2
  obtain ⟨g0, g1, g2, g3, hgg⟩ := cT_four g
  obtain ⟨s0, s1, s2, s3, hss⟩ := cT_four s
  rw [hgg] at hF1 ⊢
  rw [hss] at hF2 ⊢
  obtain ⟨E0, hE0⟩ : ∃ E, E = esT c0 := ⟨_, rfl⟩
  rw [← hE0]
  generalize rT gks = GK at *
  generalize rT sks = SK at *
  refine speco_of Try.func95 rfl (by kernel_rfl) (by kernel_rfl) (by kernel_rfl) fun qa qb qc qd qe qf qg qh qi qj qk ql qm qo qp qq qs qt qu qv qw qx qy qz va vc vd ve vf vg vh vj vk vl vp vq vr vt vu hA => ?_
  cbv
  repeat (first | (refine callo_at hA [] hF1 ⟨rfl, rfl, rfl, rfl, rfl, rfl, rfl⟩ ?_; rintro res os2 ⟨rfl, rfl⟩; cbv) | (refine callo_at hA [] hF2 ⟨rfl, rfl, rfl, rfl, rfl, rfl, rfl⟩ ?_; rintro res os2 ⟨rfl, rfl⟩; cbv) | (refine own_at hA 11 86 true rfl ?_; cbv) | (with_reducible apply next_at hA; cbv))
  obtain ⟨e1, e2, e3, e4, e5, e6, e7, e8, e9⟩ := ar_at hA
  obtain ⟨s1', s2', s3', -⟩ := str_at hA
  obtain ⟨r1, r2, r3, r4⟩ := row_at hA
  have hQ1 : ∀ c', Z = some c' → Q [vb true] [.mp 3 (esT c')] := fun c' h => by rw [hQ]; exact .inl ⟨c', h, rfl, rfl⟩
  have hQ0 : Z = none → ∀ es, Q [vb false] [.mp 3 es] := fun h es => by rw [hQ]; exact .inr ⟨h, rfl, es, rfl⟩
  clear hQ hR hF1 hF2
  have hlG : qw G = (gl.length : Int) := by rw [r1, hG, rF_len]
  have hlM : qw M = (ml.length : Int) := by rw [r1, hM, rF_len]
  refine loop_at hA (γ := Int × Int × List (R × R) × List (List D)) (fun x => [(27, vi .i64 x.1), (12, vi .i64 x.2.1), (11, .own 8), (15, .jk), (17, .jk), (20, .jk), (22, .jk)]) (fun x => [(0, .mp 3 x.2.2.1), (8, .row true 86 x.2.2.2)])
    (fun x => ∃ (k i : Nat) (left : List (ByteArray × Ty)) (c : List (Int × Ty)), x.1 = (k : Int) ∧ x.2.1 = (i : Int) ∧ k ≤ ml.length ∧ i ≤ gl.length ∧ left.Sublist (ml.take k) ∧ CB c ∧ x.2.2.1 = esT c ∧ x.2.2.2 = rF left ∧ (goC T (gl.drop i) (ml.drop k) left c).bind (endC (tailS g) (tailS s)) = Z) (fun x => ml.length - x.1.toNat) (0, 0, E0, []) ?_ ?_ ?_
  · exact ⟨0, 0, [], c0, rfl, rfl, Nat.zero_le _, Nat.zero_le _, List.nil_sublist _, hc0, hE0, rfl, hrc.symm⟩
  · cbv
  · intro x hinv
    obtain ⟨z, zi, E, L⟩ := x
    cbv
    repeat ((with_reducible apply next_at hA); cbv)
    try simp (maxSteps := 4000000) only [nc] at *
    obtain ⟨k, i, left, c, hz, hzi, hk, hi, hsub, hcb, hE, hL, hgo2⟩ := hinv
    have hlt : qh z (qw M) = decide (k < ml.length) := by rw [e7, hlM, hz]; exact decide_eq_decide.2 (by omega)
    have hll : left.length ≤ k := by have := hsub.length_le; rw [List.length_take] at this; omega
    have hLl : L.length ≤ 1048576 := by rw [hL, rF_len]; omega
    by_cases h9 : k < ml.length
    · rw [decide_eq_true h9] at hlt
      obtain ⟨x, hx⟩ : ∃ x, ml[k]? = some x := ⟨_, List.getElem?_eq_getElem h9⟩
      rw [drop_cons hx] at hgo2
      have hxm := List.mem_of_getElem? hx
      obtain ⟨xn, xt⟩ := x
      obtain ⟨x0, x1, x2, x3, hxx⟩ := cT_four xt
      have gx : qx M z = some [.sc (.string xn), x0, x1, x2, x3] := by rw [r2, hz, if_pos (by omega), hM, Int.toNat_natCast, rF_get hx, hxx]
      have hz1 : qa .i64 (qb z 1) = ((k + 1 : Nat) : Int) := by rw [e1, e2, hz, IntWalk.i64_in _ (by omega)]; omega
      have hmu : ml.length - (qa .i64 (qb z 1)).toNat < ml.length - z.toNat := by rw [hz1, hz]; omega
      have hadd : qz L [[.sc (.string xn), x0, x1, x2, x3]] = rF (left ++ [(xn, xt)]) := by rw [r4, rF_snoc, hL, hxx]
      have hsub2 : (left ++ [(xn, xt)]).Sublist (ml.take (k + 1)) := by rw [take_one hx]; exact hsub.append (List.Sublist.refl _)
      by_cases hil : i < gl.length
      · obtain ⟨f, hf⟩ : ∃ f, gl[i]? = some f := ⟨_, List.getElem?_eq_getElem hil⟩
        rw [drop_cons hf, goC] at hgo2
        have hfmm := List.mem_of_getElem? hf
        obtain ⟨fn, ft⟩ := f
        obtain ⟨f0, f1, f2, f3, hff⟩ := cT_four ft
        have gf : qx G zi = some [.sc (.string fn), f0, f1, f2, f3] := by rw [r2, hzi, if_pos (by omega), hG, Int.toNat_natCast, rF_get hf, hff]
        have t1 : qh zi (qw G) = true := by rw [e7, hlG, hzi]; exact decide_eq_true (by omega)
        have t2 : qj zi (qw G) = false := by rw [e9, hlG, hzi, beq_eq_false_iff_ne]; omega
        have t3 : qm (qo fn) (qo xn) = ltF (fn, ft) (xn, xt) := by rw [s2', s3', s3']; rfl
        have t4 : ql (qo fn) (qo xn) = decide (fn = xn) := by
          rw [s1', s3', s3']
          by_cases h : fn = xn
          · rw [decide_eq_true h, h]; exact beq_self_eq_true _
          · rw [decide_eq_false h, beq_eq_false_iff_ne]; exact fun e => h (bytes_toList.1 e)
        rw [hlt]
        cases hlf : ltF (fn, ft) (xn, xt)
        · rw [hlf] at t3 hgo2
          rw [if_neg (by simp)] at hgo2
          by_cases hne : fn = xn
          · rw [decide_eq_true hne] at t4
            rw [if_neg (fun h => h hne)] at hgo2
            obtain ⟨hty, htc⟩ := hT (fn, ft) hfmm (xn, xt) hxm c hcb
            simp only at hty hgo2 htc
            rw [hff, hxx, ← hE] at hty
            have hi1 : qa .i64 (qb zi 1) = ((i + 1 : Nat) : Int) := by rw [e1, e2, hzi, IntWalk.i64_in _ (by omega)]; omega
            cbv
            repeat (first | (with_reducible apply next_at hA; cbv) | (rw [gx]; cbv) | (rw [gf]; cbv) | (rw [t1]; cbv) | (rw [t2]; cbv) | (rw [t3]; cbv) | (rw [t4]; cbv))
            try cbv
            repeat (first | (with_reducible apply next_at hA; cbv) | (rw [gx]; cbv) | (rw [gf]; cbv) | (rw [t1]; cbv) | (rw [t2]; cbv) | (rw [t3]; cbv) | (rw [t4]; cbv))
            try simp (maxSteps := 4000000) only [nc] at *
            refine callo_at hA [0] hty ⟨rfl, rfl, rfl, rfl, rfl, rfl, rfl⟩ ?_
            rintro res os2 (⟨c', hc', rfl, rfl⟩ | ⟨hc', rfl, es', rfl⟩)
            · rw [hc'] at hgo2
              simp only [Option.bind_some] at hgo2
              have hcb' := htc c' hc'
              obtain ⟨E', hE'⟩ : ∃ E, E = esT c' := ⟨_, rfl⟩
              rw [← hE']
              cbv
              repeat ((with_reducible apply next_at hA); cbv)
              refine ⟨(qa .i64 (qb z 1), qa .i64 (qb zi 1), E', L), ⟨k + 1, i + 1, left, c', hz1, hi1, h9, hil, hsub.trans (List.take_sublist_take_left (by omega)), hcb', hE', hL, hgo2⟩, hmu, ?_⟩
              cbv
            · rw [hc'] at hgo2
              replace hQ0 := hQ0 hgo2.symm es'
              cbv
              repeat ((with_reducible apply next_at hA); cbv)
              exact keep_is hA [0] ⟨rfl, rfl, rfl, rfl, rfl, rfl, rfl, rfl⟩ hQ0
          · rw [decide_eq_false hne] at t4
            rw [if_pos hne, ← drop_cons hf] at hgo2
            cbv
            repeat (first | (with_reducible apply next_at hA; cbv) | (rw [gx]; cbv) | (rw [gf]; cbv) | (rw [t1]; cbv) | (rw [t2]; cbv) | (rw [t3]; cbv) | (rw [t4]; cbv) | (refine lit_at hA true ?_; cbv) | (refine room_at hA (by simp only [List.length_cons, List.length_nil]; omega) ?_; cbv))
            try cbv
            repeat (first | (with_reducible apply next_at hA; cbv) | (rw [gx]; cbv) | (rw [gf]; cbv) | (rw [t1]; cbv) | (rw [t2]; cbv) | (rw [t3]; cbv) | (rw [t4]; cbv) | (refine lit_at hA true ?_; cbv) | (refine room_at hA (by simp only [List.length_cons, List.length_nil]; omega) ?_; cbv))
            try simp (maxSteps := 4000000) only [nc] at *
            refine ⟨(qa .i64 (qb z 1), zi, E, qz L [[.sc (.string xn), x0, x1, x2, x3]]), ⟨k + 1, i, left ++ [(xn, xt)], c, hz1, hzi, h9, hi, hsub2, hcb, hE, hadd, hgo2⟩, hmu, ?_⟩
            cbv
        · rw [hlf] at t3 hgo2
          rw [if_pos rfl] at hgo2
          replace hQ0 := hQ0 hgo2.symm E
          cbv
          repeat (first | (with_reducible apply next_at hA; cbv) | (rw [gx]; cbv) | (rw [gf]; cbv) | (rw [t1]; cbv) | (rw [t3]; cbv))
          try cbv
          repeat (first | (with_reducible apply next_at hA; cbv) | (rw [gx]; cbv) | (rw [gf]; cbv) | (rw [t1]; cbv) | (rw [t3]; cbv))
          try simp (maxSteps := 4000000) only [nc] at *
          exact keep_is hA [0] ⟨rfl, rfl, rfl, rfl, rfl, rfl, rfl, rfl⟩ hQ0
      · have hi0 : gl.drop i = [] := List.drop_eq_nil_of_le (by omega)
        rw [hi0, goC] at hgo2
        have t1 : qh zi (qw G) = false := by rw [e7, hlG, hzi]; exact decide_eq_false (by omega)
        have t2 : qj zi (qw G) = true := by rw [e9, hlG, hzi, beq_iff_eq]; omega
        rw [hlt]
        cbv
        repeat (first | (with_reducible apply next_at hA; cbv) | (rw [gx]; cbv) | (rw [t1]; cbv) | (rw [t2]; cbv) | (refine lit_at hA true ?_; cbv) | (refine room_at hA (by simp only [List.length_cons, List.length_nil]; omega) ?_; cbv))
        try cbv
        repeat (first | (with_reducible apply next_at hA; cbv) | (rw [gx]; cbv) | (rw [t1]; cbv) | (rw [t2]; cbv) | (refine lit_at hA true ?_; cbv) | (refine room_at hA (by simp only [List.length_cons, List.length_nil]; omega) ?_; cbv))
        try simp (maxSteps := 4000000) only [nc] at *
        refine ⟨(qa .i64 (qb z 1), zi, E, qz L [[.sc (.string xn), x0, x1, x2, x3]]), ⟨k + 1, i, left ++ [(xn, xt)], c, hz1, hzi, h9, hi, hsub2, hcb, hE, hadd, by rw [hi0]; exact hgo2⟩, hmu, ?_⟩
        cbv
    · rw [decide_eq_false h9] at hlt
      rw [List.drop_eq_nil_of_le (show ml.length ≤ k by omega)] at hgo2
      have hsubm : left.Sublist ml := hsub.trans (List.take_sublist _ _)
      rw [hlt]
      by_cases hil : i < gl.length
      · obtain ⟨f, hf⟩ : ∃ f, gl[i]? = some f := ⟨_, List.getElem?_eq_getElem hil⟩
        rw [drop_cons hf, goC] at hgo2
        have t1 : qh zi (qw G) = true := by rw [e7, hlG, hzi]; exact decide_eq_true (by omega)
        replace hQ0 := hQ0 hgo2.symm E
        cbv
        repeat (first | (with_reducible apply next_at hA; cbv) | (rw [t1]; cbv))
        try cbv
        repeat (first | (with_reducible apply next_at hA; cbv) | (rw [t1]; cbv))
        try simp (maxSteps := 4000000) only [nc] at *
        exact keep_is hA [0] ⟨rfl, rfl, rfl, rfl, rfl, rfl, rfl, rfl⟩ hQ0
      · have hi0 : gl.drop i = [] := List.drop_eq_nil_of_le (by omega)
        rw [hi0, goC] at hgo2
        simp only [Option.bind_some] at hgo2
        unfold endC at hgo2
        rw [hgo, hgn, hso] at hgo2
        simp only at hgo2
        have t1 : qh zi (qw G) = false := by rw [e7, hlG, hzi]; exact decide_eq_false (by omega)
        have t10 : qj gop 10 = decide (gop = 10) := e9 _ _
        by_cases h10 : gop = 10
        · rw [decide_eq_true h10] at t10
          rw [if_pos h10] at hgo2
          have hJ := hjoin left hsubm
          have hB := bind_s c gn (rowS left (tailS s)) hcb (.inr (hrest left hsubm))
          rw [← hL] at hJ
          rw [← hE, hgo2] at hB
          obtain ⟨y0, y1, y2, y3, hyy⟩ := cT_four (rowS left (tailS s))
          rw [hyy] at hJ hB
          cbv
          repeat (first | (with_reducible apply next_at hA; cbv) | (rw [t1]; cbv) | (rw [t10]; cbv) | (refine calm_at hA _ hJ ?_; cbv))
          try cbv
          repeat (first | (with_reducible apply next_at hA; cbv) | (rw [t1]; cbv) | (rw [t10]; cbv) | (refine calm_at hA _ hJ ?_; cbv))
          try simp (maxSteps := 4000000) only [nc] at *
          refine callo_at hA [0] hB ⟨rfl, rfl, rfl, rfl, rfl, rfl, rfl⟩ ?_
          rintro res os2 (⟨c', hc', rfl, rfl⟩ | ⟨hc', rfl, es', rfl⟩)
          · replace hQ1 := hQ1 c' hc'
            generalize esT c' = E' at *
            cbv
            repeat ((with_reducible apply next_at hA); cbv)
            exact keep_is hA [0] ⟨rfl, rfl, rfl, rfl, rfl, rfl, rfl, rfl⟩ hQ1
          · replace hQ0 := hQ0 hc' es'
            cbv
            repeat ((with_reducible apply next_at hA); cbv)
            exact keep_is hA [0] ⟨rfl, rfl, rfl, rfl, rfl, rfl, rfl, rfl⟩ hQ0
        · rw [decide_eq_false h10] at t10
          rw [if_neg h10] at hgo2
          have hlL : qw L = (left.length : Int) := by rw [r1, hL, rF_len]
          have t0 : qj (qw L) 0 = decide (left = []) := by
            rw [e9, hlL]
            cases left with
            | nil => rfl
            | cons a l => rw [decide_eq_false (by simp), beq_eq_false_iff_ne]; simp only [List.length_cons]; omega
          have tt : qj gop sop = decide (gop = sop) := e9 _ _
          by_cases hle : left = []
          · rw [decide_eq_true hle] at t0
            by_cases hop : gop = sop
            · rw [decide_eq_true hop] at tt
              rw [if_pos ⟨hle, hop⟩] at hgo2
              replace hQ1 := hQ1 c hgo2.symm
              rw [← hE] at hQ1
              cbv
              repeat (first | (with_reducible apply next_at hA; cbv) | (rw [t1]; cbv) | (rw [t10]; cbv) | (rw [t0]; cbv) | (rw [tt]; cbv))
              try cbv
              repeat (first | (with_reducible apply next_at hA; cbv) | (rw [t1]; cbv) | (rw [t10]; cbv) | (rw [t0]; cbv) | (rw [tt]; cbv))
              try simp (maxSteps := 4000000) only [nc] at *
              exact keep_is hA [0] ⟨rfl, rfl, rfl, rfl, rfl, rfl, rfl, rfl⟩ hQ1
            · rw [decide_eq_false hop] at tt
              rw [if_neg (fun h => hop h.2)] at hgo2
              replace hQ0 := hQ0 hgo2.symm E
              cbv
              repeat (first | (with_reducible apply next_at hA; cbv) | (rw [t1]; cbv) | (rw [t10]; cbv) | (rw [t0]; cbv) | (rw [tt]; cbv))
              try cbv
              repeat (first | (with_reducible apply next_at hA; cbv) | (rw [t1]; cbv) | (rw [t10]; cbv) | (rw [t0]; cbv) | (rw [tt]; cbv))
              try simp (maxSteps := 4000000) only [nc] at *
              exact keep_is hA [0] ⟨rfl, rfl, rfl, rfl, rfl, rfl, rfl, rfl⟩ hQ0
          · rw [decide_eq_false hle] at t0
            rw [if_neg (fun h => hle h.1)] at hgo2
            replace hQ0 := hQ0 hgo2.symm E
            cbv
            repeat (first | (with_reducible apply next_at hA; cbv) | (rw [t1]; cbv) | (rw [t10]; cbv) | (rw [t0]; cbv) | (rw [tt]; cbv))
            try cbv
            repeat (first | (with_reducible apply next_at hA; cbv) | (rw [t1]; cbv) | (rw [t10]; cbv) | (rw [t0]; cbv) | (rw [tt]; cbv))
            try simp (maxSteps := 4000000) only [nc] at *
            exact keep_is hA [0] ⟨rfl, rfl, rfl, rfl, rfl, rfl, rfl, rfl⟩ hQ0
end Go.Proofs.Ytclehkgnacekkaa.Vm
end

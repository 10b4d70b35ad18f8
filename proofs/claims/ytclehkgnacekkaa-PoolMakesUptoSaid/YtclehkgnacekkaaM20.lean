/- Part 20 of the proof: VPM4. Conditions: none. -/
import Derived.Test.YtclehkgnacekkaaM12
import Derived.Test.YtclehkgnacekkaaM17
import Derived.Test.YtclehkgnacekkaaM18
import Derived.Test.YtclehkgnacekkaaM19
set_option linter.all false
set_option linter.unusedVariables false
set_option linter.unusedSimpArgs false
section
namespace Go.Proofs.Ytclehkgnacekkaa.Vm
open Go.RowKit
set_option maxRecDepth 100000
set_option maxHeartbeats 8000000
theorem pm_out (l : List Ty) (op : Int) (nm : ByteArray) (ks : List Int) (h : 8 < l.length ∨ 5 < ks.length) : Spec 7 [.one (.sl 4 (rT l)), .one (.sc (.int .u8 op)), .one (.sc (.string nm)), .one (.sl 1 (rI ks))] [.one (.sc (.bool true))] := by
  have hal := alive_s
  obtain ⟨A, hA0⟩ : ∃ A, A = rT l := ⟨_, rfl⟩
  obtain ⟨B, hB0⟩ : ∃ B, B = rI ks := ⟨_, rfl⟩
  rw [← hA0, ← hB0]
  have hAl : A.length = l.length := by rw [hA0, rT_len]
  have hBl : B.length = ks.length := by rw [hB0, rI_len]
  refine spec_of Try.func7 rfl (by kernel_rfl) (by kernel_rfl) (by kernel_rfl) fun qa qb qc qd qe qf qg qh qi qj qk ql qm qo qp qs qt qu qv qx qy qz va vc vd ve vf vg vh vj vk vl vm vn vo vp vq vr vt hA => ?_
  obtain ⟨e1, e2, e3, e4, e5, e6, e7, e8, e9⟩ := ar_at hA
  obtain ⟨r1, r2, r3, r4⟩ := row_at hA
  have q1 : qh 8 (qy A) = decide (8 < l.length) := by rw [e7, r1, hAl]; exact decide_eq_decide.2 (by omega)
  have q2 : qh 5 (qy B) = decide (5 < ks.length) := by rw [e7, r1, hBl]; exact decide_eq_decide.2 (by omega)
  by_cases c1 : 8 < l.length
  · rw [decide_eq_true c1] at q1
    cbv
    repeat (first | (with_reducible apply next_at hA; cbv) | (rw [q1]; cbv) | (refine call_at hA _ hal rfl ?_; cbv) | (refine calm_at hA _ hal ?_; cbv))
    try cbv
    repeat (first | (with_reducible apply next_at hA; cbv) | (rw [q1]; cbv) | (refine call_at hA _ hal rfl ?_; cbv) | (refine calm_at hA _ hal ?_; cbv))
    try simp (maxSteps := 4000000) only [nc] at *
  · rw [decide_eq_false c1] at q1
    rw [decide_eq_true (h.resolve_left c1)] at q2
    cbv
    repeat (first | (with_reducible apply next_at hA; cbv) | (rw [q1]; cbv) | (rw [q2]; cbv) | (refine call_at hA _ hal rfl ?_; cbv) | (refine calm_at hA _ hal ?_; cbv))
    try cbv
    repeat (first | (with_reducible apply next_at hA; cbv) | (rw [q1]; cbv) | (rw [q2]; cbv) | (refine call_at hA _ hal rfl ?_; cbv) | (refine calm_at hA _ hal ?_; cbv))
    try simp (maxSteps := 4000000) only [nc] at *
theorem pm_main (l : List Ty) (op : Int) (nm : ByteArray) (ks : List Int) (hlp : ∀ x ∈ l, Sm x) (hn : nm.size ≤ 1048576) (c1 : ¬ 8 < l.length) (c2 : ¬ 5 < ks.length) : Spec 7 [.one (.sl 4 (rT l)), .one (.sc (.int .u8 op)), .one (.sc (.string nm)), .one (.sl 1 (rI ks))] [.one (.sc (.bool true))] := by
  have hal := alive_s
  have hnew := new9_s
  obtain ⟨A, hA0⟩ : ∃ A, A = rT l := ⟨_, rfl⟩
  obtain ⟨B, hB0⟩ : ∃ B, B = rI ks := ⟨_, rfl⟩
  rw [← hA0, ← hB0]
  have hAl : A.length = l.length := by rw [hA0, rT_len]
  have hBl : B.length = ks.length := by rw [hB0, rI_len]
  rw [PO_eq] at hnew
  obtain ⟨F0, hF0⟩ : ∃ F, F = fndF 0 [] := ⟨_, rfl⟩
  obtain ⟨W0, hW0⟩ : ∃ F, F = vrsF 0 [] := ⟨_, rfl⟩
  obtain ⟨N0, hN0⟩ : ∃ F, F = nxtF [] := ⟨_, rfl⟩
  obtain ⟨C0, hC0⟩ : ∃ F, F = List.map cC [] := ⟨_, rfl⟩
  rw [← hF0, ← hW0, ← hN0, ← hC0] at hnew
  unfold PQ at hnew
  refine spec_of Try.func7 rfl (by kernel_rfl) (by kernel_rfl) (by kernel_rfl) fun qa qb qc qd qe qf qg qh qi qj qk ql qm qo qp qs qt qu qv qx qy qz va vc vd ve vf vg vh vj vk vl vm vn vo vp vq vr vt hA => ?_
  obtain ⟨e1, e2, e3, e4, e5, e6, e7, e8, e9⟩ := ar_at hA
  obtain ⟨r1, r2, r3, r4⟩ := row_at hA
  have q1 : qh 8 (qy A) = false := by rw [e7, r1, hAl]; exact decide_eq_false (by omega)
  have q2 : qh 5 (qy B) = false := by rw [e7, r1, hBl]; exact decide_eq_false (by omega)
  have q0 : qj 0 0 = true := e9 _ _
  have qw : qa .i64 0 = 0 := by rw [e1]; rfl
  cbv
  repeat (first | (with_reducible apply next_at hA; cbv) | (rw [q1]; cbv) | (rw [q2]; cbv) | (refine call_at hA _ hal rfl ?_; cbv) | (refine calm_at hA _ hal ?_; cbv))
  try cbv
  repeat (first | (with_reducible apply next_at hA; cbv) | (rw [q1]; cbv) | (rw [q2]; cbv) | (refine call_at hA _ hal rfl ?_; cbv) | (refine calm_at hA _ hal ?_; cbv))
  try simp (maxSteps := 4000000) only [nc] at *
  refine callo_at hA [] hnew ⟨rfl, rfl, rfl, rfl, rfl, rfl, rfl⟩ ?_
  rintro _ _ ⟨rfl, rfl⟩
  cbv
  repeat (first | (refine ownbox_at hA 4 0 99 false rfl rfl ?_; cbv) | (refine own_at hA 11 46 true rfl ?_; cbv) | (refine own_at hA 12 25 true rfl ?_; cbv) | (with_reducible apply next_at hA; cbv))
  refine loop_at hA (γ := Int × (List (R × R) × List (R × R) × Int × List (List D)) × List (List D) × List (List D) × List (List D)) (fun x => [(13, vi .i64 x.1), (11, .own 6), (12, .own 7), (71, .jk), (14, .jk), (15, .jk)])
    (fun x => [(0, .box [.own 1, .mp 2, .mp 3, vi .i64 x.2.1.2.2.1]), (1, .row false 108 x.2.1.2.2.2), (2, .mp 105 x.2.1.1), (3, .mp 3 x.2.1.2.1), (5, .row false 99 x.2.2.1), (6, .row true 46 x.2.2.2.1), (7, .row true 25 x.2.2.2.2)])
    (fun x => ∃ (k : Nat) (cs : List Cel) (M : List Bd) (rs : List Int) (tys : List Ty), x.1 = (k : Int) ∧ k ≤ l.length ∧ x.2.1.1 = fndF 0 cs ∧ x.2.1.2.1 = vrsF 0 cs ∧ x.2.1.2.2.1 = nxtF cs ∧ x.2.1.2.2.2 = cs.map cC ∧ x.2.2.1 = M.map bC ∧ x.2.2.2.1 = rI rs ∧ x.2.2.2.2 = rT tys ∧ PMI cs M rs tys k)
    (fun x => l.length - x.1.toNat) (0, (F0, W0, N0, C0), [], [], []) ?_ ?_ ?_
  · exact ⟨0, [], [], [], [], rfl, Nat.zero_le _, hF0, hW0, hN0, hC0, rfl, rfl, by rw [rT], pmi_nil⟩
  · cbv
  rintro ⟨z, ⟨F, W, N, C⟩, BD, RF, TY⟩ hinv
  cbv
  repeat ((with_reducible apply next_at hA); cbv)
  try simp (maxSteps := 4000000) only [nc] at *
  obtain ⟨k, cs, M, rs, tys, hz, hk, hF, hW, hN', hC, hBD, hRF, hTY, hI⟩ := hinv
  replace hz : z = (k : Int) := hz
  replace hF : F = fndF 0 cs := hF
  replace hW : W = vrsF 0 cs := hW
  replace hN' : N = nxtF cs := hN'
  replace hC : C = cs.map cC := hC
  replace hBD : BD = M.map bC := hBD
  replace hRF : RF = rI rs := hRF
  replace hTY : TY = rT tys := hTY
  have hcl := hI.cl
  have hll := hI.ll
  have htl := hI.tl
  have hle2 := hI.len
  have hlt : qh z (qy A) = decide (k < l.length) := by rw [e7, r1, hAl, hz]; exact decide_eq_decide.2 (by omega)
  by_cases h9 : k < l.length
  · rw [decide_eq_true h9] at hlt
    obtain ⟨x, hx⟩ : ∃ x, l[k]? = some x := ⟨_, List.getElem?_eq_getElem h9⟩
    have hSx := hlp x (List.mem_of_getElem? hx)
    have hz1 : qa .i64 (qb z 1) = ((k + 1 : Nat) : Int) := by rw [e1, e2, hz, IntWalk.i64_in _ (by omega)]; omega
    have hmu : l.length - (qa .i64 (qb z 1)).toNat < l.length - z.toNat := by rw [hz1, hz]; omega
    have gx : qz A z = some (cT x) := by rw [r2, hz, if_pos (by omega), hA0, show ((k : Int)).toNat = k by omega, rT_get hx]
    have hP := Parts_s x hSx.1
    have hR := Right_s x hSx.1 hSx.2
    have hRw := Row_s x hSx.1 hSx.2
    obtain ⟨PT, hPT⟩ : ∃ PT, PT = rT x.parts := ⟨_, rfl⟩
    rw [← hPT] at hP
    have hPl : qh 100 (qy PT) = decide (100 < x.parts.length) := by rw [e7, r1, hPT, rT_len]; exact decide_eq_decide.2 (by omega)
    by_cases h100 : 100 < x.parts.length
    · rw [decide_eq_true h100] at hPl
      obtain ⟨x0, x1, x2, x3, hxx⟩ := cT_four x
      rw [hxx] at hP gx
      rw [hlt]
      cbv
      repeat (first | (with_reducible apply next_at hA; cbv) | (rw [gx]; cbv) | (rw [hPl]; cbv) | (refine call_at hA _ hP rfl ?_; cbv) | (refine calm_at hA _ hP ?_; cbv))
      try cbv
      repeat (first | (with_reducible apply next_at hA; cbv) | (rw [gx]; cbv) | (rw [hPl]; cbv) | (refine call_at hA _ hP rfl ?_; cbv) | (refine calm_at hA _ hP ?_; cbv))
      try simp (maxSteps := 4000000) only [nc] at *
    · rw [decide_eq_false h100] at hPl
      have hM := meet09_s x 0 hSx.1 M (by omega)
      have hMOe : MO M = [.box [.own 1], .row false 99 BD] := by rw [hBD]; rfl
      have hRFl : RF.length ≤ 1048576 := by rw [hRF, rI_len]; omega
      have hTYl : TY.length ≤ 1048576 := by rw [hTY, rT_len]; omega
      rw [hMOe] at hM
      have htake := fun h1 h2 => hI.take hSx (by omega) h1 h2
      have hAdd := fun h1 => Add9_yes x hSx 0 cs h1 (by omega)
      rw [PO_eq, ← hF, ← hW, ← hN', ← hC] at hAdd
      unfold PQ at hAdd
      obtain ⟨x0, x1, x2, x3, hxx⟩ := cT_four x
      have heit : eitherT x = (rightB x 116 || rightB x 114) := rfl
      have haddB : addsB cs x = (eitherT x && sortedB cs x) := rfl
      have htyS : rT (tys ++ [x]) = TY ++ [[x0, x1, x2, x3]] := by rw [hTY, ← hxx, rT_map, rT_map, List.map_append]; rfl
      rw [hxx] at hP hR hRw hM hAdd gx
      generalize hra : rightB x 116 = ra at *
      generalize hrb : rightB x 114 = rb at *
      rw [hlt]
      cases ra with
      | false =>
        cases rb with
        | false =>
          cbv
          repeat (first | (with_reducible apply next_at hA; cbv) | (rw [gx]; cbv) | (rw [hPl]; cbv) | (refine call_at hA _ hP rfl ?_; cbv) | (refine calm_at hA _ hP ?_; cbv) | (refine call_at hA _ hR rfl ?_; cbv) | (refine calm_at hA _ hR ?_; cbv) | (refine call_at hA _ hRw rfl ?_; cbv) | (refine calm_at hA _ hRw ?_; cbv))
          try cbv
          repeat (first | (with_reducible apply next_at hA; cbv) | (rw [gx]; cbv) | (rw [hPl]; cbv) | (refine call_at hA _ hP rfl ?_; cbv) | (refine calm_at hA _ hP ?_; cbv) | (refine call_at hA _ hR rfl ?_; cbv) | (refine calm_at hA _ hR ?_; cbv) | (refine call_at hA _ hRw rfl ?_; cbv) | (refine calm_at hA _ hRw ?_; cbv))
          try simp (maxSteps := 4000000) only [nc] at *
          refine ⟨(qa .i64 (qb z 1), (F, W, N, C), BD, RF, TY), ⟨k + 1, cs, M, rs, tys, hz1, h9, hF, hW, hN', hC, hBD, hRF, hTY, hI.skip⟩, hmu, ?_⟩
          cbv
        | true =>
          cbv
          repeat (first | (with_reducible apply next_at hA; cbv) | (rw [gx]; cbv) | (rw [hPl]; cbv) | (refine call_at hA _ hP rfl ?_; cbv) | (refine calm_at hA _ hP ?_; cbv) | (refine call_at hA _ hR rfl ?_; cbv) | (refine calm_at hA _ hR ?_; cbv) | (refine call_at hA _ hRw rfl ?_; cbv) | (refine calm_at hA _ hRw ?_; cbv))
          try cbv
          repeat (first | (with_reducible apply next_at hA; cbv) | (rw [gx]; cbv) | (rw [hPl]; cbv) | (refine call_at hA _ hP rfl ?_; cbv) | (refine calm_at hA _ hP ?_; cbv) | (refine call_at hA _ hR rfl ?_; cbv) | (refine calm_at hA _ hR ?_; cbv) | (refine call_at hA _ hRw rfl ?_; cbv) | (refine calm_at hA _ hRw ?_; cbv))
          try simp (maxSteps := 4000000) only [nc] at *
          refine callo_at hA [4, 5] hM ⟨rfl, rfl, rfl, rfl, rfl, rfl, rfl⟩ ?_
          intro res os2 hq
          cases hmk : meetOk M x with
          | false =>
            obtain ⟨rfl, rfl⟩ := hq.2 hmk
            rw [hMOe]
            cbv
            repeat (first | (with_reducible apply next_at hA; cbv) | (rw [gx]; cbv))
            try cbv
            repeat (first | (with_reducible apply next_at hA; cbv) | (rw [gx]; cbv))
            try simp (maxSteps := 4000000) only [nc] at *
            refine ⟨(qa .i64 (qb z 1), (F, W, N, C), BD, RF, TY), ⟨k + 1, cs, M, rs, tys, hz1, h9, hF, hW, hN', hC, hBD, hRF, hTY, hI.skip⟩, hmu, ?_⟩
            cbv
          | true =>
            obtain ⟨rfl, rfl⟩ := hq.1 hmk
            have heT : eitherT x = true := by rw [heit]; rfl
            obtain ⟨hs1, hI2⟩ := htake heT hmk
            have hA9 := hAdd (by rw [haddB, heT, hs1]; rfl)
            obtain ⟨M2, hM2⟩ : ∃ M2, M2 = meetF 0 M x := ⟨_, rfl⟩
            obtain ⟨cs2, hcs2⟩ : ∃ cs2, cs2 = (addF 0 (canonS x) cs).2 := ⟨_, rfl⟩
            obtain ⟨zr, hzr⟩ : ∃ zr, zr = (((addF 0 (canonS x) cs).1 : Nat) : Int) := ⟨_, rfl⟩
            rw [← hM2, ← hcs2, ← hzr] at hI2
            rw [← hcs2, ← hzr] at hA9
            rw [← hM2]
            obtain ⟨BD2, hBD2⟩ : ∃ BD2, BD2 = M2.map bC := ⟨_, rfl⟩
            obtain ⟨F2, hF2⟩ : ∃ F, F = fndF 0 cs2 := ⟨_, rfl⟩
            obtain ⟨W2, hW2⟩ : ∃ F, F = vrsF 0 cs2 := ⟨_, rfl⟩
            obtain ⟨N2, hN2⟩ : ∃ F, F = nxtF cs2 := ⟨_, rfl⟩
            obtain ⟨C2, hC2⟩ : ∃ F, F = cs2.map cC := ⟨_, rfl⟩
            rw [PO_eq, ← hF2, ← hW2, ← hN2, ← hC2] at hA9
            unfold PQ at hA9
            rw [show MO M2 = [.box [.own 1], .row false 99 BD2] by rw [hBD2]; rfl]
            cbv
            repeat (first | (with_reducible apply next_at hA; cbv) | (rw [gx]; cbv))
            try cbv
            repeat (first | (with_reducible apply next_at hA; cbv) | (rw [gx]; cbv))
            try simp (maxSteps := 4000000) only [nc] at *
            refine callo_at hA [0, 1, 2, 3] hA9 ⟨rfl, rfl, rfl, rfl, rfl, rfl, rfl⟩ ?_
            rintro _ _ ⟨rfl, rfl⟩
            cbv
            repeat (first | (with_reducible apply next_at hA; cbv) | (rw [gx]; cbv) | (rw [q0]; cbv) | (rw [qw]; cbv) | (refine lit_at hA true ?_; cbv) | (refine room_at hA (by simp only [List.length_cons, List.length_nil]; omega) ?_; cbv))
            try cbv
            repeat (first | (with_reducible apply next_at hA; cbv) | (rw [gx]; cbv) | (rw [q0]; cbv) | (rw [qw]; cbv) | (refine lit_at hA true ?_; cbv) | (refine room_at hA (by simp only [List.length_cons, List.length_nil]; omega) ?_; cbv))
            try simp (maxSteps := 4000000) only [nc] at *
            refine ⟨(qa .i64 (qb z 1), (F2, W2, N2, C2), BD2, vc RF [[.sc (.int .i64 zr)]], vc TY [[x0, x1, x2, x3]]), ⟨k + 1, cs2, M2, rs ++ [zr], tys ++ [x], hz1, h9, hF2, hW2, hN2, hC2, hBD2, by show vc RF _ = _; rw [r4, hRF, rI_snoc], by show vc TY _ = _; rw [r4, htyS], hI2⟩, hmu, ?_⟩
            cbv
      | true =>
        cbv
        repeat (first | (with_reducible apply next_at hA; cbv) | (rw [gx]; cbv) | (rw [hPl]; cbv) | (refine call_at hA _ hP rfl ?_; cbv) | (refine calm_at hA _ hP ?_; cbv) | (refine call_at hA _ hR rfl ?_; cbv) | (refine calm_at hA _ hR ?_; cbv) | (refine call_at hA _ hRw rfl ?_; cbv) | (refine calm_at hA _ hRw ?_; cbv))
        try cbv
        repeat (first | (with_reducible apply next_at hA; cbv) | (rw [gx]; cbv) | (rw [hPl]; cbv) | (refine call_at hA _ hP rfl ?_; cbv) | (refine calm_at hA _ hP ?_; cbv) | (refine call_at hA _ hR rfl ?_; cbv) | (refine calm_at hA _ hR ?_; cbv) | (refine call_at hA _ hRw rfl ?_; cbv) | (refine calm_at hA _ hRw ?_; cbv))
        try simp (maxSteps := 4000000) only [nc] at *
        refine callo_at hA [4, 5] hM ⟨rfl, rfl, rfl, rfl, rfl, rfl, rfl⟩ ?_
        intro res os2 hq
        cases hmk : meetOk M x with
        | false =>
          obtain ⟨rfl, rfl⟩ := hq.2 hmk
          rw [hMOe]
          cbv
          repeat (first | (with_reducible apply next_at hA; cbv) | (rw [gx]; cbv))
          try cbv
          repeat (first | (with_reducible apply next_at hA; cbv) | (rw [gx]; cbv))
          try simp (maxSteps := 4000000) only [nc] at *
          refine ⟨(qa .i64 (qb z 1), (F, W, N, C), BD, RF, TY), ⟨k + 1, cs, M, rs, tys, hz1, h9, hF, hW, hN', hC, hBD, hRF, hTY, hI.skip⟩, hmu, ?_⟩
          cbv
        | true =>
          obtain ⟨rfl, rfl⟩ := hq.1 hmk
          have heT : eitherT x = true := by rw [heit]; rfl
          obtain ⟨hs1, hI2⟩ := htake heT hmk
          have hA9 := hAdd (by rw [haddB, heT, hs1]; rfl)
          obtain ⟨M2, hM2⟩ : ∃ M2, M2 = meetF 0 M x := ⟨_, rfl⟩
          obtain ⟨cs2, hcs2⟩ : ∃ cs2, cs2 = (addF 0 (canonS x) cs).2 := ⟨_, rfl⟩
          obtain ⟨zr, hzr⟩ : ∃ zr, zr = (((addF 0 (canonS x) cs).1 : Nat) : Int) := ⟨_, rfl⟩
          rw [← hM2, ← hcs2, ← hzr] at hI2
          rw [← hcs2, ← hzr] at hA9
          rw [← hM2]
          obtain ⟨BD2, hBD2⟩ : ∃ BD2, BD2 = M2.map bC := ⟨_, rfl⟩
          obtain ⟨F2, hF2⟩ : ∃ F, F = fndF 0 cs2 := ⟨_, rfl⟩
          obtain ⟨W2, hW2⟩ : ∃ F, F = vrsF 0 cs2 := ⟨_, rfl⟩
          obtain ⟨N2, hN2⟩ : ∃ F, F = nxtF cs2 := ⟨_, rfl⟩
          obtain ⟨C2, hC2⟩ : ∃ F, F = cs2.map cC := ⟨_, rfl⟩
          rw [PO_eq, ← hF2, ← hW2, ← hN2, ← hC2] at hA9
          unfold PQ at hA9
          rw [show MO M2 = [.box [.own 1], .row false 99 BD2] by rw [hBD2]; rfl]
          cbv
          repeat (first | (with_reducible apply next_at hA; cbv) | (rw [gx]; cbv))
          try cbv
          repeat (first | (with_reducible apply next_at hA; cbv) | (rw [gx]; cbv))
          try simp (maxSteps := 4000000) only [nc] at *
          refine callo_at hA [0, 1, 2, 3] hA9 ⟨rfl, rfl, rfl, rfl, rfl, rfl, rfl⟩ ?_
          rintro _ _ ⟨rfl, rfl⟩
          cbv
          repeat (first | (with_reducible apply next_at hA; cbv) | (rw [gx]; cbv) | (rw [q0]; cbv) | (rw [qw]; cbv) | (refine lit_at hA true ?_; cbv) | (refine room_at hA (by simp only [List.length_cons, List.length_nil]; omega) ?_; cbv))
          try cbv
          repeat (first | (with_reducible apply next_at hA; cbv) | (rw [gx]; cbv) | (rw [q0]; cbv) | (rw [qw]; cbv) | (refine lit_at hA true ?_; cbv) | (refine room_at hA (by simp only [List.length_cons, List.length_nil]; omega) ?_; cbv))
          try simp (maxSteps := 4000000) only [nc] at *
          refine ⟨(qa .i64 (qb z 1), (F2, W2, N2, C2), BD2, vc RF [[.sc (.int .i64 zr)]], vc TY [[x0, x1, x2, x3]]), ⟨k + 1, cs2, M2, rs ++ [zr], tys ++ [x], hz1, h9, hF2, hW2, hN2, hC2, hBD2, by show vc RF _ = _; rw [r4, hRF, rI_snoc], by show vc TY _ = _; rw [r4, htyS], hI2⟩, hmu, ?_⟩
          cbv
  · rw [decide_eq_false h9] at hlt
    clear hnew hF0 hW0 hN0 hC0
    generalize k = k0 at *
    have hRl : qy RF = ((rs.length : Nat) : Int) := by rw [r1, hRF, rI_len]
    rw [hlt]
    cbv
    repeat (first | (refine ownbox_at hA 8 3 25 true rfl rfl ?_; cbv) | (refine own_at hA 17 46 true rfl ?_; cbv) | (with_reducible apply next_at hA; cbv))
    refine loop_at hA (γ := Int × Bool × List (List D) × List (List D)) (fun x => [(19, vi .i64 x.1), (18, vb x.2.1), (17, .own 10)]) (fun x => [(9, .row true 25 x.2.2.2), (10, .row true 46 x.2.2.1)])
      (fun x => ∃ k : Nat, x.1 = (k : Int) ∧ k ≤ ks.length ∧ x.2.1 = (ks.take k).any (badI rs.length) ∧ x.2.2.1 = rI ((ks.take k).map (givI rs)) ∧ x.2.2.2 = rT ((ks.take k).flatMap (kidI tys))) (fun x => ks.length - x.1.toNat) (0, false, [], []) ?_ ?_ ?_
    · exact ⟨0, rfl, Nat.zero_le _, rfl, rfl, by rw [List.take_zero, List.flatMap_nil, rT]⟩
    · cbv
    clear hlt hz
    rintro ⟨z, st, G, TK⟩ hinv
    cbv
    repeat ((with_reducible apply next_at hA); cbv)
    try simp (maxSteps := 4000000) only [nc] at *
    obtain ⟨k, hz, hk, hst, hG, hTK⟩ := hinv
    replace hz : z = (k : Int) := hz
    replace hst : st = (ks.take k).any (badI rs.length) := hst
    replace hG : G = rI ((ks.take k).map (givI rs)) := hG
    replace hTK : TK = rT ((ks.take k).flatMap (kidI tys)) := hTK
    have hlt : qh z (qy B) = decide (k < ks.length) := by rw [e7, r1, hBl, hz]; exact decide_eq_decide.2 (by omega)
    by_cases h9 : k < ks.length
    · rw [decide_eq_true h9] at hlt
      obtain ⟨y, hy⟩ : ∃ y, ks[k]? = some y := ⟨_, List.getElem?_eq_getElem h9⟩
      have hz1 : qa .i64 (qb z 1) = ((k + 1 : Nat) : Int) := by rw [e1, e2, hz, IntWalk.i64_in _ (by omega)]; omega
      have hmu : ks.length - (qa .i64 (qb z 1)).toNat < ks.length - z.toNat := by rw [hz1, hz]; omega
      have gy : qz B z = some [.sc (.int .i64 y)] := by rw [r2, hz, if_pos (by omega), hB0, show ((k : Int)).toNat = k by omega, rI_get hy]
      have htk : ks.take (k + 1) = ks.take k ++ [y] := by rw [List.take_add_one, hy]; rfl
      have hGl : G.length ≤ 1048576 := by rw [hG, rI_len, List.length_map, List.length_take]; omega
      have hTKl : TK.length ≤ 1048576 := by
        rw [hTK, rT_len]
        have : ∀ l : List Int, (l.flatMap (kidI tys)).length ≤ l.length := by
          intro l
          induction l with
          | nil => simp
          | cons a l ih =>
            rw [List.flatMap_cons, List.length_append, List.length_cons]
            have : (kidI tys a).length ≤ 1 := by unfold kidI; split; simp; split <;> simp
            omega
        have h8 := this (ks.take k)
        rw [List.length_take] at h8
        omega
      by_cases hb : badI rs.length y = true
      · have hst2 : true = (ks.take (k + 1)).any (badI rs.length) := by rw [htk, List.any_append]; simp [hb]
        have hTK2 : TK = rT ((ks.take (k + 1)).flatMap (kidI tys)) := by
          rw [htk, List.flatMap_append, hTK]
          have : kidI tys y = [] := by unfold kidI; rw [hle2, if_pos hb]
          simp [this]
        have hneg : qa .i64 (qc (-1) (qf y 3)) = -1 - y.tmod 3 := by
          rw [e1, e3, e6, IntWalk.i64_in]
          have h1 := tmod3 y
          omega
        have hG2 : vc G [[.sc (.int .i64 (qa .i64 (qc (-1) (qf y 3))))]] = rI ((ks.take (k + 1)).map (givI rs)) := by
          rw [r4, htk, List.map_append, hG, hneg]
          have : givI rs y = -1 - y.tmod 3 := by unfold givI; rw [if_pos hb]
          simp only [List.map_cons, List.map_nil]
          rw [this, rI_snoc]
        by_cases hy0 : y < 0
        · have hq : qh y 0 = true := by rw [e7]; exact decide_eq_true hy0
          rw [hlt]
          cbv
          repeat (first | (with_reducible apply next_at hA; cbv) | (rw [gy]; cbv) | (rw [hq]; cbv) | (refine nz_at hA (by decide) ?_; cbv) | (refine lit_at hA true ?_; cbv) | (refine room_at hA (by simp only [List.length_cons, List.length_nil]; omega) ?_; cbv))
          try cbv
          repeat (first | (with_reducible apply next_at hA; cbv) | (rw [gy]; cbv) | (rw [hq]; cbv) | (refine nz_at hA (by decide) ?_; cbv) | (refine lit_at hA true ?_; cbv) | (refine room_at hA (by simp only [List.length_cons, List.length_nil]; omega) ?_; cbv))
          try simp (maxSteps := 4000000) only [nc] at *
          refine ⟨(qa .i64 (qb z 1), true, vc G _, TK), ⟨k + 1, hz1, h9, hst2, hG2, hTK2⟩, hmu, ?_⟩
          cbv
        · have hq : qh y 0 = false := by rw [e7]; exact decide_eq_false hy0
          have hq2 : qi (qy RF) y = true := by
            rw [e8, hRl]
            unfold badI at hb
            simp only [Bool.or_eq_true, decide_eq_true_eq] at hb
            exact decide_eq_true (by omega)
          rw [hlt]
          cbv
          repeat (first | (with_reducible apply next_at hA; cbv) | (rw [gy]; cbv) | (rw [hq]; cbv) | (rw [hq2]; cbv) | (refine nz_at hA (by decide) ?_; cbv) | (refine lit_at hA true ?_; cbv) | (refine room_at hA (by simp only [List.length_cons, List.length_nil]; omega) ?_; cbv))
          try cbv
          repeat (first | (with_reducible apply next_at hA; cbv) | (rw [gy]; cbv) | (rw [hq]; cbv) | (rw [hq2]; cbv) | (refine nz_at hA (by decide) ?_; cbv) | (refine lit_at hA true ?_; cbv) | (refine room_at hA (by simp only [List.length_cons, List.length_nil]; omega) ?_; cbv))
          try simp (maxSteps := 4000000) only [nc] at *
          refine ⟨(qa .i64 (qb z 1), true, vc G _, TK), ⟨k + 1, hz1, h9, hst2, hG2, hTK2⟩, hmu, ?_⟩
          cbv
      · have hb : badI rs.length y = false := by simpa using hb
        obtain ⟨hy0, hyl⟩ := badI_no hb
        have hst2 : st = (ks.take (k + 1)).any (badI rs.length) := by rw [htk, List.any_append, hst]; simp [hb]
        obtain ⟨t0, ht0⟩ : ∃ t, tys[y.toNat]? = some t := ⟨_, List.getElem?_eq_getElem (by omega)⟩
        obtain ⟨r0, hr0⟩ : ∃ r, rs[y.toNat]? = some r := ⟨_, List.getElem?_eq_getElem hyl⟩
        have gr : qz RF y = some [.sc (.int .i64 r0)] := by rw [r2, if_pos hy0, hRF, rI_get hr0]
        have gt : qz TY y = some (cT t0) := by rw [r2, if_pos hy0, hTY, rT_get ht0]
        have hG2 : vc G [[.sc (.int .i64 r0)]] = rI ((ks.take (k + 1)).map (givI rs)) := by
          rw [r4, htk, List.map_append, hG]
          have : givI rs y = r0 := by unfold givI; rw [if_neg (by rw [hb]; simp), hr0]; rfl
          simp only [List.map_cons, List.map_nil]
          rw [this, rI_snoc]
        have hTK2 : vc TK [cT t0] = rT ((ks.take (k + 1)).flatMap (kidI tys)) := by
          rw [htk, List.flatMap_append, r4, hTK]
          have : kidI tys y = [t0] := by unfold kidI; rw [hle2, if_neg (by rw [hb]; simp), ht0]
          simp only [List.flatMap_cons, List.flatMap_nil, List.append_nil, this]
          rw [rT_map, rT_map, List.map_append]
          rfl
        obtain ⟨x0, x1, x2, x3, hxx⟩ := cT_four t0
        rw [hxx] at gt hTK2
        have hq : qh y 0 = false := by rw [e7]; exact decide_eq_false (by omega)
        have hq2 : qi (qy RF) y = false := by rw [e8, hRl]; exact decide_eq_false (by omega)
        rw [hlt]
        cbv
        repeat (first | (with_reducible apply next_at hA; cbv) | (rw [gy]; cbv) | (rw [hq]; cbv) | (rw [hq2]; cbv) | (rw [gr]; cbv) | (rw [gt]; cbv) | (refine lit_at hA true ?_; cbv) | (refine room_at hA (by simp only [List.length_cons, List.length_nil]; omega) ?_; cbv))
        try cbv
        repeat (first | (with_reducible apply next_at hA; cbv) | (rw [gy]; cbv) | (rw [hq]; cbv) | (rw [hq2]; cbv) | (rw [gr]; cbv) | (rw [gt]; cbv) | (refine lit_at hA true ?_; cbv) | (refine room_at hA (by simp only [List.length_cons, List.length_nil]; omega) ?_; cbv))
        try simp (maxSteps := 4000000) only [nc] at *
        refine ⟨(qa .i64 (qb z 1), st, vc G [[.sc (.int .i64 r0)]], vc TK [[x0, x1, x2, x3]]), ⟨k + 1, hz1, h9, hst2, hG2, hTK2⟩, hmu, ?_⟩
        cbv
    · rw [decide_eq_false h9] at hlt
      have hkk : ks.take k = ks := List.take_of_length_le (by omega)
      rw [hkk] at hst hG hTK
      obtain ⟨gs, hgs⟩ : ∃ gs, gs = ks.map (givI rs) := ⟨_, rfl⟩
      obtain ⟨T, hT⟩ : ∃ T, T = ks.flatMap (kidI tys) := ⟨_, rfl⟩
      rw [← hgs] at hG
      rw [← hT] at hTK
      have hgl : gs.length = ks.length := by rw [hgs, List.length_map]
      have hGl : qy G = ((ks.length : Nat) : Int) := by rw [r1, hG, rI_len, hgl]
      rw [hlt]
      cbv
      repeat ((with_reducible apply next_at hA); cbv)
      clear hlt hz hk h9 hkk
      refine loop_at hA (γ := Int) (fun z => [(20, vi .i64 z)]) (fun _ => []) (fun z => ∃ k : Nat, z = (k : Int) ∧ k ≤ ks.length ∧ (st = true → ∀ (j : Nat) (y g : Int), j < k → ks[j]? = some y → gs[j]? = some g → badI rs.length y = true → g ≤ -1)) (fun z => ks.length - z.toNat) 0 ?_ ?_ ?_
      · exact ⟨0, rfl, Nat.zero_le _, fun _ j y g h => absurd h (Nat.not_lt_zero _)⟩
      · cbv
      rintro z hinv
      cbv
      repeat ((with_reducible apply next_at hA); cbv)
      try simp (maxSteps := 4000000) only [nc] at *
      obtain ⟨k, hz, hk, hE⟩ := hinv
      replace hz : z = (k : Int) := hz
      have hlt : qh z (qy G) = decide (k < ks.length) := by rw [e7, hGl, hz]; exact decide_eq_decide.2 (by omega)
      by_cases h9 : k < ks.length
      · rw [decide_eq_true h9] at hlt
        obtain ⟨y, hy⟩ : ∃ y, ks[k]? = some y := ⟨_, List.getElem?_eq_getElem h9⟩
        obtain ⟨g, hg⟩ : ∃ g, gs[k]? = some g := ⟨_, List.getElem?_eq_getElem (by omega)⟩
        have hz1 : qa .i64 (qb z 1) = ((k + 1 : Nat) : Int) := by rw [e1, e2, hz, IntWalk.i64_in _ (by omega)]; omega
        have hmu : ks.length - (qa .i64 (qb z 1)).toNat < ks.length - z.toNat := by rw [hz1, hz]; omega
        have gy : qz B z = some [.sc (.int .i64 y)] := by rw [r2, hz, if_pos (by omega), hB0, show ((k : Int)).toNat = k by omega, rI_get hy]
        have gg : qz G z = some [.sc (.int .i64 g)] := by rw [r2, hz, if_pos (by omega), hG, show ((k : Int)).toNat = k by omega, rI_get hg]
        have hstep : (st = true → badI rs.length y = true → g ≤ -1) → (st = true → ∀ (j : Nat) (y g : Int), j < k + 1 → ks[j]? = some y → gs[j]? = some g → badI rs.length y = true → g ≤ -1) := fun h hs j y' g' hj hyj hgj hb => by
          rcases Nat.lt_or_ge j k with hj2 | hj2
          · exact hE hs j y' g' hj2 hyj hgj hb
          · have : j = k := by omega
            subst this
            rw [hy] at hyj
            rw [hg] at hgj
            cases hyj
            cases hgj
            exact h hs hb
        have hng : qh (-1) g = decide (-1 < g) := e7 _ _
        have hy0 : qh y 0 = decide (y < 0) := e7 _ _
        have hyl : qi (qy RF) y = decide ((rs.length : Int) ≤ y) := by rw [e8, hRl]
        have hbd : badI rs.length y = (decide (y < 0) || decide ((rs.length : Int) ≤ y)) := rfl
        generalize hbb : badI rs.length y = bb at *
        generalize decide (y < 0) = b0 at *
        generalize decide ((rs.length : Int) ≤ y) = b1 at *
        rw [hlt]
        cases hstv : st with
        | false =>
          rw [hstv] at hstep
          cbv
          repeat (first | (with_reducible apply next_at hA; cbv) | (rw [gg]; cbv) | (rw [gy]; cbv))
          try cbv
          repeat (first | (with_reducible apply next_at hA; cbv) | (rw [gg]; cbv) | (rw [gy]; cbv))
          try simp (maxSteps := 4000000) only [nc] at *
          refine ⟨qa .i64 (qb z 1), ⟨k + 1, hz1, h9, fun h => (by first | cases h | (rw [hstv] at h; cases h))⟩, hmu, ?_⟩
          cbv
        | true =>
          by_cases hg1 : -1 < g
          · rw [decide_eq_true hg1] at hng
            cases b0
            · cases b1
              · cbv
                repeat (first | (with_reducible apply next_at hA; cbv) | (rw [gg]; cbv) | (rw [gy]; cbv) | (rw [hng]; cbv) | (rw [hy0]; cbv) | (rw [hyl]; cbv))
                try cbv
                repeat (first | (with_reducible apply next_at hA; cbv) | (rw [gg]; cbv) | (rw [gy]; cbv) | (rw [hng]; cbv) | (rw [hy0]; cbv) | (rw [hyl]; cbv))
                try simp (maxSteps := 4000000) only [nc] at *
                refine ⟨qa .i64 (qb z 1), ⟨k + 1, hz1, h9, fun _ => hstep (fun _ h => (by rw [hbd] at h; cases h)) hstv⟩, hmu, ?_⟩
                cbv
              · cbv
                repeat (first | (with_reducible apply next_at hA; cbv) | (rw [gg]; cbv) | (rw [gy]; cbv) | (rw [hng]; cbv) | (rw [hy0]; cbv) | (rw [hyl]; cbv))
                try cbv
                repeat (first | (with_reducible apply next_at hA; cbv) | (rw [gg]; cbv) | (rw [gy]; cbv) | (rw [hng]; cbv) | (rw [hy0]; cbv) | (rw [hyl]; cbv))
                try simp (maxSteps := 4000000) only [nc] at *
            · cbv
              repeat (first | (with_reducible apply next_at hA; cbv) | (rw [gg]; cbv) | (rw [gy]; cbv) | (rw [hng]; cbv) | (rw [hy0]; cbv) | (rw [hyl]; cbv))
              try cbv
              repeat (first | (with_reducible apply next_at hA; cbv) | (rw [gg]; cbv) | (rw [gy]; cbv) | (rw [hng]; cbv) | (rw [hy0]; cbv) | (rw [hyl]; cbv))
              try simp (maxSteps := 4000000) only [nc] at *
          · rw [decide_eq_false hg1] at hng
            cbv
            repeat (first | (with_reducible apply next_at hA; cbv) | (rw [gg]; cbv) | (rw [gy]; cbv) | (rw [hng]; cbv))
            try cbv
            repeat (first | (with_reducible apply next_at hA; cbv) | (rw [gg]; cbv) | (rw [gy]; cbv) | (rw [hng]; cbv))
            try simp (maxSteps := 4000000) only [nc] at *
            refine ⟨qa .i64 (qb z 1), ⟨k + 1, hz1, h9, fun _ => hstep (fun _ _ => (by omega)) hstv⟩, hmu, ?_⟩
            cbv
      · rw [decide_eq_false h9] at hlt
        have hkk : k = ks.length := by omega
        rw [hkk] at hE
        have hMk := make9_s op nm gs cs hn (by omega)
        obtain ⟨zr, hzr⟩ : ∃ zr, zr = (((putC op nm (kA gs) (kB gs) cs).1 : Nat) : Int) := ⟨_, rfl⟩
        obtain ⟨cs3, hcs3⟩ : ∃ c, c = (putC op nm (kA gs) (kB gs) cs).2 := ⟨_, rfl⟩
        rw [← hzr, ← hcs3] at hMk
        rw [← hG, PO_eq, ← hF, ← hW, ← hN', ← hC] at hMk
        unfold PQ at hMk
        rw [hlt]
        cbv
        repeat (first | (refine reado_at hA 17 10 (.sl 1 G) rfl rfl ?_; cbv) | (with_reducible apply next_at hA; cbv))
        refine callo_at hA [0, 1, 2, 3] hMk ⟨rfl, rfl, rfl, rfl, rfl, rfl, rfl⟩ ?_
        intro res os2 hq
        have q15 : qa .i64 15 = 15 := by rw [e1]; rfl
        have q15e : qj 15 15 = true := e9 _ _
        have q00 : qb 0 0 = 0 := e2 _ _
        by_cases hstv : st = true
        · have hmk : makeB cs op nm gs = false := by
            refine make_strange ?_
            rw [hst, List.any_eq_true] at hstv
            obtain ⟨y, hym, hyb⟩ := hstv
            obtain ⟨j, hj⟩ := List.mem_iff_getElem?.1 hym
            obtain ⟨g, hg⟩ : ∃ g, gs[j]? = some g := get_of_len hgl.symm hj
            refine ⟨g, List.mem_of_getElem? hg, hE (by rw [hst, List.any_eq_true]; exact ⟨y, hym, hyb⟩) j y g (List.getElem?_eq_some_iff.1 hj).1 hj hg hyb⟩
          obtain ⟨rfl, rfl⟩ := hq.2 hmk
          clear hst
          subst hstv
          cbv
          repeat (first | (with_reducible apply next_at hA; cbv) | (rw [q15]; cbv) | (rw [q15e]; cbv) | (rw [q0]; cbv))
          try cbv
          repeat (first | (with_reducible apply next_at hA; cbv) | (rw [q15]; cbv) | (rw [q15e]; cbv) | (rw [q0]; cbv))
          try simp (maxSteps := 4000000) only [nc] at *
        · have hstf : st = false := by simpa using hstv
          have hks : ∀ z ∈ ks, badI rs.length z = false := fun z hz => by
            cases hb : badI rs.length z with
            | false => rfl
            | true =>
              exfalso
              have : st = true := by rw [hst, List.any_eq_true]; exact ⟨z, hz, hb⟩
              exact hstv this
          obtain ⟨f1, f2⟩ := make_final hI (op := op) (nm := nm) hks hn
          rw [← hgs, ← hT] at f1 f2
          have hTl : T.length = ks.length := by rw [hT, (giv_kid (cs := cs) hI.len ks hks).1, List.length_map]
          have hTsz : (Ty.mk op nm 0 T).parts.length ≤ 1048576 := by
            have h5 := flat_le T fun t ht => by
              obtain ⟨i, hi⟩ := List.mem_iff_getElem?.1 ht
              rw [hT] at hi
              obtain ⟨k1, k2⟩ := giv_kid (cs := cs) hI.len ks hks
              obtain ⟨r, hr⟩ := get_of_len k1 hi
              obtain ⟨j, hj1, hj2⟩ := k2 i t r hi hr
              obtain ⟨-, s, -, -, hp, -⟩ := hI.is j t r hj1 hj2
              exact hp
            rw [parts_kids, List.length_cons]
            simp only [Ty.kids]
            omega
          clear hst
          subst hstf
          cases hmk : makeB cs op nm gs with
          | false =>
            obtain ⟨rfl, rfl⟩ := hq.2 hmk
            have hsh := shape09_s (.mk op nm 0 T) hTsz hn
            rw [← f1, hmk, cT, ← hTK] at hsh
            cbv
            repeat (first | (with_reducible apply next_at hA; cbv) | (rw [q15]; cbv) | (rw [q15e]; cbv) | (rw [q0]; cbv) | (refine call_at hA _ hsh rfl ?_; cbv) | (refine calm_at hA _ hsh ?_; cbv))
            try cbv
            repeat (first | (with_reducible apply next_at hA; cbv) | (rw [q15]; cbv) | (rw [q15e]; cbv) | (rw [q0]; cbv) | (refine call_at hA _ hsh rfl ?_; cbv) | (refine calm_at hA _ hsh ?_; cbv))
            try simp (maxSteps := 4000000) only [nc] at *
          | true =>
            obtain ⟨rfl, rfl⟩ := hq.1 hmk
            have hk2 : ks.length ≤ 2 := by
              unfold makeB at hmk
              cases hso : sortsO op with
              | none => rw [hso] at hmk; cases hmk
              | some l' =>
                rw [hso] at hmk
                simp only [Bool.and_eq_true, decide_eq_true_eq] at hmk
                have := (sortsO_le hso).1
                omega
            obtain ⟨T2, g1, g2, g3, g4, g5, g6⟩ := f2 hmk hk2
            replace g1 : Is cs3 T2 zr := by rw [hcs3, hzr]; exact g1
            have hsh := shape09_s (.mk op nm 0 T) g5.1 hn
            rw [← f1, hmk, cT, ← hTK] at hsh
            have hTr := Tree9_s _ T2 _ g1 g2 g3
            have hcn := canon_s _ (.mk op nm 0 T) (Nat.le_refl _) g5.1 g6
            have hAl2 := Alike_s (canonS (.mk op nm 0 T)) (canonS (.mk op nm 0 T)) (by rw [canon_len _ _ (Nat.le_refl _) g6]; exact g5.1)
            rw [(alike_iff _ _).2 rfl] at hAl2
            rw [g4] at hTr
            rw [cT, ← hTK] at hcn
            obtain ⟨y0, y1, y2, y3, hyy⟩ := cT_four (canonS (.mk op nm 0 T))
            rw [hyy] at hTr hcn hAl2
            clear hcs3 hzr
            unfold RdP at hTr
            rw [PO_eq] at hTr ⊢
            generalize fndF 0 cs3 = F3 at *
            generalize vrsF 0 cs3 = W3 at *
            generalize nxtF cs3 = N3 at *
            generalize cs3.map cC = C3 at *
            unfold PQ at hTr ⊢
            cbv
            repeat (first | (with_reducible apply next_at hA; cbv) | (rw [q0]; cbv) | (refine call_at hA _ hsh rfl ?_; cbv) | (refine calm_at hA _ hsh ?_; cbv))
            try cbv
            repeat (first | (with_reducible apply next_at hA; cbv) | (rw [q0]; cbv) | (refine call_at hA _ hsh rfl ?_; cbv) | (refine calm_at hA _ hsh ?_; cbv))
            try simp (maxSteps := 4000000) only [nc] at *
            refine rd_at hA [0, 1, 2, 3] hTr ⟨rfl, rfl, rfl, rfl, rfl, rfl, rfl⟩ rfl ?_
            rintro _ rfl
            cbv
            repeat (first | (with_reducible apply next_at hA; cbv) | (rw [q0]; cbv) | (rw [qw]; cbv) | (rw [q00]; cbv) | (refine call_at hA _ hcn rfl ?_; cbv) | (refine calm_at hA _ hcn ?_; cbv) | (refine call_at hA _ hAl2 rfl ?_; cbv) | (refine calm_at hA _ hAl2 ?_; cbv))
            try cbv
            repeat (first | (with_reducible apply next_at hA; cbv) | (rw [q0]; cbv) | (rw [qw]; cbv) | (rw [q00]; cbv) | (refine call_at hA _ hcn rfl ?_; cbv) | (refine calm_at hA _ hcn ?_; cbv) | (refine call_at hA _ hAl2 rfl ?_; cbv) | (refine calm_at hA _ hAl2 ?_; cbv))
            try simp (maxSteps := 4000000) only [nc] at *
theorem PM_s (l : List Ty) (op : Int) (nm : ByteArray) (ks : List Int) (hlp : ∀ x ∈ l, Sm x) (hn : nm.size ≤ 1048576) : Spec 7 [.one (.sl 4 (rT l)), .one (.sc (.int .u8 op)), .one (.sc (.string nm)), .one (.sl 1 (rI ks))] [.one (.sc (.bool true))] := by
  by_cases c1 : 8 < l.length
  · exact pm_out l op nm ks (.inl c1)
  by_cases c2 : 5 < ks.length
  · exact pm_out l op nm ks (.inr c2)
  exact pm_main l op nm ks hlp hn c1 c2
end Go.Proofs.Ytclehkgnacekkaa.Vm
end

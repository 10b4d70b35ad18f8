/- Part 20 of the proof: VPS1. Conditions: none. -/
import Derived.Test.YtclehkgnacekkaaP14
import Derived.Test.YtclehkgnacekkaaP17
import Derived.Test.YtclehkgnacekkaaP18
import Derived.Test.YtclehkgnacekkaaP19
set_option linter.all false
set_option linter.unusedVariables false
set_option linter.unusedSimpArgs false
section
namespace Go.Proofs.Ytclehkgnacekkaa.Vm
open Go.RowKit
set_option maxRecDepth 100000
set_option maxHeartbeats 4000000
theorem sorted_nil (t : Ty) : sortedB [] t = true := by
  unfold sortedB
  rw [List.all_eq_true]
  intro x _
  rfl
theorem Is.cast {cs : List Cel} {t u : Ty} {r : Int} (h : Is cs u r) (e : t = u) : Is cs t r := e ▸ h
theorem ps_out (a b : Ty) (ha : Sm a) (hb : Sm b) (h : 300 < a.parts.length ∨ 300 < b.parts.length ∨ rightB a 116 = false ∨ rightB b 116 = false) : Spec 6 [.ag (cT a), .ag (cT b)] [.one (.sc (.bool true))] := by
  have hal := alive_s
  have h1 := Parts_s a ha.1
  have h2 := Parts_s b hb.1
  have h3 := Right_s a ha.1 ha.2
  have h4 := Right_s b hb.1 hb.2
  obtain ⟨A, hA0⟩ : ∃ A, A = rT a.parts := ⟨_, rfl⟩
  obtain ⟨B, hB0⟩ : ∃ B, B = rT b.parts := ⟨_, rfl⟩
  rw [← hA0] at h1
  rw [← hB0] at h2
  have hAl : A.length = a.parts.length := by rw [hA0, rT_len]
  have hBl : B.length = b.parts.length := by rw [hB0, rT_len]
  obtain ⟨a0, a1, a2, a3, hca⟩ := cT_four a
  obtain ⟨b0, b1, b2, b3, hcb⟩ := cT_four b
  rw [hca] at h1 h3 ⊢
  rw [hcb] at h2 h4 ⊢
  generalize rightB a 116 = ra at *
  generalize rightB b 116 = rb at *
  refine spec_of Try.func6 rfl (by kernel_rfl) (by kernel_rfl) (by kernel_rfl) fun qa qb qc qd qe qf qg qh qi qj qk ql qm qo qp qs qt qu qv qx qy qz va vc vd ve vf vg vh vj vk vl vm vn vo vp vq vr vt hA => ?_
  obtain ⟨e1, e2, e3, e4, e5, e6, e7, e8, e9⟩ := ar_at hA
  obtain ⟨r1, r2, r3, r4⟩ := row_at hA
  have q1 : qh 300 (qy A) = decide (300 < a.parts.length) := by rw [e7, r1, hAl]; exact decide_eq_decide.2 (by omega)
  have q2 : qh 300 (qy B) = decide (300 < b.parts.length) := by rw [e7, r1, hBl]; exact decide_eq_decide.2 (by omega)
  by_cases c1 : 300 < a.parts.length
  · rw [decide_eq_true c1] at q1
    cbv
    repeat (first | (with_reducible apply next_at hA; cbv) | (rw [q1]; cbv) | (refine call_at hA _ hal rfl ?_; cbv) | (refine calm_at hA _ hal ?_; cbv) | (refine call_at hA _ h1 rfl ?_; cbv) | (refine calm_at hA _ h1 ?_; cbv))
    try cbv
    repeat (first | (with_reducible apply next_at hA; cbv) | (rw [q1]; cbv) | (refine call_at hA _ hal rfl ?_; cbv) | (refine calm_at hA _ hal ?_; cbv) | (refine call_at hA _ h1 rfl ?_; cbv) | (refine calm_at hA _ h1 ?_; cbv))
    try simp (maxSteps := 4000000) only [nc] at *
  · rw [decide_eq_false c1] at q1
    by_cases c2 : 300 < b.parts.length
    · rw [decide_eq_true c2] at q2
      cbv
      repeat (first | (with_reducible apply next_at hA; cbv) | (rw [q1]; cbv) | (rw [q2]; cbv) | (refine call_at hA _ hal rfl ?_; cbv) | (refine calm_at hA _ hal ?_; cbv) | (refine call_at hA _ h1 rfl ?_; cbv) | (refine calm_at hA _ h1 ?_; cbv) | (refine call_at hA _ h2 rfl ?_; cbv) | (refine calm_at hA _ h2 ?_; cbv))
      try cbv
      repeat (first | (with_reducible apply next_at hA; cbv) | (rw [q1]; cbv) | (rw [q2]; cbv) | (refine call_at hA _ hal rfl ?_; cbv) | (refine calm_at hA _ hal ?_; cbv) | (refine call_at hA _ h1 rfl ?_; cbv) | (refine calm_at hA _ h1 ?_; cbv) | (refine call_at hA _ h2 rfl ?_; cbv) | (refine calm_at hA _ h2 ?_; cbv))
      try simp (maxSteps := 4000000) only [nc] at *
    · rw [decide_eq_false c2] at q2
      cases ra with
      | false =>
        cbv
        repeat (first | (with_reducible apply next_at hA; cbv) | (rw [q1]; cbv) | (rw [q2]; cbv) | (refine call_at hA _ hal rfl ?_; cbv) | (refine calm_at hA _ hal ?_; cbv) | (refine call_at hA _ h1 rfl ?_; cbv) | (refine calm_at hA _ h1 ?_; cbv) | (refine call_at hA _ h2 rfl ?_; cbv) | (refine calm_at hA _ h2 ?_; cbv) | (refine call_at hA _ h3 rfl ?_; cbv) | (refine calm_at hA _ h3 ?_; cbv))
        try cbv
        repeat (first | (with_reducible apply next_at hA; cbv) | (rw [q1]; cbv) | (rw [q2]; cbv) | (refine call_at hA _ hal rfl ?_; cbv) | (refine calm_at hA _ hal ?_; cbv) | (refine call_at hA _ h1 rfl ?_; cbv) | (refine calm_at hA _ h1 ?_; cbv) | (refine call_at hA _ h2 rfl ?_; cbv) | (refine calm_at hA _ h2 ?_; cbv) | (refine call_at hA _ h3 rfl ?_; cbv) | (refine calm_at hA _ h3 ?_; cbv))
        try simp (maxSteps := 4000000) only [nc] at *
      | true =>
        obtain rfl : rb = false := by
          rcases h with h | h | h | h
          · exact absurd h c1
          · exact absurd h c2
          · cases h
          · exact h
        cbv
        repeat (first | (with_reducible apply next_at hA; cbv) | (rw [q1]; cbv) | (rw [q2]; cbv) | (refine call_at hA _ hal rfl ?_; cbv) | (refine calm_at hA _ hal ?_; cbv) | (refine call_at hA _ h1 rfl ?_; cbv) | (refine calm_at hA _ h1 ?_; cbv) | (refine call_at hA _ h2 rfl ?_; cbv) | (refine calm_at hA _ h2 ?_; cbv) | (refine call_at hA _ h3 rfl ?_; cbv) | (refine calm_at hA _ h3 ?_; cbv) | (refine call_at hA _ h4 rfl ?_; cbv) | (refine calm_at hA _ h4 ?_; cbv))
        try cbv
        repeat (first | (with_reducible apply next_at hA; cbv) | (rw [q1]; cbv) | (rw [q2]; cbv) | (refine call_at hA _ hal rfl ?_; cbv) | (refine calm_at hA _ hal ?_; cbv) | (refine call_at hA _ h1 rfl ?_; cbv) | (refine calm_at hA _ h1 ?_; cbv) | (refine call_at hA _ h2 rfl ?_; cbv) | (refine calm_at hA _ h2 ?_; cbv) | (refine call_at hA _ h3 rfl ?_; cbv) | (refine calm_at hA _ h3 ?_; cbv) | (refine call_at hA _ h4 rfl ?_; cbv) | (refine calm_at hA _ h4 ?_; cbv))
        try simp (maxSteps := 4000000) only [nc] at *
theorem ps_no (a b : Ty) (ha : Sm a) (hb : Sm b) (c1 : ¬ 300 < a.parts.length) (c2 : ¬ 300 < b.parts.length) (ra : rightB a 116 = true) (rb : rightB b 116 = true) (hn : sortedB (addF 1 (canonS a) []).2 b = false) (hvb : varsS b ≠ []) : Spec 6 [.ag (cT a), .ag (cT b)] [.one (.sc (.bool true))] := by
  have hal := alive_s
  have h1 := Parts_s a ha.1
  have h2 := Parts_s b hb.1
  have h3 := Right_s a ha.1 ha.2
  have h4 := Right_s b hb.1 hb.2
  have hea : eitherT a = true := by unfold eitherT; rw [ra]; rfl
  have heb : eitherT b = true := by unfold eitherT; rw [rb]; rfl
  have h5 := Add9_yes a ha 1 [] (by unfold addsB; rw [hea, sorted_nil]; rfl) (by simp; have := ha.1; omega)
  have h6 := Add9_no b hb 1 (addF 1 (canonS a) []).2 (by unfold addsB; rw [hn, Bool.and_false])
  have h7 := Vars_s a ha.1 (either_spine hea)
  have h8 := Vars_s b hb.1 (either_spine heb)
  have h9 := new9_s
  rw [ra] at h3
  rw [rb] at h4
  obtain ⟨A, hA0⟩ : ∃ A, A = rT a.parts := ⟨_, rfl⟩
  obtain ⟨B, hB0⟩ : ∃ B, B = rT b.parts := ⟨_, rfl⟩
  obtain ⟨VA, hVA⟩ : ∃ A, A = rI (varsS a) := ⟨_, rfl⟩
  obtain ⟨VB, hVB⟩ : ∃ B, B = rI (varsS b) := ⟨_, rfl⟩
  rw [← hA0] at h1
  rw [← hB0] at h2
  rw [← hVA] at h7
  rw [← hVB] at h8
  have hAl : A.length = a.parts.length := by rw [hA0, rT_len]
  have hBl : B.length = b.parts.length := by rw [hB0, rT_len]
  have hVl : 0 < VB.length := by rw [hVB, rI_len]; exact List.length_pos_iff.2 hvb
  have hVm : VA.length ≤ 1048576 ∧ VB.length ≤ 1048576 := by
    rw [hVA, hVB, rI_len, rI_len]
    have g1 := varsL_len (canonS a).parts []
    have g2 := varsL_len (canonS b).parts []
    rw [canon_len _ a (Nat.le_refl _) (either_spine hea)] at g1
    rw [canon_len _ b (Nat.le_refl _) (either_spine heb)] at g2
    simp only [List.length_nil] at g1 g2
    unfold varsS
    omega
  obtain ⟨a0, a1, a2, a3, hca⟩ := cT_four a
  obtain ⟨b0, b1, b2, b3, hcb⟩ := cT_four b
  rw [hca] at h1 h3 h5 h7 ⊢
  rw [hcb] at h2 h4 h6 h8 ⊢
  obtain ⟨za, hza⟩ : ∃ za, za = (((addF 1 (canonS a) []).1 : Nat) : Int) := ⟨_, rfl⟩
  rw [← hza] at h5
  generalize (addF 1 (canonS a) []).2 = cs1 at *
  rw [PO_eq, PO_eq] at *
  generalize fndF 0 [] = F0 at *
  generalize vrsF 0 [] = W0 at *
  generalize nxtF [] = N0 at *
  generalize List.map cC [] = C0 at *
  generalize fndF 0 cs1 = F1 at *
  generalize vrsF 0 cs1 = W1 at *
  generalize nxtF cs1 = N1 at *
  generalize cs1.map cC = C1 at *
  unfold PQ at *
  refine spec_of Try.func6 rfl (by kernel_rfl) (by kernel_rfl) (by kernel_rfl) fun qa qb qc qd qe qf qg qh qi qj qk ql qm qo qp qs qt qu qv qx qy qz va vc vd ve vf vg vh vj vk vl vm vn vo vp vq vr vt hA => ?_
  obtain ⟨e1, e2, e3, e4, e5, e6, e7, e8, e9⟩ := ar_at hA
  obtain ⟨r1, r2, r3, r4⟩ := row_at hA
  have q1 : qh 300 (qy A) = false := by rw [e7, r1, hAl]; exact decide_eq_false (by omega)
  have q2 : qh 300 (qy B) = false := by rw [e7, r1, hBl]; exact decide_eq_false (by omega)
  have q3 : qj (qa .i64 (qb (qy VA) (qy VB))) 0 = false := by rw [e9, e1, e2, r1, r1, IntWalk.i64_in _ (by omega)]; exact beq_eq_false_iff_ne.2 (by omega)
  have q4 : qj 15 15 = true := e9 _ _
  have q5 : qj 0 0 = true := e9 _ _
  cbv
  repeat (first | (with_reducible apply next_at hA; cbv) | (rw [q1]; cbv) | (rw [q2]; cbv) | (refine call_at hA _ hal rfl ?_; cbv) | (refine calm_at hA _ hal ?_; cbv) | (refine call_at hA _ h1 rfl ?_; cbv) | (refine calm_at hA _ h1 ?_; cbv) | (refine call_at hA _ h2 rfl ?_; cbv) | (refine calm_at hA _ h2 ?_; cbv) | (refine call_at hA _ h3 rfl ?_; cbv) | (refine calm_at hA _ h3 ?_; cbv) | (refine call_at hA _ h4 rfl ?_; cbv) | (refine calm_at hA _ h4 ?_; cbv))
  try cbv
  repeat (first | (with_reducible apply next_at hA; cbv) | (rw [q1]; cbv) | (rw [q2]; cbv) | (refine call_at hA _ hal rfl ?_; cbv) | (refine calm_at hA _ hal ?_; cbv) | (refine call_at hA _ h1 rfl ?_; cbv) | (refine calm_at hA _ h1 ?_; cbv) | (refine call_at hA _ h2 rfl ?_; cbv) | (refine calm_at hA _ h2 ?_; cbv) | (refine call_at hA _ h3 rfl ?_; cbv) | (refine calm_at hA _ h3 ?_; cbv) | (refine call_at hA _ h4 rfl ?_; cbv) | (refine calm_at hA _ h4 ?_; cbv))
  try simp (maxSteps := 4000000) only [nc] at *
  refine callo_at hA [] h9 ⟨rfl, rfl, rfl, rfl, rfl, rfl, rfl⟩ ?_
  rintro _ _ ⟨rfl, rfl⟩
  cbv
  repeat (first | (with_reducible apply next_at hA; cbv) | (rw [q1]; cbv) | (rw [q2]; cbv))
  try cbv
  repeat (first | (with_reducible apply next_at hA; cbv) | (rw [q1]; cbv) | (rw [q2]; cbv))
  try simp (maxSteps := 4000000) only [nc] at *
  refine callo_at hA [2, 3, 4, 5] h5 ⟨rfl, rfl, rfl, rfl, rfl, rfl, rfl⟩ ?_
  rintro _ _ ⟨rfl, rfl⟩
  cbv
  repeat (first | (with_reducible apply next_at hA; cbv) | (rw [q1]; cbv) | (rw [q2]; cbv))
  try cbv
  repeat (first | (with_reducible apply next_at hA; cbv) | (rw [q1]; cbv) | (rw [q2]; cbv))
  try simp (maxSteps := 4000000) only [nc] at *
  refine callo_at hA [2, 3, 4, 5] h6 ⟨rfl, rfl, rfl, rfl, rfl, rfl, rfl⟩ ?_
  rintro _ _ ⟨rfl, rfl⟩
  cbv
  repeat (first | (with_reducible apply next_at hA; cbv) | (rw [q3]; cbv) | (rw [q4]; cbv) | (rw [q5]; cbv) | (refine call_at hA _ h7 rfl ?_; cbv) | (refine calm_at hA _ h7 ?_; cbv) | (refine call_at hA _ h8 rfl ?_; cbv) | (refine calm_at hA _ h8 ?_; cbv))
  try cbv
  repeat (first | (with_reducible apply next_at hA; cbv) | (rw [q3]; cbv) | (rw [q4]; cbv) | (rw [q5]; cbv) | (refine call_at hA _ h7 rfl ?_; cbv) | (refine calm_at hA _ h7 ?_; cbv) | (refine call_at hA _ h8 rfl ?_; cbv) | (refine calm_at hA _ h8 ?_; cbv))
  try simp (maxSteps := 4000000) only [nc] at *
theorem ps_yes (a b : Ty) (ha : Sm a) (hb : Sm b) (c1 : ¬ 300 < a.parts.length) (c2 : ¬ 300 < b.parts.length) (ra : rightB a 116 = true) (rb : rightB b 116 = true) (hn : sortedB (addF 1 (canonS a) []).2 b = true) : Spec 6 [.ag (cT a), .ag (cT b)] [.one (.sc (.bool true))] := by
  have hal := alive_s
  have h1 := Parts_s a ha.1
  have h2 := Parts_s b hb.1
  have h3 := Right_s a ha.1 ha.2
  have h4 := Right_s b hb.1 hb.2
  have hea : eitherT a = true := by unfold eitherT; rw [ra]; rfl
  have heb : eitherT b = true := by unfold eitherT; rw [rb]; rfl
  obtain ⟨σ1, s1, s2, s3, s4⟩ := Add_step (cs := []) wf_nil 1 ra (sorted_nil a)
  have hl1 := s3.len
  have h5 := Add9_yes a ha 1 [] (by unfold addsB; rw [hea, sorted_nil]; rfl) (by simp; have := ha.1; omega)
  obtain ⟨σ2, t1, t2, t3, t4⟩ := Add_step s3.wf 1 rb hn
  have h6 := Add9_yes b hb 1 (addF 1 (canonS a) []).2 (by unfold addsB; rw [hn, heb]; rfl) (by simp only [List.length_nil] at hl1; omega)
  have hl2 := t3.len
  have hsh := right_shape ra
  have hTa : OkT σ2 a := okT_of hsh.1 fun x hx hv => by
    obtain ⟨c, hc, hcv, hcn⟩ := (s3.nums x.n).2 (.inr ⟨x, hx, hv, rfl⟩)
    rw [s2 x hx hv, ← hcn, ← s3.ok c hc hcv, t1 c hc hcv]
  have hmd := made9_s σ2 a 116 hsh.1 ha hTa (addF 1 (canonS b) (addF 1 (canonS a) []).2).2 t3.wf t3.ok (by simp only [List.length_nil] at hl1; omega)
  have hsame : ((((addF 1 (canonS a) []).1 : Nat) : Int) == (((addF 1 (canonS b) (addF 1 (canonS a) []).2).1 : Nat) : Int)) = alikeB (canonS a) (canonS b) := by
    by_cases hcc : canonS a = canonS b
    · rw [(alike_iff _ _).2 hcc]
      have := Is.uniq t3.wf (canonS a) _ _ (t3.is s4) (Is.cast t4 hcc)
      rw [this]
      simp
    · have h0 : alikeB (canonS a) (canonS b) = false := by
        cases h : alikeB (canonS a) (canonS b) with
        | true => exact absurd ((alike_iff _ _).1 h) hcc
        | false => rfl
      rw [h0]
      refine beq_eq_false_iff_ne.2 fun e => hcc ?_
      have g := t3.is s4
      rw [e] at g
      exact Is.fn _ _ _ g t4
  have h7 := Vars_s a ha.1 (either_spine hea)
  have h8 := Vars_s b hb.1 (either_spine heb)
  have h10 := Same03_s a b ha.1 hb.1 (either_spine hea) (either_spine heb)
  have h11 := canon_s _ a (Nat.le_refl _) ha.1 (either_spine hea)
  have h12 := Alike_s (canonS a) (canonS a) (by rw [canon_len _ a (Nat.le_refl _) (either_spine hea)]; exact ha.1)
  rw [(alike_iff _ _).2 rfl] at h12
  have hTr : ∀ (r : Int) (cs : List Cel), Is cs a r → RdP 28 [.ptr 0 0, vi .i64 r] cs [.ag (ofD (cT (canonS a))), vi .u8 0] := fun r cs hi => Tree9_s cs a r hi ha hea
  have h9 := new9_s
  rw [ra] at h3
  rw [rb] at h4
  obtain ⟨A, hA0⟩ : ∃ A, A = rT a.parts := ⟨_, rfl⟩
  obtain ⟨B, hB0⟩ : ∃ B, B = rT b.parts := ⟨_, rfl⟩
  obtain ⟨VA, hVA⟩ : ∃ A, A = rI (varsS a) := ⟨_, rfl⟩
  obtain ⟨VB, hVB⟩ : ∃ B, B = rI (varsS b) := ⟨_, rfl⟩
  rw [← hA0] at h1
  rw [← hB0] at h2
  rw [← hVA] at h7
  rw [← hVB] at h8
  have hAl : A.length = a.parts.length := by rw [hA0, rT_len]
  have hBl : B.length = b.parts.length := by rw [hB0, rT_len]
  obtain ⟨a0, a1, a2, a3, hca⟩ := cT_four a
  obtain ⟨b0, b1, b2, b3, hcb⟩ := cT_four b
  obtain ⟨d0, d1, d2, d3, hcd⟩ := cT_four (canonS a)
  rw [hca] at h1 h3 h5 h7 h10 h11 hmd ⊢
  rw [hcb] at h2 h4 h6 h8 h10 ⊢
  rw [hcd] at h11 h12 hTr
  generalize alikeB (canonS a) (canonS b) = sm at *
  obtain ⟨za, hza⟩ : ∃ za, za = (((addF 1 (canonS a) []).1 : Nat) : Int) := ⟨_, rfl⟩
  rw [← hza] at h5 hsame
  obtain ⟨zb, hzb⟩ : ∃ za, za = (((addF 1 (canonS b) (addF 1 (canonS a) []).2).1 : Nat) : Int) := ⟨_, rfl⟩
  rw [← hzb] at h6 hsame
  clear hTa t4 t3 s4 s3 hl1 hl2 t2 t1 s2 s1
  generalize (addF 1 (canonS b) (addF 1 (canonS a) []).2).2 = cs2 at *
  generalize (addF 1 (canonS a) []).2 = cs1 at *
  unfold RdP at hTr
  obtain ⟨QQ, hQQ⟩ : ∃ Q, Q = madeQ σ2 cs2 a := ⟨_, rfl⟩
  rw [← hQQ] at hmd
  rw [PO_eq] at h5 h6 h9 hmd
  rw [PO_eq] at h5 h6
  generalize fndF 0 [] = F0 at *
  generalize vrsF 0 [] = W0 at *
  generalize nxtF [] = N0 at *
  generalize List.map cC [] = C0 at *
  generalize fndF 0 cs1 = F1 at *
  generalize vrsF 0 cs1 = W1 at *
  generalize nxtF cs1 = N1 at *
  generalize cs1.map cC = C1 at *
  generalize fndF 0 cs2 = F2 at *
  generalize vrsF 0 cs2 = W2 at *
  generalize nxtF cs2 = N2 at *
  generalize cs2.map cC = C2 at *
  unfold PQ at h5 h6 h9 hmd
  refine spec_of Try.func6 rfl (by kernel_rfl) (by kernel_rfl) (by kernel_rfl) fun qa qb qc qd qe qf qg qh qi qj qk ql qm qo qp qs qt qu qv qx qy qz va vc vd ve vf vg vh vj vk vl vm vn vo vp vq vr vt hA => ?_
  obtain ⟨e1, e2, e3, e4, e5, e6, e7, e8, e9⟩ := ar_at hA
  obtain ⟨r1, r2, r3, r4⟩ := row_at hA
  have q1 : qh 300 (qy A) = false := by rw [e7, r1, hAl]; exact decide_eq_false (by omega)
  have q2 : qh 300 (qy B) = false := by rw [e7, r1, hBl]; exact decide_eq_false (by omega)
  obtain ⟨cl, q3⟩ : ∃ cl, qj (qa .i64 (qb (qy VA) (qy VB))) 0 = cl := ⟨_, rfl⟩
  have q4 : qj 0 15 = false := e9 _ _
  have q5 : qj 0 0 = true := e9 _ _
  have q6 : qa .i64 0 = 0 := by rw [e1]; rfl
  have q7 : qb 0 0 = 0 := e2 _ _
  have q8 : qj za zb = sm := by rw [e9, hsame]
  cbv
  repeat (first | (with_reducible apply next_at hA; cbv) | (rw [q1]; cbv) | (rw [q2]; cbv) | (refine call_at hA _ hal rfl ?_; cbv) | (refine calm_at hA _ hal ?_; cbv) | (refine call_at hA _ h1 rfl ?_; cbv) | (refine calm_at hA _ h1 ?_; cbv) | (refine call_at hA _ h2 rfl ?_; cbv) | (refine calm_at hA _ h2 ?_; cbv) | (refine call_at hA _ h3 rfl ?_; cbv) | (refine calm_at hA _ h3 ?_; cbv) | (refine call_at hA _ h4 rfl ?_; cbv) | (refine calm_at hA _ h4 ?_; cbv))
  try cbv
  repeat (first | (with_reducible apply next_at hA; cbv) | (rw [q1]; cbv) | (rw [q2]; cbv) | (refine call_at hA _ hal rfl ?_; cbv) | (refine calm_at hA _ hal ?_; cbv) | (refine call_at hA _ h1 rfl ?_; cbv) | (refine calm_at hA _ h1 ?_; cbv) | (refine call_at hA _ h2 rfl ?_; cbv) | (refine calm_at hA _ h2 ?_; cbv) | (refine call_at hA _ h3 rfl ?_; cbv) | (refine calm_at hA _ h3 ?_; cbv) | (refine call_at hA _ h4 rfl ?_; cbv) | (refine calm_at hA _ h4 ?_; cbv))
  try simp (maxSteps := 4000000) only [nc] at *
  refine callo_at hA [] h9 ⟨rfl, rfl, rfl, rfl, rfl, rfl, rfl⟩ ?_
  rintro _ _ ⟨rfl, rfl⟩
  cbv
  repeat (first | (with_reducible apply next_at hA; cbv) | (rw [q1]; cbv) | (rw [q2]; cbv))
  try cbv
  repeat (first | (with_reducible apply next_at hA; cbv) | (rw [q1]; cbv) | (rw [q2]; cbv))
  try simp (maxSteps := 4000000) only [nc] at *
  refine callo_at hA [2, 3, 4, 5] h5 ⟨rfl, rfl, rfl, rfl, rfl, rfl, rfl⟩ ?_
  rintro _ _ ⟨rfl, rfl⟩
  cbv
  repeat (first | (with_reducible apply next_at hA; cbv) | (rw [q1]; cbv) | (rw [q2]; cbv))
  try cbv
  repeat (first | (with_reducible apply next_at hA; cbv) | (rw [q1]; cbv) | (rw [q2]; cbv))
  try simp (maxSteps := 4000000) only [nc] at *
  refine callo_at hA [2, 3, 4, 5] h6 ⟨rfl, rfl, rfl, rfl, rfl, rfl, rfl⟩ ?_
  rintro _ _ ⟨rfl, rfl⟩
  cases cl <;> cases sm
  all_goals
    cbv
    repeat (first | (with_reducible apply next_at hA; cbv) | (rw [q3]; cbv) | (rw [q4]; cbv) | (rw [q5]; cbv) | (rw [q6]; cbv) | (rw [q7]; cbv) | (rw [q8]; cbv) | (refine call_at hA _ h7 rfl ?_; cbv) | (refine calm_at hA _ h7 ?_; cbv) | (refine call_at hA _ h8 rfl ?_; cbv) | (refine calm_at hA _ h8 ?_; cbv) | (refine call_at hA _ h10 rfl ?_; cbv) | (refine calm_at hA _ h10 ?_; cbv))
    try cbv
    repeat (first | (with_reducible apply next_at hA; cbv) | (rw [q3]; cbv) | (rw [q4]; cbv) | (rw [q5]; cbv) | (rw [q6]; cbv) | (rw [q7]; cbv) | (rw [q8]; cbv) | (refine call_at hA _ h7 rfl ?_; cbv) | (refine calm_at hA _ h7 ?_; cbv) | (refine call_at hA _ h8 rfl ?_; cbv) | (refine calm_at hA _ h8 ?_; cbv) | (refine call_at hA _ h10 rfl ?_; cbv) | (refine calm_at hA _ h10 ?_; cbv))
    try simp (maxSteps := 4000000) only [nc] at *
    refine callo_at hA [2, 3, 4, 5] hmd ⟨rfl, rfl, rfl, rfl, rfl, rfl, rfl⟩ ?_
    intro res os2 hq
    rw [hQQ] at hq
    obtain ⟨rz, cs3, rfl, rfl, hst, his⟩ := hq
    have hT2 := hTr rz cs3 his
    rw [PO_eq] at hT2 ⊢
    generalize fndF 0 cs3 = F3 at *
    generalize vrsF 0 cs3 = W3 at *
    generalize nxtF cs3 = N3 at *
    generalize cs3.map cC = C3 at *
    unfold PQ at hT2 ⊢
    cbv
    repeat (first | (with_reducible apply next_at hA; cbv))
    try cbv
    repeat (first | (with_reducible apply next_at hA; cbv))
    try simp (maxSteps := 4000000) only [nc] at *
    refine rd_at hA [2, 3, 4, 5] hT2 ⟨rfl, rfl, rfl, rfl, rfl, rfl, rfl⟩ rfl ?_
    rintro _ rfl
    cbv
    repeat (first | (with_reducible apply next_at hA; cbv) | (rw [q5]; cbv) | (rw [q6]; cbv) | (refine call_at hA _ h11 rfl ?_; cbv) | (refine calm_at hA _ h11 ?_; cbv) | (refine call_at hA _ h12 rfl ?_; cbv) | (refine calm_at hA _ h12 ?_; cbv))
    try cbv
    repeat (first | (with_reducible apply next_at hA; cbv) | (rw [q5]; cbv) | (rw [q6]; cbv) | (refine call_at hA _ h11 rfl ?_; cbv) | (refine calm_at hA _ h11 ?_; cbv) | (refine call_at hA _ h12 rfl ?_; cbv) | (refine calm_at hA _ h12 ?_; cbv))
    try simp (maxSteps := 4000000) only [nc] at *
theorem PS_s (a b : Ty) (ha : Sm a) (hb : Sm b) : Spec 6 [.ag (cT a), .ag (cT b)] [.one (.sc (.bool true))] := by
  by_cases c1 : 300 < a.parts.length
  · exact ps_out a b ha hb (.inl c1)
  by_cases c2 : 300 < b.parts.length
  · exact ps_out a b ha hb (.inr (.inl c2))
  cases ra : rightB a 116 with
  | false => exact ps_out a b ha hb (.inr (.inr (.inl ra)))
  | true =>
    cases rb : rightB b 116 with
    | false => exact ps_out a b ha hb (.inr (.inr (.inr rb)))
    | true =>
      cases hn : sortedB (addF 1 (canonS a) []).2 b with
      | true => exact ps_yes a b ha hb c1 c2 ra rb hn
      | false =>
        refine ps_no a b ha hb c1 c2 ra rb hn fun hv => ?_
        have hno : ∀ x ∈ b.parts, isVar x = false := fun x hx => by
          cases h : isVar x with
          | false => rfl
          | true =>
            have h1 := (canon_vars x h _ b 116 (Nat.le_refl _) (right_shape rb).1).2 hx
            have h2 := varsL_has (canonS b).parts [] x h1 h
            unfold varsS at hv
            rw [hv] at h2
            cases h2
        have : sortedB (addF 1 (canonS a) []).2 b = true := by
          unfold sortedB
          rw [List.all_eq_true]
          intro x hx
          unfold okV
          rw [vrB_var, hno x hx]
          split <;> rfl
        rw [this] at hn
        cases hn
end Go.Proofs.Ytclehkgnacekkaa.Vm
end

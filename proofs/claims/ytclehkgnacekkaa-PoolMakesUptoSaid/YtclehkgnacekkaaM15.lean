/- Part 15 of the proof: VPo8. Conditions: none. -/
import Derived.Test.YtclehkgnacekkaaM14
set_option linter.all false
set_option linter.unusedVariables false
set_option linter.unusedSimpArgs false
section
namespace Go.Proofs.Ytclehkgnacekkaa.Vm
open Go.RowKit
set_option maxRecDepth 100000
set_option maxHeartbeats 4000000
theorem take_ab {rs : List Int} {k : Nat} {r : Int} (h : rs[k]? = some r) (h2 : rs.length ≤ 2) : (k = 0 ∧ kA (rs.take (k + 1)) = r ∧ kB (rs.take (k + 1)) = kB (rs.take k)) ∨ (k = 1 ∧ kA (rs.take (k + 1)) = kA (rs.take k) ∧ kB (rs.take (k + 1)) = r) := by
  match rs, h2 with
  | [], _ => simp at h
  | [a], _ =>
    match k, h with
    | 0, h => simp at h; subst h; exact .inl ⟨rfl, rfl, rfl⟩
    | k + 1, h => simp at h
  | [a, b], _ =>
    match k, h with
    | 0, h => simp at h; subst h; exact .inl ⟨rfl, rfl, rfl⟩
    | 1, h => simp at h; subst h; exact .inr ⟨rfl, rfl, rfl⟩
    | k + 2, h => simp at h
  | _ :: _ :: _ :: _, h => simp at h
theorem rBo_get {l : List Bool} {k : Nat} {b : Bool} (h : l[k]? = some b) : (rBo l)[k]? = some [.sc (.bool b)] := by unfold rBo; rw [List.getElem?_map, h]; rfl
theorem word_ne : wordB ⟨#[]⟩ = false := by decide +kernel
theorem zip_get {α β : Type} {a : List α} {b : List β} {k : Nat} {x : α} {y : β} (hx : a[k]? = some x) (hy : b[k]? = some y) : (a.zip b)[k]? = some (x, y) := by
  rw [List.getElem?_zip_eq_some]
  exact ⟨hx, hy⟩
theorem sortsO_le {op : Int} {l : List Bool} (h : sortsO op = some l) : l.length ≤ 2 ∧ vrB op = false := by
  unfold sortsO at h
  split at h
  · rename_i ho
    cases h
    rcases ho with rfl | rfl | rfl | rfl | rfl <;> exact ⟨by decide, rfl⟩
  split at h
  · rename_i ho; cases h; subst ho; exact ⟨by decide, rfl⟩
  split at h
  · rename_i ho; cases h; rcases ho with rfl | rfl <;> exact ⟨by decide, rfl⟩
  split at h
  · rename_i ho; cases h; subst ho; exact ⟨by decide, rfl⟩
  · cases h
theorem sorts9_1 (op : Int) : Spec 62 [.one (.sc (.int .u8 op))] [.one (.sl 1 (rBo ((sortsO op).getD []))), .one (.sc (.bool (sortsO op).isSome))] := by
  refine (sorts9_s op).likeq ⟨?_, .same _, trivial⟩
  unfold sortsZ
  cases h : sortsO op with
  | none => exact .one (.nil _ _)
  | some l =>
    cases l with
    | nil => exact .one (.nil _ _)
    | cons b l => exact .one (.refl _)
theorem make_go (op : Int) (nm : ByteArray) (rs : List Int) (cs : List Cel) (l : List Bool) (hn : nm.size ≤ 1048576) (hN : cs.length < 1048576) (hl : sortsO op = some l) (hll : l.length = rs.length) (hw : (op = 11 ∧ wordB nm = true) ∨ (op ≠ 11 ∧ nm = ⟨#[]⟩)) :
    SpecO 31 [.ptr 0 0, vi .u8 op, vs nm, .d (.sl 1 (rI rs))] (PO cs) (fun res os => ((rs.zip l).all (kidOk cs) = true → res = [vi .i64 ((putC op nm (kA rs) (kB rs) cs).1 : Nat), vi .u8 0] ∧ os = PO (putC op nm (kA rs) (kB rs) cs).2) ∧ ((rs.zip l).all (kidOk cs) = false → res = [vi .i64 0, vi .u8 15] ∧ os = PO cs)) := by
  obtain ⟨hl2, hvr⟩ := sortsO_le hl
  have h1 := sorts9_1 op
  rw [hl] at h1
  simp only [Option.getD_some, Option.isSome_some] at h1
  have h2 := join_word nm
  have h3 := row_word nm hn
  have hI := Int_s
  have hput := put9_s op nm (kA rs) (kB rs) hvr cs hN
  have hBL : (rBo l).length = l.length := by unfold rBo; rw [List.length_map]
  have hRL := rI_len rs
  have hH : ∀ r : Int, 0 ≤ r ∧ r < cs.length → RdP 59 [.ptr 0 0, vi .i64 r] cs [vb true] := fun r hr => by have := has9_s r cs; rw [decide_eq_true hr] at this; exact this
  have hH0 : ∀ r : Int, ¬ (0 ≤ r ∧ r < cs.length) → RdP 59 [.ptr 0 0, vi .i64 r] cs [vb false] := fun r hr => by have := has9_s r cs; rw [decide_eq_false hr] at this; exact this
  have hAt : ∀ r : Int, 0 ≤ r ∧ r < cs.length → RdP 66 [.ptr 0 0, vi .i64 r] cs [.el 1 r 7 0] := fun r hr => at9_s r cs hr.1 hr.2
  have hCg : ∀ r : Int, 0 ≤ r ∧ r < cs.length → ∃ c, cs[r.toNat]? = some c ∧ (cs.map cC)[r.toNat]? = some [.sc (.int .u8 c.op), .sc (.string c.name), .sc (.int .i64 c.a), .sc (.int .i64 c.b), .sc (.int .i64 c.num), .sc (.int .i64 c.lev), .sc (.int .i64 (-1))] := fun r hr => cC_get hr.1 hr.2
  have hbad : ∀ (r : Int) (b : Bool), ¬ (0 ≤ r ∧ r < cs.length) → kidOk cs (r, b) = false := fun r b hr => by
    unfold kidOk
    by_cases h0 : 0 ≤ r
    · rw [if_pos h0, List.getElem?_eq_none (by omega)]
    · rw [if_neg h0]
  have hgood : ∀ (r : Int) (b : Bool) (c : Cel), 0 ≤ r → cs[r.toNat]? = some c → kidOk cs (r, b) = (decide (8 ≤ c.op) == b) := fun r b c h0 hc => by
    unfold kidOk
    rw [if_pos h0, hc]
  generalize hkk : kidOk cs = kk at *
  generalize hallB : (rs.zip l).all kk = allB
  unfold emT at *
  obtain ⟨BL, hBLe⟩ : ∃ BL, BL = rBo l := ⟨_, rfl⟩
  obtain ⟨RL, hRLe⟩ : ∃ RL, RL = rI rs := ⟨_, rfl⟩
  rw [← hRLe] at hRL ⊢
  rw [← hBLe] at hBL h1
  have hwn : wordB nm = true → nm ≠ ⟨#[]⟩ := fun h e => by rw [e, word_ne] at h; cases h
  generalize wordB nm = w1 at *
  obtain ⟨A0, hA0⟩ : ∃ A0, A0 = kA rs := ⟨_, rfl⟩
  obtain ⟨B0, hB0⟩ : ∃ B0, B0 = kB rs := ⟨_, rfl⟩
  rw [← hA0, ← hB0] at hput ⊢
  obtain ⟨zp, hzp⟩ : ∃ zp, zp = (((putC op nm A0 B0 cs).1 : Nat) : Int) := ⟨_, rfl⟩
  rw [← hzp] at hput ⊢
  generalize (putC op nm A0 B0 cs).2 = cs2 at *
  unfold RdP at *
  rw [PO_eq, PO_eq] at *
  generalize fndF 0 cs = F1 at *
  generalize vrsF 0 cs = W1 at *
  generalize nxtF cs = N1 at *
  generalize cs.map cC = C1 at *
  generalize fndF 0 cs2 = F2 at *
  generalize vrsF 0 cs2 = W2 at *
  generalize nxtF cs2 = N2 at *
  generalize cs2.map cC = C2 at *
  unfold PQ at *
  have hnil := bytes_nil nm
  refine speco_of Try.func31 rfl (by kernel_rfl) (by kernel_rfl) (by kernel_rfl) fun qa qb qc qd qe qf qg qh qi qj qk ql qm qo qp qs qt qu qv qx qy qz va vc vd ve vf vg vh vj vk vl vm vn vo vp vq vr vt hA => ?_
  obtain ⟨e1, e2, e3, e4, e5, e6, e7, e8, e9⟩ := ar_at hA
  obtain ⟨r1, r2, r3, r4⟩ := row_at hA
  obtain ⟨s1, s2, s3, -⟩ := str_at hA
  have q1 : qj (qy BL) (qy RL) = true := by rw [e9, r1, r1, hBL, hRL, hll]; simp
  have q2 : ql (qo nm) (qo ⟨#[]⟩) = decide (nm = ⟨#[]⟩) := by rw [s1, s3, s3]; exact hnil
  have q3 : qj op 11 = decide (op = 11) := by rw [e9]; exact eqi_dec op 11
  rcases hw with ⟨c3, c2⟩ | ⟨c3, c2⟩
  · rw [decide_eq_true c3] at q3
    rw [decide_eq_false (hwn c2)] at q2
    subst c2
    cbv
    repeat (first | (with_reducible apply next_at hA; cbv) | (rw [q1]; cbv) | (rw [q2]; cbv) | (rw [q3]; cbv) | (refine call_at hA _ h1 rfl ?_; cbv) | (refine calm_at hA _ h1 ?_; cbv) | (refine call_at hA _ hI rfl ?_; cbv) | (refine calm_at hA _ hI ?_; cbv) | (refine call_at hA _ h2 rfl ?_; cbv) | (refine calm_at hA _ h2 ?_; cbv) | (refine call_at hA _ h3 rfl ?_; cbv) | (refine calm_at hA _ h3 ?_; cbv) | (refine lit_at hA true ?_; cbv))
    try cbv
    repeat (first | (with_reducible apply next_at hA; cbv) | (rw [q1]; cbv) | (rw [q2]; cbv) | (rw [q3]; cbv) | (refine call_at hA _ h1 rfl ?_; cbv) | (refine calm_at hA _ h1 ?_; cbv) | (refine call_at hA _ hI rfl ?_; cbv) | (refine calm_at hA _ hI ?_; cbv) | (refine call_at hA _ h2 rfl ?_; cbv) | (refine calm_at hA _ h2 ?_; cbv) | (refine call_at hA _ h3 rfl ?_; cbv) | (refine calm_at hA _ h3 ?_; cbv) | (refine lit_at hA true ?_; cbv))
    try simp (maxSteps := 4000000) only [nc] at *
    refine loop_at hA (γ := Int × Int × Int) (fun x => [(56, vi .i64 x.1), (17, .jk), (19, .jk)]) (fun x => [(4, .box [vi .u8 op, vs nm, vi .i64 x.2.1, vi .i64 x.2.2])]) (fun x => ∃ k : Nat, x.1 = (k : Int) ∧ k ≤ rs.length ∧ x.2.1 = kA (rs.take k) ∧ x.2.2 = kB (rs.take k) ∧ ((rs.zip l).take k).all kk = true) (fun x => rs.length - x.1.toNat) (0, -1, -1) ?_ ?_ ?_
    · exact ⟨0, rfl, Nat.zero_le _, rfl, rfl, rfl⟩
    · cbv
    · rintro ⟨z, za, zb⟩ hinv
      cbv
      repeat ((with_reducible apply next_at hA); cbv)
      try simp (maxSteps := 4000000) only [nc] at *
      obtain ⟨k, hz, hk, ha, hb, hE⟩ := hinv
      replace hz : z = (k : Int) := hz
      replace ha : za = kA (rs.take k) := ha
      replace hb : zb = kB (rs.take k) := hb
      have hlt : qh z (qy RL) = decide (k < rs.length) := by rw [e7, r1, hRL, hz]; exact decide_eq_decide.2 (by omega)
      by_cases h9 : k < rs.length
      · rw [decide_eq_true h9] at hlt
        obtain ⟨r, hr⟩ : ∃ r, rs[k]? = some r := ⟨_, List.getElem?_eq_getElem h9⟩
        obtain ⟨b, hbk⟩ : ∃ b, l[k]? = some b := ⟨_, List.getElem?_eq_getElem (by omega)⟩
        have hzip := zip_get hr hbk
        have hz1 : qa .i64 (qb z 1) = ((k + 1 : Nat) : Int) := by rw [e1, e2, hz, IntWalk.i64_in _ (by omega)]; omega
        have hmu : rs.length - (qa .i64 (qb z 1)).toNat < rs.length - z.toNat := by rw [hz1, hz]; omega
        have gx : qz RL z = some [.sc (.int .i64 r)] := by rw [r2, hz, if_pos (by omega), hRLe, show ((k : Int)).toNat = k by omega, rI_get hr]
        have gb : qz BL z = some [.sc (.bool b)] := by rw [r2, hz, if_pos (by omega), hBLe, show ((k : Int)).toNat = k by omega, rBo_get hbk]
        have hE1 := fun hx => all_step hzip hE hx
        have hE0 := fun hx => all_no (l := rs.zip l) (p := kk) hzip hx
        have htk := take_ab hr (by omega)
        by_cases hin : 0 ≤ r ∧ r < cs.length
        · have g1 := hH r hin
          have g2 := hAt r hin
          obtain ⟨c, hc, hC⟩ := hCg r hin
          have hkk2 := hgood r b c hin.1 hc
          have gc : qz C1 r = some [.sc (.int .u8 c.op), .sc (.string c.name), .sc (.int .i64 c.a), .sc (.int .i64 c.b), .sc (.int .i64 c.num), .sc (.int .i64 c.lev), .sc (.int .i64 (-1))] := by rw [r2, if_pos hin.1]; exact hC
          have hpr := prow_s c.op
          generalize hbo : decide (8 ≤ c.op) = bo at *
          generalize c.op = c0 at *
          generalize c.name = c1 at *
          generalize c.a = c2' at *
          generalize c.b = c3' at *
          generalize c.num = c4 at *
          generalize c.lev = c5 at *
          have hkk3 : kk (r, b) = (bo == b) := hkk2
          rw [hlt]
          cbv
          repeat (first | (with_reducible apply next_at hA; cbv) | (rw [gx]; cbv))
          try cbv
          repeat (first | (with_reducible apply next_at hA; cbv) | (rw [gx]; cbv))
          try simp (maxSteps := 4000000) only [nc] at *
          refine rd_at hA [0, 1, 2, 3] g1 ⟨rfl, rfl, rfl, rfl, rfl, rfl, rfl⟩ rfl ?_
          rintro _ rfl
          cbv
          repeat (first | (with_reducible apply next_at hA; cbv) | (rw [gx]; cbv))
          try cbv
          repeat (first | (with_reducible apply next_at hA; cbv) | (rw [gx]; cbv))
          try simp (maxSteps := 4000000) only [nc] at *
          refine rdq_at hA [0, 1, 2, 3] g2 ⟨rfl, rfl, rfl, rfl, rfl, rfl, rfl⟩ rfl ?_
          by_cases hbb : bo = b
          · have hkt : kk (r, b) = true := by rw [hkk3, hbb]; simp
            subst hbb
            rcases htk with ⟨hk0, t1, t2⟩ | ⟨hk0, t1, t2⟩
            · have hq0 : qj z 0 = true := by rw [e9, hz, hk0]; rfl
              cases bo
              all_goals
                cbv
                repeat (first | (with_reducible apply next_at hA; cbv) | (rw [gx]; cbv) | (rw [gb]; cbv) | (rw [gc]; cbv) | (rw [hq0]; cbv) | (refine call_at hA _ hpr rfl ?_; cbv) | (refine calm_at hA _ hpr ?_; cbv))
                try cbv
                repeat (first | (with_reducible apply next_at hA; cbv) | (rw [gx]; cbv) | (rw [gb]; cbv) | (rw [gc]; cbv) | (rw [hq0]; cbv) | (refine call_at hA _ hpr rfl ?_; cbv) | (refine calm_at hA _ hpr ?_; cbv))
                try simp (maxSteps := 4000000) only [nc] at *
                refine ⟨(qa .i64 (qb z 1), r, zb), ⟨k + 1, hz1, h9, t1.symm, by rw [t2]; exact hb, hE1 hkt⟩, hmu, ?_⟩
                cbv
            · have hq0 : qj z 0 = false := by rw [e9, hz, hk0]; rfl
              cases bo
              all_goals
                cbv
                repeat (first | (with_reducible apply next_at hA; cbv) | (rw [gx]; cbv) | (rw [gb]; cbv) | (rw [gc]; cbv) | (rw [hq0]; cbv) | (refine call_at hA _ hpr rfl ?_; cbv) | (refine calm_at hA _ hpr ?_; cbv))
                try cbv
                repeat (first | (with_reducible apply next_at hA; cbv) | (rw [gx]; cbv) | (rw [gb]; cbv) | (rw [gc]; cbv) | (rw [hq0]; cbv) | (refine call_at hA _ hpr rfl ?_; cbv) | (refine calm_at hA _ hpr ?_; cbv))
                try simp (maxSteps := 4000000) only [nc] at *
                refine ⟨(qa .i64 (qb z 1), za, r), ⟨k + 1, hz1, h9, by rw [t1]; exact ha, t2.symm, hE1 hkt⟩, hmu, ?_⟩
                cbv
          · have hkf : kk (r, b) = false := by rw [hkk3]; exact beq_eq_false_iff_ne.2 hbb
            have hall0 := hE0 hkf
            rw [hallB] at hall0
            cases bo <;> cases b
            all_goals try (exact absurd rfl hbb)
            all_goals
              cbv
              repeat (first | (with_reducible apply next_at hA; cbv) | (rw [gx]; cbv) | (rw [gb]; cbv) | (rw [gc]; cbv) | (refine call_at hA _ hpr rfl ?_; cbv) | (refine calm_at hA _ hpr ?_; cbv))
              try cbv
              repeat (first | (with_reducible apply next_at hA; cbv) | (rw [gx]; cbv) | (rw [gb]; cbv) | (rw [gc]; cbv) | (refine call_at hA _ hpr rfl ?_; cbv) | (refine calm_at hA _ hpr ?_; cbv))
              try simp (maxSteps := 4000000) only [nc] at *
              exact keep_is hA [0, 1, 2, 3] ⟨rfl, rfl, rfl, rfl, rfl, rfl, rfl, rfl⟩ ⟨fun h => (by rw [hall0] at h; cases h), fun _ => ⟨rfl, rfl⟩⟩
        · have g1 := hH0 r hin
          have hkf := hbad r b hin
          have hall0 := hE0 hkf
          rw [hallB] at hall0
          rw [hlt]
          cbv
          repeat (first | (with_reducible apply next_at hA; cbv) | (rw [gx]; cbv))
          try cbv
          repeat (first | (with_reducible apply next_at hA; cbv) | (rw [gx]; cbv))
          try simp (maxSteps := 4000000) only [nc] at *
          refine rd_at hA [0, 1, 2, 3] g1 ⟨rfl, rfl, rfl, rfl, rfl, rfl, rfl⟩ rfl ?_
          rintro _ rfl
          cbv
          repeat (first | (with_reducible apply next_at hA; cbv) | (rw [gx]; cbv))
          try cbv
          repeat (first | (with_reducible apply next_at hA; cbv) | (rw [gx]; cbv))
          try simp (maxSteps := 4000000) only [nc] at *
          exact keep_is hA [0, 1, 2, 3] ⟨rfl, rfl, rfl, rfl, rfl, rfl, rfl, rfl⟩ ⟨fun h => (by rw [hall0] at h; cases h), fun _ => ⟨rfl, rfl⟩⟩
      · rw [decide_eq_false h9] at hlt
        have hkl : k = rs.length := by omega
        have hall1 : allB = true := by rw [← hallB, ← hE, hkl, List.take_of_length_le (by rw [List.length_zip]; omega)]
        obtain rfl : za = A0 := by rw [ha, hA0, hkl, List.take_length]
        obtain rfl : zb = B0 := by rw [hb, hB0, hkl, List.take_length]
        rw [hlt]
        cbv
        repeat ((with_reducible apply next_at hA); cbv)
        refine callo_at hA [0, 1, 2, 3] hput ⟨rfl, rfl, rfl, rfl, rfl, rfl, rfl⟩ ?_
        rintro _ _ ⟨rfl, rfl⟩
        cbv
        repeat (first | (with_reducible apply next_at hA; cbv))
        try cbv
        repeat (first | (with_reducible apply next_at hA; cbv))
        try simp (maxSteps := 4000000) only [nc] at *
        exact keep_is hA [0, 1, 2, 3] ⟨rfl, rfl, rfl, rfl, rfl, rfl, rfl, rfl⟩ ⟨fun _ => ⟨rfl, rfl⟩, fun h => (by rw [hall1] at h; cases h)⟩
  · rw [decide_eq_false c3] at q3
    rw [decide_eq_true c2] at q2
    cbv
    repeat (first | (with_reducible apply next_at hA; cbv) | (rw [q1]; cbv) | (rw [q2]; cbv) | (rw [q3]; cbv) | (refine call_at hA _ h1 rfl ?_; cbv) | (refine calm_at hA _ h1 ?_; cbv) | (refine call_at hA _ hI rfl ?_; cbv) | (refine calm_at hA _ hI ?_; cbv) | (refine call_at hA _ h2 rfl ?_; cbv) | (refine calm_at hA _ h2 ?_; cbv) | (refine call_at hA _ h3 rfl ?_; cbv) | (refine calm_at hA _ h3 ?_; cbv) | (refine lit_at hA true ?_; cbv))
    try cbv
    repeat (first | (with_reducible apply next_at hA; cbv) | (rw [q1]; cbv) | (rw [q2]; cbv) | (rw [q3]; cbv) | (refine call_at hA _ h1 rfl ?_; cbv) | (refine calm_at hA _ h1 ?_; cbv) | (refine call_at hA _ hI rfl ?_; cbv) | (refine calm_at hA _ hI ?_; cbv) | (refine call_at hA _ h2 rfl ?_; cbv) | (refine calm_at hA _ h2 ?_; cbv) | (refine call_at hA _ h3 rfl ?_; cbv) | (refine calm_at hA _ h3 ?_; cbv) | (refine lit_at hA true ?_; cbv))
    try simp (maxSteps := 4000000) only [nc] at *
    refine loop_at hA (γ := Int × Int × Int) (fun x => [(56, vi .i64 x.1), (17, .jk), (19, .jk)]) (fun x => [(4, .box [vi .u8 op, vs nm, vi .i64 x.2.1, vi .i64 x.2.2])]) (fun x => ∃ k : Nat, x.1 = (k : Int) ∧ k ≤ rs.length ∧ x.2.1 = kA (rs.take k) ∧ x.2.2 = kB (rs.take k) ∧ ((rs.zip l).take k).all kk = true) (fun x => rs.length - x.1.toNat) (0, -1, -1) ?_ ?_ ?_
    · exact ⟨0, rfl, Nat.zero_le _, rfl, rfl, rfl⟩
    · cbv
    · rintro ⟨z, za, zb⟩ hinv
      cbv
      repeat ((with_reducible apply next_at hA); cbv)
      try simp (maxSteps := 4000000) only [nc] at *
      obtain ⟨k, hz, hk, ha, hb, hE⟩ := hinv
      replace hz : z = (k : Int) := hz
      replace ha : za = kA (rs.take k) := ha
      replace hb : zb = kB (rs.take k) := hb
      have hlt : qh z (qy RL) = decide (k < rs.length) := by rw [e7, r1, hRL, hz]; exact decide_eq_decide.2 (by omega)
      by_cases h9 : k < rs.length
      · rw [decide_eq_true h9] at hlt
        obtain ⟨r, hr⟩ : ∃ r, rs[k]? = some r := ⟨_, List.getElem?_eq_getElem h9⟩
        obtain ⟨b, hbk⟩ : ∃ b, l[k]? = some b := ⟨_, List.getElem?_eq_getElem (by omega)⟩
        have hzip := zip_get hr hbk
        have hz1 : qa .i64 (qb z 1) = ((k + 1 : Nat) : Int) := by rw [e1, e2, hz, IntWalk.i64_in _ (by omega)]; omega
        have hmu : rs.length - (qa .i64 (qb z 1)).toNat < rs.length - z.toNat := by rw [hz1, hz]; omega
        have gx : qz RL z = some [.sc (.int .i64 r)] := by rw [r2, hz, if_pos (by omega), hRLe, show ((k : Int)).toNat = k by omega, rI_get hr]
        have gb : qz BL z = some [.sc (.bool b)] := by rw [r2, hz, if_pos (by omega), hBLe, show ((k : Int)).toNat = k by omega, rBo_get hbk]
        have hE1 := fun hx => all_step hzip hE hx
        have hE0 := fun hx => all_no (l := rs.zip l) (p := kk) hzip hx
        have htk := take_ab hr (by omega)
        by_cases hin : 0 ≤ r ∧ r < cs.length
        · have g1 := hH r hin
          have g2 := hAt r hin
          obtain ⟨c, hc, hC⟩ := hCg r hin
          have hkk2 := hgood r b c hin.1 hc
          have gc : qz C1 r = some [.sc (.int .u8 c.op), .sc (.string c.name), .sc (.int .i64 c.a), .sc (.int .i64 c.b), .sc (.int .i64 c.num), .sc (.int .i64 c.lev), .sc (.int .i64 (-1))] := by rw [r2, if_pos hin.1]; exact hC
          have hpr := prow_s c.op
          generalize hbo : decide (8 ≤ c.op) = bo at *
          generalize c.op = c0 at *
          generalize c.name = c1 at *
          generalize c.a = c2' at *
          generalize c.b = c3' at *
          generalize c.num = c4 at *
          generalize c.lev = c5 at *
          have hkk3 : kk (r, b) = (bo == b) := hkk2
          rw [hlt]
          cbv
          repeat (first | (with_reducible apply next_at hA; cbv) | (rw [gx]; cbv))
          try cbv
          repeat (first | (with_reducible apply next_at hA; cbv) | (rw [gx]; cbv))
          try simp (maxSteps := 4000000) only [nc] at *
          refine rd_at hA [0, 1, 2, 3] g1 ⟨rfl, rfl, rfl, rfl, rfl, rfl, rfl⟩ rfl ?_
          rintro _ rfl
          cbv
          repeat (first | (with_reducible apply next_at hA; cbv) | (rw [gx]; cbv))
          try cbv
          repeat (first | (with_reducible apply next_at hA; cbv) | (rw [gx]; cbv))
          try simp (maxSteps := 4000000) only [nc] at *
          refine rdq_at hA [0, 1, 2, 3] g2 ⟨rfl, rfl, rfl, rfl, rfl, rfl, rfl⟩ rfl ?_
          by_cases hbb : bo = b
          · have hkt : kk (r, b) = true := by rw [hkk3, hbb]; simp
            subst hbb
            rcases htk with ⟨hk0, t1, t2⟩ | ⟨hk0, t1, t2⟩
            · have hq0 : qj z 0 = true := by rw [e9, hz, hk0]; rfl
              cases bo
              all_goals
                cbv
                repeat (first | (with_reducible apply next_at hA; cbv) | (rw [gx]; cbv) | (rw [gb]; cbv) | (rw [gc]; cbv) | (rw [hq0]; cbv) | (refine call_at hA _ hpr rfl ?_; cbv) | (refine calm_at hA _ hpr ?_; cbv))
                try cbv
                repeat (first | (with_reducible apply next_at hA; cbv) | (rw [gx]; cbv) | (rw [gb]; cbv) | (rw [gc]; cbv) | (rw [hq0]; cbv) | (refine call_at hA _ hpr rfl ?_; cbv) | (refine calm_at hA _ hpr ?_; cbv))
                try simp (maxSteps := 4000000) only [nc] at *
                refine ⟨(qa .i64 (qb z 1), r, zb), ⟨k + 1, hz1, h9, t1.symm, by rw [t2]; exact hb, hE1 hkt⟩, hmu, ?_⟩
                cbv
            · have hq0 : qj z 0 = false := by rw [e9, hz, hk0]; rfl
              cases bo
              all_goals
                cbv
                repeat (first | (with_reducible apply next_at hA; cbv) | (rw [gx]; cbv) | (rw [gb]; cbv) | (rw [gc]; cbv) | (rw [hq0]; cbv) | (refine call_at hA _ hpr rfl ?_; cbv) | (refine calm_at hA _ hpr ?_; cbv))
                try cbv
                repeat (first | (with_reducible apply next_at hA; cbv) | (rw [gx]; cbv) | (rw [gb]; cbv) | (rw [gc]; cbv) | (rw [hq0]; cbv) | (refine call_at hA _ hpr rfl ?_; cbv) | (refine calm_at hA _ hpr ?_; cbv))
                try simp (maxSteps := 4000000) only [nc] at *
                refine ⟨(qa .i64 (qb z 1), za, r), ⟨k + 1, hz1, h9, by rw [t1]; exact ha, t2.symm, hE1 hkt⟩, hmu, ?_⟩
                cbv
          · have hkf : kk (r, b) = false := by rw [hkk3]; exact beq_eq_false_iff_ne.2 hbb
            have hall0 := hE0 hkf
            rw [hallB] at hall0
            cases bo <;> cases b
            all_goals try (exact absurd rfl hbb)
            all_goals
              cbv
              repeat (first | (with_reducible apply next_at hA; cbv) | (rw [gx]; cbv) | (rw [gb]; cbv) | (rw [gc]; cbv) | (refine call_at hA _ hpr rfl ?_; cbv) | (refine calm_at hA _ hpr ?_; cbv))
              try cbv
              repeat (first | (with_reducible apply next_at hA; cbv) | (rw [gx]; cbv) | (rw [gb]; cbv) | (rw [gc]; cbv) | (refine call_at hA _ hpr rfl ?_; cbv) | (refine calm_at hA _ hpr ?_; cbv))
              try simp (maxSteps := 4000000) only [nc] at *
              exact keep_is hA [0, 1, 2, 3] ⟨rfl, rfl, rfl, rfl, rfl, rfl, rfl, rfl⟩ ⟨fun h => (by rw [hall0] at h; cases h), fun _ => ⟨rfl, rfl⟩⟩
        · have g1 := hH0 r hin
          have hkf := hbad r b hin
          have hall0 := hE0 hkf
          rw [hallB] at hall0
          rw [hlt]
          cbv
          repeat (first | (with_reducible apply next_at hA; cbv) | (rw [gx]; cbv))
          try cbv
          repeat (first | (with_reducible apply next_at hA; cbv) | (rw [gx]; cbv))
          try simp (maxSteps := 4000000) only [nc] at *
          refine rd_at hA [0, 1, 2, 3] g1 ⟨rfl, rfl, rfl, rfl, rfl, rfl, rfl⟩ rfl ?_
          rintro _ rfl
          cbv
          repeat (first | (with_reducible apply next_at hA; cbv) | (rw [gx]; cbv))
          try cbv
          repeat (first | (with_reducible apply next_at hA; cbv) | (rw [gx]; cbv))
          try simp (maxSteps := 4000000) only [nc] at *
          exact keep_is hA [0, 1, 2, 3] ⟨rfl, rfl, rfl, rfl, rfl, rfl, rfl, rfl⟩ ⟨fun h => (by rw [hall0] at h; cases h), fun _ => ⟨rfl, rfl⟩⟩
      · rw [decide_eq_false h9] at hlt
        have hkl : k = rs.length := by omega
        have hall1 : allB = true := by rw [← hallB, ← hE, hkl, List.take_of_length_le (by rw [List.length_zip]; omega)]
        obtain rfl : za = A0 := by rw [ha, hA0, hkl, List.take_length]
        obtain rfl : zb = B0 := by rw [hb, hB0, hkl, List.take_length]
        rw [hlt]
        cbv
        repeat ((with_reducible apply next_at hA); cbv)
        refine callo_at hA [0, 1, 2, 3] hput ⟨rfl, rfl, rfl, rfl, rfl, rfl, rfl⟩ ?_
        rintro _ _ ⟨rfl, rfl⟩
        cbv
        repeat (first | (with_reducible apply next_at hA; cbv))
        try cbv
        repeat (first | (with_reducible apply next_at hA; cbv))
        try simp (maxSteps := 4000000) only [nc] at *
        exact keep_is hA [0, 1, 2, 3] ⟨rfl, rfl, rfl, rfl, rfl, rfl, rfl, rfl⟩ ⟨fun _ => ⟨rfl, rfl⟩, fun h => (by rw [hall1] at h; cases h)⟩
end Go.Proofs.Ytclehkgnacekkaa.Vm
end

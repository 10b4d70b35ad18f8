/- Part 16 of the proof: VPo10. Conditions: none. -/
import Derived.Test.YtclehkgnacekkaaM3
import Derived.Test.YtclehkgnacekkaaM14
set_option linter.all false
set_option linter.unusedVariables false
set_option linter.unusedSimpArgs false
section
namespace Go.Proofs.Ytclehkgnacekkaa.Vm
open Go.RowKit
set_option maxRecDepth 100000
set_option maxHeartbeats 4000000
def bC (b : Bd) : List D := [.sc (.int .i64 b.n), .sc (.bool b.row), .sc (.int .i64 b.lev), .sc (.bool false), .sc (.int .u8 0), .sc (.string ⟨#[]⟩), .sc (.int .i64 0), .sl 0 []]
def MO (L : List Bd) : List O := [.box [.own 1], .row false 99 (L.map bC)]
def atB (L : List Bd) (n : Int) : Int := match L.findIdx? (bdIs n) with | some j => (j : Int) | none => -1
theorem isvar9_s (x : Ty) : Spec 58 [.ag (cT x)] [.one (.sc (.bool (isVar x)))] := by
  unfold isVar
  obtain ⟨op, nm, n, ks⟩ := x
  rw [cT]
  simp only [Ty.op]
  generalize rT ks = L
  generalize h1 : (op == 7) = b1
  generalize h2 : (op == 10) = b2
  refine spec_of Try.func58 rfl (by kernel_rfl) (by kernel_rfl) (by kernel_rfl) fun qa qb qc qd qe qf qg qh qi qj qk ql qm qo qp qs qt qu qv qx qy qz va vc vd ve vf vg vh vj vk vl vm vn vo vp vq vr vt hA => ?_
  obtain ⟨e1, e2, e3, e4, e5, e6, e7, e8, e9⟩ := ar_at hA
  have q1 : qj op 7 = b1 := by rw [e9, ← h1]
  have q2 : qj op 10 = b2 := by rw [e9, ← h2]
  cases b1 <;> cases b2
  all_goals
    cbv
    repeat (first | (with_reducible apply next_at hA; cbv) | (rw [q1]; cbv) | (rw [q2]; cbv))
    try cbv
    repeat (first | (with_reducible apply next_at hA; cbv) | (rw [q1]; cbv) | (rw [q2]; cbv))
    try simp (maxSteps := 4000000) only [nc] at *
theorem bC_get {L : List Bd} {j : Nat} {b : Bd} (h : L[j]? = some b) : (L.map bC)[j]? = some (bC b) := by rw [List.getElem?_map, h]; rfl
theorem findIdx_drop {α : Type} {p : α → Bool} {l : List α} {k : Nat} {x : α} (h : l[k]? = some x) (hn : (l.take k).findIdx? p = none) : (p x = true → l.findIdx? p = some k) ∧ (p x = false → (l.take (k + 1)).findIdx? p = none) := by
  have ht : l.take (k + 1) = l.take k ++ [x] := by rw [List.take_add_one, h]; rfl
  refine ⟨fun hx => ?_, fun hx => ?_⟩
  · rw [List.findIdx?_eq_some_iff_getElem]
    obtain ⟨hk, e⟩ := List.getElem?_eq_some_iff.1 h
    refine ⟨hk, by rw [e]; exact hx, fun j hj => ?_⟩
    rw [List.findIdx?_eq_none_iff] at hn
    have := hn l[j] (by rw [List.mem_take_iff_getElem]; exact ⟨j, by omega, rfl⟩)
    simp [this]
  · rw [List.findIdx?_eq_none_iff] at hn ⊢
    intro y hy
    rw [ht] at hy
    rcases List.mem_append.1 hy with hy | hy
    · exact hn y hy
    · simp at hy; subst hy; exact hx
theorem at09_s (L : List Bd) (n : Int) (hL : L.length ≤ 1048576) : SpecS 61 [.ptr 0 0, vi .i64 n] (MO L) (fun r os => r = [vi .i64 (atB L n)] ∧ os = MO L) := by
  have hg0 : ∀ k b, L[k]? = some b → (L.map bC)[k]? = some (bC b) := fun k b h => bC_get h
  have hlen : (L.map bC).length = L.length := by rw [List.length_map]
  obtain ⟨A0, hA0⟩ : ∃ A0, A0 = atB L n := ⟨_, rfl⟩
  unfold MO
  rw [← hA0]
  generalize L.map bC = C at *
  refine specr_of Try.func61 rfl (by kernel_rfl) (by kernel_rfl) (by kernel_rfl) rfl fun qa qb qc qd qe qf qg qh qi qj qk ql qm qo qp qs qt qu qv qx qy qz va vc vd ve vf vg vh vj vk vl vm vn vo vp vq vr vt hA K hK => ?_
  obtain ⟨e1, e2, e3, e4, e5, e6, e7, e8, e9⟩ := ar_at hA
  obtain ⟨r1, r2, r3, r4⟩ := row_at hA
  cbv
  repeat ((with_reducible apply next_at hA); cbv)
  refine loop_at hA (γ := Int) (fun x => [(5, vi .i64 x)]) (fun x => []) (fun x => ∃ k : Nat, x = (k : Int) ∧ k ≤ L.length ∧ (L.take k).findIdx? (bdIs n) = none) (fun x => L.length - x.toNat) 0 ?_ ?_ ?_
  · exact ⟨0, rfl, Nat.zero_le _, rfl⟩
  · cbv
  · intro z hinv
    cbv
    repeat ((with_reducible apply next_at hA); cbv)
    try simp (maxSteps := 4000000) only [nc] at *
    obtain ⟨k, hz, hk, hE⟩ := hinv
    replace hz : z = (k : Int) := hz
    have hlt : qh z (qy C) = decide (k < L.length) := by rw [e7, r1, hlen, hz]; exact decide_eq_decide.2 (by omega)
    by_cases h9 : k < L.length
    · rw [decide_eq_true h9] at hlt
      obtain ⟨x, hx⟩ : ∃ x, L[k]? = some x := ⟨_, List.getElem?_eq_getElem h9⟩
      have hfd := findIdx_drop hx hE
      have hz1 : qa .i64 (qb z 1) = ((k + 1 : Nat) : Int) := by rw [e1, e2, hz, IntWalk.i64_in _ (by omega)]; omega
      have hmu : L.length - (qa .i64 (qb z 1)).toNat < L.length - z.toNat := by rw [hz1, hz]; omega
      have gx : qz C z = some [.sc (.int .i64 x.n), .sc (.bool x.row), .sc (.int .i64 x.lev), .sc (.bool false), .sc (.int .u8 0), .sc (.string ⟨#[]⟩), .sc (.int .i64 0), .sl 0 []] := by rw [r2, hz, if_pos (by omega), show ((k : Int)).toNat = k by omega]; exact hg0 k x hx
      have hq : qj x.n n = bdIs n x := by rw [e9]; rfl
      generalize x.n = x1 at *
      generalize x.row = x2 at *
      generalize x.lev = x3 at *
      rw [hlt]
      cases hb : bdIs n x with
      | true =>
        rw [hb] at hq
        cbv
        repeat (first | (with_reducible apply next_at hA; cbv) | (rw [gx]; cbv) | (rw [hq]; cbv))
        try cbv
        repeat (first | (with_reducible apply next_at hA; cbv) | (rw [gx]; cbv) | (rw [hq]; cbv))
        try simp (maxSteps := 4000000) only [nc] at *
        refine hK _ ?_
        have : A0 = z := by rw [hA0, hz]; unfold atB; rw [hfd.1 hb]
        rw [this]
        rfl
      | false =>
        rw [hb] at hq
        cbv
        repeat (first | (with_reducible apply next_at hA; cbv) | (rw [gx]; cbv) | (rw [hq]; cbv))
        try cbv
        repeat (first | (with_reducible apply next_at hA; cbv) | (rw [gx]; cbv) | (rw [hq]; cbv))
        try simp (maxSteps := 4000000) only [nc] at *
        refine ⟨qa .i64 (qb z 1), ⟨k + 1, hz1, h9, hfd.2 hb⟩, hmu, ?_⟩
        cbv
    · rw [decide_eq_false h9] at hlt
      rw [hlt]
      cbv
      repeat ((with_reducible apply next_at hA); cbv)
      refine hK _ ?_
      have : A0 = -1 := by rw [hA0]; unfold atB; rw [List.take_of_length_le (by omega)] at hE; rw [hE]
      rw [this]
      rfl
theorem atB_cases (L : List Bd) (n : Int) : (atB L n = -1 ∧ L.find? (bdIs n) = none) ∨ ∃ (j : Nat) (b : Bd), atB L n = (j : Int) ∧ L[j]? = some b ∧ L.find? (bdIs n) = some b := by
  unfold atB
  rcases find_idx (bdIs n) L with ⟨h1, h2, _⟩ | ⟨j, b, h1, h2, h3, _⟩
  · exact .inl ⟨by rw [h1], h2⟩
  · exact .inr ⟨j, b, by rw [h1], h2, h3⟩
theorem fold_take {lev : Int} {ts : List Ty} {k : Nat} {x : Ty} (h : ts[k]? = some x) (L : List Bd) : (ts.take (k + 1)).foldl (meet1 lev) L = meet1 lev ((ts.take k).foldl (meet1 lev) L) x := by
  rw [List.take_add_one, h, List.foldl_append]
  rfl
def meetQ (lev : Int) (L : List Bd) (t : Ty) (res : List V) (os : List O) : Prop := (meetOk L t = true → res = [vb true] ∧ os = MO (meetF lev L t)) ∧ (meetOk L t = false → res = [vb false] ∧ os = MO L)
theorem meet09_s (t : Ty) (lev : Int) (hN : t.parts.length ≤ 1048576) (L : List Bd) (hL : L.length + t.parts.length ≤ 1048576) : SpecO 30 [.ptr 0 0, .ag (ofD (cT t)), vi .i64 lev] (MO L) (meetQ lev L t) := by
  have hP := Parts_s t hN
  have hAt : ∀ (M : List Bd) (n : Int), M.length ≤ 1048576 → SpecS 61 [.ptr 0 0, vi .i64 n] (MO M) (fun r os => r = [vi .i64 (atB M n)] ∧ os = MO M) := fun M n h => at09_s M n h
  unfold meetQ meetOk meetF
  generalize hts : t.parts = ts at *
  obtain ⟨T, hT⟩ : ∃ T, T = rT ts := ⟨_, rfl⟩
  rw [← hT] at hP
  obtain ⟨a0, a1, a2, a3, ha⟩ := cT_four t
  rw [ha] at hP ⊢
  obtain ⟨C, hC⟩ : ∃ C, C = L.map bC := ⟨_, rfl⟩
  have hMO : ∀ M, MO M = [.box [.own 1], .row false 99 (M.map bC)] := fun _ => rfl
  generalize hok : ts.all (okBd L) = ok
  rw [hMO, hMO, ← hC]
  obtain ⟨Cf, hCf⟩ : ∃ Cf, Cf = (ts.foldl (meet1 lev) L).map bC := ⟨_, rfl⟩
  rw [← hCf]
  refine speco_of Try.func30 rfl (by kernel_rfl) (by kernel_rfl) (by kernel_rfl) fun qa qb qc qd qe qf qg qh qi qj qk ql qm qo qp qs qt qu qv qx qy qz va vc vd ve vf vg vh vj vk vl vm vn vo vp vq vr vt hA => ?_
  obtain ⟨e1, e2, e3, e4, e5, e6, e7, e8, e9⟩ := ar_at hA
  obtain ⟨r1, r2, r3, r4⟩ := row_at hA
  cbv
  repeat (first | (with_reducible apply next_at hA; cbv) | (refine call_at hA _ hP rfl ?_; cbv) | (refine calm_at hA _ hP ?_; cbv))
  try cbv
  repeat (first | (with_reducible apply next_at hA; cbv) | (refine call_at hA _ hP rfl ?_; cbv) | (refine calm_at hA _ hP ?_; cbv))
  try simp (maxSteps := 4000000) only [nc] at *
  refine loop_at hA (γ := Int) (fun x => [(8, vi .i64 x)]) (fun x => []) (fun x => ∃ k : Nat, x = (k : Int) ∧ k ≤ ts.length ∧ (ts.take k).all (okBd L) = true) (fun x => ts.length - x.toNat) 0 ?_ ?_ ?_
  · exact ⟨0, rfl, Nat.zero_le _, rfl⟩
  · cbv
  intro z hinv
  cbv
  repeat ((with_reducible apply next_at hA); cbv)
  try simp (maxSteps := 4000000) only [nc] at *
  obtain ⟨k, hz, hk, hE⟩ := hinv
  replace hz : z = (k : Int) := hz
  have hlt : qh z (qy T) = decide (k < ts.length) := by rw [e7, r1, hT, rT_len, hz]; exact decide_eq_decide.2 (by omega)
  by_cases h9 : k < ts.length
  · rw [decide_eq_true h9] at hlt
    obtain ⟨x, hx⟩ : ∃ x, ts[k]? = some x := ⟨_, List.getElem?_eq_getElem h9⟩
    have hz1 : qa .i64 (qb z 1) = ((k + 1 : Nat) : Int) := by rw [e1, e2, hz, IntWalk.i64_in _ (by omega)]; omega
    have hmu : ts.length - (qa .i64 (qb z 1)).toNat < ts.length - z.toNat := by rw [hz1, hz]; omega
    have hiv := isvar9_s x
    have hat := hAt L x.n (by omega)
    rw [hMO, ← hC] at hat
    have hE1 := fun hy => all_step hx hE hy
    have hE0 := fun hy => all_no (l := ts) (p := okBd L) hx hy
    have hob : okBd L x = match L.find? (bdIs x.n) with | some b => !(isVar x && !(b.row == (x.op == 10))) | none => true := rfl
    have hca := atB_cases L x.n
    have gx : qz T z = some (cT x) := by rw [r2, hz, if_pos (by omega), hT, show ((k : Int)).toNat = k by omega, rT_get hx]
    have h10 : qj x.op 10 = (x.op == 10) := e9 _ _
    generalize okBd L x = ob at *
    generalize isVar x = iv at *
    generalize atB L x.n = az at *
    obtain ⟨op, nm, n, ks⟩ := x
    rw [cT] at gx hiv
    simp only [Ty.op, Ty.n] at *
    generalize rT ks = KL at *
    generalize (op == 10) = b10 at *
    rw [hlt]
    cbv
    repeat (first | (with_reducible apply next_at hA; cbv) | (rw [gx]; cbv))
    try cbv
    repeat (first | (with_reducible apply next_at hA; cbv) | (rw [gx]; cbv))
    try simp (maxSteps := 4000000) only [nc] at *
    refine rd_at hA [0, 1] hat ⟨rfl, rfl, rfl, rfl, rfl, rfl, rfl⟩ rfl ?_
    rintro _ rfl
    rcases hca with ⟨rfl, hf⟩ | ⟨j, b, rfl, hj, hf⟩
    · rw [hf] at hob
      replace hob : ob = true := hob
      have hle : qi 0 (-1) = false := e8 _ _
      cases iv
      all_goals
        cbv
        repeat (first | (with_reducible apply next_at hA; cbv) | (rw [gx]; cbv) | (rw [hle]; cbv) | (refine call_at hA _ hiv rfl ?_; cbv) | (refine calm_at hA _ hiv ?_; cbv))
        try cbv
        repeat (first | (with_reducible apply next_at hA; cbv) | (rw [gx]; cbv) | (rw [hle]; cbv) | (refine call_at hA _ hiv rfl ?_; cbv) | (refine calm_at hA _ hiv ?_; cbv))
        try simp (maxSteps := 4000000) only [nc] at *
        refine ⟨qa .i64 (qb z 1), ⟨k + 1, hz1, h9, hE1 hob⟩, hmu, ?_⟩
        cbv
    · rw [hf] at hob
      replace hob : ob = !(iv && !(b.row == b10)) := hob
      have hle : qi 0 (j : Int) = true := by rw [e8]; exact decide_eq_true (by omega)
      have gb : qz C (j : Int) = some [.sc (.int .i64 b.n), .sc (.bool b.row), .sc (.int .i64 b.lev), .sc (.bool false), .sc (.int .u8 0), .sc (.string ⟨#[]⟩), .sc (.int .i64 0), .sl 0 []] := by rw [r2, if_pos (by omega), show ((j : Int)).toNat = j by omega, hC]; exact bC_get hj
      generalize b.n = b1 at *
      generalize b.row = b2 at *
      generalize b.lev = b3 at *
      obtain ⟨zj, hzj⟩ : ∃ zj, zj = (j : Int) := ⟨_, rfl⟩
      rw [← hzj] at hle gb ⊢
      cases iv
      · replace hob : ob = true := by rw [hob]; rfl
        cbv
        repeat (first | (with_reducible apply next_at hA; cbv) | (rw [gx]; cbv) | (rw [hle]; cbv) | (rw [gb]; cbv) | (rw [h10]; cbv) | (refine call_at hA _ hiv rfl ?_; cbv) | (refine calm_at hA _ hiv ?_; cbv))
        try cbv
        repeat (first | (with_reducible apply next_at hA; cbv) | (rw [gx]; cbv) | (rw [hle]; cbv) | (rw [gb]; cbv) | (rw [h10]; cbv) | (refine call_at hA _ hiv rfl ?_; cbv) | (refine calm_at hA _ hiv ?_; cbv))
        try simp (maxSteps := 4000000) only [nc] at *
        refine ⟨qa .i64 (qb z 1), ⟨k + 1, hz1, h9, hE1 hob⟩, hmu, ?_⟩
        cbv
      · cases b2 <;> cases b10
        all_goals
          first
          | (replace hob : ob = true := hob
             cbv
             repeat (first | (with_reducible apply next_at hA; cbv) | (rw [gx]; cbv) | (rw [hle]; cbv) | (rw [gb]; cbv) | (rw [h10]; cbv) | (refine call_at hA _ hiv rfl ?_; cbv) | (refine calm_at hA _ hiv ?_; cbv))
             try cbv
             repeat (first | (with_reducible apply next_at hA; cbv) | (rw [gx]; cbv) | (rw [hle]; cbv) | (rw [gb]; cbv) | (rw [h10]; cbv) | (refine call_at hA _ hiv rfl ?_; cbv) | (refine calm_at hA _ hiv ?_; cbv))
             try simp (maxSteps := 4000000) only [nc] at *
             refine ⟨qa .i64 (qb z 1), ⟨k + 1, hz1, h9, hE1 hob⟩, hmu, ?_⟩
             cbv; done)
          | (replace hob : ob = false := hob
             have hall0 := hE0 hob
             rw [hok] at hall0
             cbv
             repeat (first | (with_reducible apply next_at hA; cbv) | (rw [gx]; cbv) | (rw [hle]; cbv) | (rw [gb]; cbv) | (rw [h10]; cbv) | (refine call_at hA _ hiv rfl ?_; cbv) | (refine calm_at hA _ hiv ?_; cbv))
             try cbv
             repeat (first | (with_reducible apply next_at hA; cbv) | (rw [gx]; cbv) | (rw [hle]; cbv) | (rw [gb]; cbv) | (rw [h10]; cbv) | (refine call_at hA _ hiv rfl ?_; cbv) | (refine calm_at hA _ hiv ?_; cbv))
             try simp (maxSteps := 4000000) only [nc] at *
             exact keep_is hA [0, 1] ⟨rfl, rfl, rfl, rfl, rfl, rfl, rfl, rfl⟩ ⟨fun h => (by rw [hall0] at h; cases h), fun _ => ⟨rfl, rfl⟩⟩)
  · rw [decide_eq_false h9] at hlt
    have hall1 : ok = true := by rw [← hok, ← hE, List.take_of_length_le (by omega)]
    rw [hlt]
    cbv
    repeat ((with_reducible apply next_at hA); cbv)
    clear hE hlt hz hk h9
    refine loop_at hA (γ := Int × List (List D)) (fun x => [(10, vi .i64 x.1)]) (fun x => [(1, .row false 99 x.2)]) (fun x => ∃ k : Nat, x.1 = (k : Int) ∧ k ≤ ts.length ∧ x.2 = ((ts.take k).foldl (meet1 lev) L).map bC) (fun x => ts.length - x.1.toNat) (0, C) ?_ ?_ ?_
    · exact ⟨0, rfl, Nat.zero_le _, hC⟩
    · cbv
    rintro ⟨z, M⟩ hinv
    cbv
    repeat ((with_reducible apply next_at hA); cbv)
    try simp (maxSteps := 4000000) only [nc] at *
    obtain ⟨k, hz, hk, hM⟩ := hinv
    replace hz : z = (k : Int) := hz
    replace hM : M = ((ts.take k).foldl (meet1 lev) L).map bC := hM
    have hlt : qh z (qy T) = decide (k < ts.length) := by rw [e7, r1, hT, rT_len, hz]; exact decide_eq_decide.2 (by omega)
    by_cases h9 : k < ts.length
    · rw [decide_eq_true h9] at hlt
      obtain ⟨x, hx⟩ : ∃ x, ts[k]? = some x := ⟨_, List.getElem?_eq_getElem h9⟩
      have hz1 : qa .i64 (qb z 1) = ((k + 1 : Nat) : Int) := by rw [e1, e2, hz, IntWalk.i64_in _ (by omega)]; omega
      have hmu : ts.length - (qa .i64 (qb z 1)).toNat < ts.length - z.toNat := by rw [hz1, hz]; omega
      have hiv := isvar9_s x
      have hft := fold_take (lev := lev) hx L
      generalize hM' : (ts.take k).foldl (meet1 lev) L = M' at *
      have hMl : M'.length ≤ L.length + (ts.take k).length := by rw [← hM']; exact (meet_len lev _ _).2
      rw [List.length_take] at hMl
      have hat := hAt M' x.n (by omega)
      rw [hMO, ← hM] at hat
      have hca := atB_cases M' x.n
      have gx : qz T z = some (cT x) := by rw [r2, hz, if_pos (by omega), hT, show ((k : Int)).toNat = k by omega, rT_get hx]
      have h10 : qj x.op 10 = (x.op == 10) := e9 _ _
      have hyes : isVar x = true → M'.find? (bdIs x.n) = none → vc M [bC ⟨x.n, x.op == 10, lev⟩] = ((ts.take (k + 1)).foldl (meet1 lev) L).map bC := fun h1 h2 => by
        rw [hft, r4, hM]
        unfold meet1
        rw [if_pos ⟨h1, h2⟩, List.map_append]
        rfl
      have hno : ¬ (isVar x = true ∧ M'.find? (bdIs x.n) = none) → M = ((ts.take (k + 1)).foldl (meet1 lev) L).map bC := fun h1 => by
        rw [hft, hM]
        unfold meet1
        rw [if_neg h1]
      have hroom : M.length ≤ 1048576 := by rw [hM, List.length_map]; omega
      have hbC : bC ⟨x.n, x.op == 10, lev⟩ = [.sc (.int .i64 x.n), .sc (.bool (x.op == 10)), .sc (.int .i64 lev), .sc (.bool false), .sc (.int .u8 0), .sc (.string ⟨#[]⟩), .sc (.int .i64 0), .sl 0 []] := rfl
      rw [hbC] at hyes
      generalize isVar x = iv at *
      generalize hazz : atB M' x.n = az at *
      generalize hfind : M'.find? (bdIs x.n) = fnd at *
      obtain ⟨op, nm, n, ks⟩ := x
      rw [cT] at gx hiv
      simp only [Ty.op, Ty.n] at *
      generalize rT ks = KL at *
      generalize (op == 10) = b10 at *
      clear hft
      rw [hlt]
      cases iv with
      | false =>
        cbv
        repeat (first | (with_reducible apply next_at hA; cbv) | (rw [gx]; cbv) | (refine call_at hA _ hiv rfl ?_; cbv) | (refine calm_at hA _ hiv ?_; cbv))
        try cbv
        repeat (first | (with_reducible apply next_at hA; cbv) | (rw [gx]; cbv) | (refine call_at hA _ hiv rfl ?_; cbv) | (refine calm_at hA _ hiv ?_; cbv))
        try simp (maxSteps := 4000000) only [nc] at *
        refine ⟨(qa .i64 (qb z 1), M), ⟨k + 1, hz1, h9, hno (by simp)⟩, hmu, ?_⟩
        cbv
      | true =>
        rcases hca with ⟨rfl, rfl⟩ | ⟨j, b, rfl, hj, rfl⟩
        · have hl0 : qh (-1) 0 = true := e7 _ _
          cbv
          repeat (first | (with_reducible apply next_at hA; cbv) | (rw [gx]; cbv) | (rw [hl0]; cbv) | (rw [h10]; cbv) | (refine call_at hA _ hiv rfl ?_; cbv) | (refine calm_at hA _ hiv ?_; cbv) | (refine rd_at hA [0, 1] hat ⟨rfl, rfl, rfl, rfl, rfl, rfl, rfl⟩ rfl ?_; rintro _ rfl; cbv) | (refine lit_at hA true ?_; cbv) | (refine room_at hA (by simp only [List.length_cons, List.length_nil]; omega) ?_; cbv))
          try cbv
          repeat (first | (with_reducible apply next_at hA; cbv) | (rw [gx]; cbv) | (rw [hl0]; cbv) | (rw [h10]; cbv) | (refine call_at hA _ hiv rfl ?_; cbv) | (refine calm_at hA _ hiv ?_; cbv) | (refine rd_at hA [0, 1] hat ⟨rfl, rfl, rfl, rfl, rfl, rfl, rfl⟩ rfl ?_; rintro _ rfl; cbv) | (refine lit_at hA true ?_; cbv) | (refine room_at hA (by simp only [List.length_cons, List.length_nil]; omega) ?_; cbv))
          try simp (maxSteps := 4000000) only [nc] at *
          refine ⟨(qa .i64 (qb z 1), vc M _), ⟨k + 1, hz1, h9, hyes (by first | trivial | rfl) (by first | trivial | rfl)⟩, hmu, ?_⟩
          cbv
        · have hl0 : qh (j : Int) 0 = false := by rw [e7]; exact decide_eq_false (by omega)
          obtain ⟨zj, hzj⟩ : ∃ zj, zj = (j : Int) := ⟨_, rfl⟩
          rw [← hzj] at hl0 hat
          cbv
          repeat (first | (with_reducible apply next_at hA; cbv) | (rw [gx]; cbv) | (rw [hl0]; cbv) | (rw [h10]; cbv) | (refine call_at hA _ hiv rfl ?_; cbv) | (refine calm_at hA _ hiv ?_; cbv) | (refine rd_at hA [0, 1] hat ⟨rfl, rfl, rfl, rfl, rfl, rfl, rfl⟩ rfl ?_; rintro _ rfl; cbv))
          try cbv
          repeat (first | (with_reducible apply next_at hA; cbv) | (rw [gx]; cbv) | (rw [hl0]; cbv) | (rw [h10]; cbv) | (refine call_at hA _ hiv rfl ?_; cbv) | (refine calm_at hA _ hiv ?_; cbv) | (refine rd_at hA [0, 1] hat ⟨rfl, rfl, rfl, rfl, rfl, rfl, rfl⟩ rfl ?_; rintro _ rfl; cbv))
          try simp (maxSteps := 4000000) only [nc] at *
          refine ⟨(qa .i64 (qb z 1), M), ⟨k + 1, hz1, h9, hno (by simp)⟩, hmu, ?_⟩
          cbv
    · rw [decide_eq_false h9] at hlt
      have hM2 : M = Cf := by rw [hM, hCf, List.take_of_length_le (by omega)]
      subst hM2
      rw [hlt]
      cbv
      repeat ((with_reducible apply next_at hA); cbv)
      exact keep_is hA [0, 1] ⟨rfl, rfl, rfl, rfl, rfl, rfl, rfl, rfl⟩ ⟨fun _ => ⟨rfl, rfl⟩, fun h => (by rw [hall1] at h; cases h)⟩
end Go.Proofs.Ytclehkgnacekkaa.Vm
end

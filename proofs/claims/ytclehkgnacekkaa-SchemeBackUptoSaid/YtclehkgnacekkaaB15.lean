/- Part 15 of the proof: VAp5. Conditions: none. -/
import Derived.Test.YtclehkgnacekkaaB14
set_option linter.all false
set_option linter.unusedVariables false
set_option linter.unusedSimpArgs false
section
namespace Go.Proofs.Ytclehkgnacekkaa.Vm
open Go.RowKit
set_option maxRecDepth 100000
set_option maxHeartbeats 4000000
def putP (l : List (Int × Ty)) : Ty → Ty
  | .mk op nm n ks => if op = 7 ∨ op = 10 then (match ofS l n (op == 10) with | some p => canonS p.2 | none => .mk op nm n ks) else .mk op nm n (putPs l ks)
where putPs (l : List (Int × Ty)) : List Ty → List Ty
  | [] => []
  | t :: ts => putP l t :: putPs l ts
def Thin (t : Ty) : Prop := ∀ x ∈ t.parts, x.kids.length ≤ 2
def putSpec (l : List (Int × Ty)) (t : Ty) : Prop := ∀ z, SpecO 52 [oT (.int .u8 t.op) (.string t.name) (.int .i64 t.n) 0, .d (.sl 5 (rB l))] [.it (treeP z 25 (rT t.kids))] (ownT (putP l t))
theorem put_var (l : List (Int × Ty)) (hl : l.length ≤ 1048576) (hlp : ∀ p ∈ l, Sm p.2) (op : Int) (nm : ByteArray) (n : Int) (ks : List Ty) (hop : op = 7 ∨ op = 10) : putSpec l (.mk op nm n ks) := by
  intro z
  show SpecO 52 [oT (.int .u8 op) (.string nm) (.int .i64 n) 0, .d (.sl 5 (rB l))] [.it (treeP z 25 (rT ks))] _
  rw [putP, if_pos hop]
  obtain ⟨K0, hK0⟩ : ∃ K0, K0 = rT ks := ⟨_, rfl⟩
  rw [← hK0]
  have hix := index_put l hl hlp (.int .u8 op) (.string nm) n (op == 10) (treeP z 25 K0)
  obtain ⟨B, hB⟩ : ∃ B, B = rB l := ⟨_, rfl⟩
  rw [← hB] at hix ⊢
  have hfind := findI_of n (op == 10) l 0
  have hcase : (findI n (op == 10) l 0 = none ∧ (match ofS l n (op == 10) with | some p => canonS p.2 | none => .mk op nm n ks) = .mk op nm n ks) ∨ ∃ j p, findI n (op == 10) l 0 = some j ∧ l[j]? = some p ∧ (match ofS l n (op == 10) with | some p => canonS p.2 | none => .mk op nm n ks) = canonS p.2 ∧ eitherT p.2 = true := by
    rcases hfind with ⟨h1, h2⟩ | ⟨j, p, h1, h2, h3, h4⟩
    · exact .inl ⟨h1, by rw [h2]⟩
    · refine .inr ⟨j, p, by rw [h1, Nat.zero_add], h2, by rw [h3], ?_⟩
      unfold fitB at h4
      unfold eitherT
      cases hb : op == 10 <;> rw [hb] at h4 <;> simp only at h4 <;> rw [h4] <;> simp
  generalize (match ofS l n (op == 10) with | some p => canonS p.2 | none => Ty.mk op nm n ks) = T at *
  generalize findI n (op == 10) l 0 = r at *
  have hrow : fitF (op == 10) = if op = 10 then 54 else 42 := by
    by_cases h : op = 10
    · subst h; rfl
    · rw [if_neg h, show (op == 10) = false by simpa using h]; rfl
  rw [hrow] at hix
  obtain ⟨Q, hQ⟩ : ∃ Q, Q = ownT T := ⟨_, rfl⟩
  rw [← hQ]
  refine speco_of Try.func52 rfl (by kernel_rfl) (by kernel_rfl) (by kernel_rfl) fun qa qb qc qd qe qf qg qh qi qj qk ql qm qo qp qq qs qt qu qv qw qx qy qz va vc vd ve vf vg vh vj vk vl vp vq vr vt vu hA => ?_
  cbv
  obtain ⟨e1, e2, e3, e4, e5, e6, e7, e8, e9⟩ := ar_at hA
  obtain ⟨r1, r2, r3, r4⟩ := row_at hA
  rcases hop with rfl | rfl
  · have h7 : qj 7 7 = true := e9 _ _
    have h10 : qj 7 10 = false := e9 _ _
    rw [if_neg (by decide)] at hix
    cbv
    repeat (first | (with_reducible apply next_at hA; cbv) | (rw [h7]; cbv) | (rw [h10]; cbv))
    try cbv
    repeat (first | (with_reducible apply next_at hA; cbv) | (rw [h7]; cbv) | (rw [h10]; cbv))
    try simp (maxSteps := 4000000) only [nc] at *
    refine sound_at hA hix ?_
    rintro _ _ _ ⟨rfl, rfl, rfl⟩
    rcases hcase with ⟨hr, hT⟩ | ⟨j, p, hr, hp, hT, hep⟩
    · rw [hr]
      have hge : qi 0 (-1) = false := e8 _ _
      cbv
      repeat (first | (with_reducible apply next_at hA; cbv) | (rw [hge]; cbv))
      try cbv
      repeat (first | (with_reducible apply next_at hA; cbv) | (rw [hge]; cbv))
      try simp (maxSteps := 4000000) only [nc] at *
      exact keep_is hA [0] (res' := [oT _ _ _ 0]) (os' := [.it (treeP z 25 K0)]) ⟨rfl, rfl, rfl, rfl, rfl, rfl, rfl, rfl⟩ (by rw [hQ, hT, hK0]; exact ⟨rfl, _, rfl⟩)
    · rw [hr]
      have hge : qi 0 (j : Int) = true := by rw [e8]; exact decide_eq_true (by omega)
      have hc := CanonO_s p.2 (hlp p (List.mem_of_getElem? hp)) hep
      have gx : qx B (j : Int) = some (.sc (.int .i64 p.1) :: cT p.2) := by rw [r2, if_pos (by omega), hB, show ((j : Int)).toNat = j by omega, rB_get hp]
      obtain ⟨pn, pt⟩ := p
      simp only at hc gx
      obtain ⟨x0, x1, x2, x3, hxx⟩ := cT_four pt
      rw [hxx] at hc gx
      obtain ⟨vo, vm, vn, vK, hvs⟩ : ∃ vo vm vn vK, ownT (canonS pt) = ownR vo vm vn vK := ⟨_, _, _, _, rfl⟩
      rw [hvs] at hc
      have hi : idxV (some j) = (j : Int) := rfl
      rw [hi]
      obtain ⟨zj, hzj⟩ : ∃ zj, zj = (j : Int) := ⟨_, rfl⟩
      rw [← hzj] at hge gx ⊢
      cbv
      repeat (first | (with_reducible apply next_at hA; cbv) | (rw [hge]; cbv) | (rw [gx]; cbv))
      try cbv
      repeat (first | (with_reducible apply next_at hA; cbv) | (rw [hge]; cbv) | (rw [gx]; cbv))
      try simp (maxSteps := 4000000) only [nc] at *
      refine callo_at hA [] hc ⟨rfl, rfl, rfl, rfl, rfl, rfl, rfl⟩ ?_
      rintro _ _ ⟨rfl, zz, rfl⟩
      cbv
      refine movet_at hA 0 4 rfl rfl rfl ?_
      cbv
      repeat ((with_reducible apply next_at hA); cbv)
      exact keep_is hA [0] (res' := [oT vo vm vn 0]) (os' := [.it (treeP zz 25 vK)]) ⟨rfl, rfl, rfl, rfl, rfl, rfl, rfl, rfl⟩ (by rw [hQ, hT, hvs]; exact ⟨rfl, _, rfl⟩)
  · have h7 : qj 10 7 = false := e9 _ _
    have h10 : qj 10 10 = true := e9 _ _
    rw [if_pos rfl] at hix
    cbv
    repeat (first | (with_reducible apply next_at hA; cbv) | (rw [h7]; cbv) | (rw [h10]; cbv))
    try cbv
    repeat (first | (with_reducible apply next_at hA; cbv) | (rw [h7]; cbv) | (rw [h10]; cbv))
    try simp (maxSteps := 4000000) only [nc] at *
    refine sound_at hA hix ?_
    rintro _ _ _ ⟨rfl, rfl, rfl⟩
    rcases hcase with ⟨hr, hT⟩ | ⟨j, p, hr, hp, hT, hep⟩
    · rw [hr]
      have hge : qi 0 (-1) = false := e8 _ _
      cbv
      repeat (first | (with_reducible apply next_at hA; cbv) | (rw [hge]; cbv))
      try cbv
      repeat (first | (with_reducible apply next_at hA; cbv) | (rw [hge]; cbv))
      try simp (maxSteps := 4000000) only [nc] at *
      exact keep_is hA [0] (res' := [oT _ _ _ 0]) (os' := [.it (treeP z 25 K0)]) ⟨rfl, rfl, rfl, rfl, rfl, rfl, rfl, rfl⟩ (by rw [hQ, hT, hK0]; exact ⟨rfl, _, rfl⟩)
    · rw [hr]
      have hge : qi 0 (j : Int) = true := by rw [e8]; exact decide_eq_true (by omega)
      have hc := CanonO_s p.2 (hlp p (List.mem_of_getElem? hp)) hep
      have gx : qx B (j : Int) = some (.sc (.int .i64 p.1) :: cT p.2) := by rw [r2, if_pos (by omega), hB, show ((j : Int)).toNat = j by omega, rB_get hp]
      obtain ⟨pn, pt⟩ := p
      simp only at hc gx
      obtain ⟨x0, x1, x2, x3, hxx⟩ := cT_four pt
      rw [hxx] at hc gx
      obtain ⟨vo, vm, vn, vK, hvs⟩ : ∃ vo vm vn vK, ownT (canonS pt) = ownR vo vm vn vK := ⟨_, _, _, _, rfl⟩
      rw [hvs] at hc
      have hi : idxV (some j) = (j : Int) := rfl
      rw [hi]
      obtain ⟨zj, hzj⟩ : ∃ zj, zj = (j : Int) := ⟨_, rfl⟩
      rw [← hzj] at hge gx ⊢
      cbv
      repeat (first | (with_reducible apply next_at hA; cbv) | (rw [hge]; cbv) | (rw [gx]; cbv))
      try cbv
      repeat (first | (with_reducible apply next_at hA; cbv) | (rw [hge]; cbv) | (rw [gx]; cbv))
      try simp (maxSteps := 4000000) only [nc] at *
      refine callo_at hA [] hc ⟨rfl, rfl, rfl, rfl, rfl, rfl, rfl⟩ ?_
      rintro _ _ ⟨rfl, zz, rfl⟩
      cbv
      refine movet_at hA 0 4 rfl rfl rfl ?_
      cbv
      repeat ((with_reducible apply next_at hA); cbv)
      exact keep_is hA [0] (res' := [oT vo vm vn 0]) (os' := [.it (treeP zz 25 vK)]) ⟨rfl, rfl, rfl, rfl, rfl, rfl, rfl, rfl⟩ (by rw [hQ, hT, hvs]; exact ⟨rfl, _, rfl⟩)
theorem put_nil (l : List (Int × Ty)) (op : Int) (nm : ByteArray) (n : Int) (hop : ¬ (op = 7 ∨ op = 10)) : putSpec l (.mk op nm n []) := by
  intro z
  show SpecO 52 [oT (.int .u8 op) (.string nm) (.int .i64 n) 0, .d (.sl 5 (rB l))] [.it (treeP z 25 [])] _
  rw [putP, if_neg hop, putP.putPs]
  show SpecO _ _ _ (ownR (.int .u8 op) (.string nm) (.int .i64 n) [])
  obtain ⟨B, hB⟩ : ∃ B, B = rB l := ⟨_, rfl⟩
  rw [← hB]
  have h7' : ¬ op = 7 := fun h => hop (.inl h)
  have h10' : ¬ op = 10 := fun h => hop (.inr h)
  refine speco_of Try.func52 rfl (by kernel_rfl) (by kernel_rfl) (by kernel_rfl) fun qa qb qc qd qe qf qg qh qi qj qk ql qm qo qp qq qs qt qu qv qw qx qy qz va vc vd ve vf vg vh vj vk vl vp vq vr vt vu hA => ?_
  cbv
  obtain ⟨e1, e2, e3, e4, e5, e6, e7, e8, e9⟩ := ar_at hA
  have h7 : qj op 7 = false := by rw [e9]; simpa using h7'
  have h10 : qj op 10 = false := by rw [e9]; simpa using h10'
  repeat ((with_reducible apply next_at hA); cbv)
  rw [h7]
  cbv
  rw [h10]
  cbv
  refine emt_at hA 0 rfl ?_
  cbv
  repeat ((with_reducible apply next_at hA); cbv)
  have hlt : qh 0 0 = false := e7 _ _
  refine loop_at hA (γ := Unit) (fun x => [(35, vi .i64 0)]) (fun x => []) (fun x => True) (fun x => 0) () trivial ?_ ?_
  · cbv
  · intro _ _
    cbv
    repeat ((with_reducible apply next_at hA); cbv)
    rw [hlt]
    cbv
    refine cellt_at hA 1 3 0 rfl rfl rfl ?_
    cbv
    repeat ((with_reducible apply next_at hA); cbv)
    exact keep_is hA [0] (res' := [oT (.int .u8 op) (.string nm) (.int .i64 n) 0]) (os' := [.it (treeP z 25 [])]) ⟨rfl, rfl, rfl, rfl, rfl, rfl, rfl, rfl⟩ ⟨rfl, _, rfl⟩
theorem put_one (l : List (Int × Ty)) (op : Int) (nm : ByteArray) (n : Int) (x : Ty) (hop : ¬ (op = 7 ∨ op = 10)) (hx : putSpec l x) : putSpec l (.mk op nm n [x]) := by
  intro z
  show SpecO 52 [oT (.int .u8 op) (.string nm) (.int .i64 n) 0, .d (.sl 5 (rB l))] [.it (treeP z 25 (rT [x]))] _
  rw [putP, if_neg hop, putP.putPs, putP.putPs]
  show SpecO _ _ _ (ownR (.int .u8 op) (.string nm) (.int .i64 n) (rT [putP l x]))
  have hsp := hx false
  have hct : ∀ y : Ty, rT [y] = [[.sc (.int .u8 y.op), .sc (.string y.name), .sc (.int .i64 y.n), .sl 4 (rT y.kids)]] := fun y => by cases y; rw [rT, cT, rT]; rfl
  rw [hct, hct]
  replace hsp : SpecO 52 _ _ (ownR (.int .u8 (putP l x).op) (.string (putP l x).name) (.int .i64 (putP l x).n) (rT (putP l x).kids)) := hsp
  generalize rT (putP l x).kids = K2 at *
  generalize (putP l x).op = o2 at *
  generalize (putP l x).name = m2 at *
  generalize (putP l x).n = n2 at *
  generalize rT x.kids = K1 at *
  generalize x.op = o1 at *
  generalize x.name = m1 at *
  generalize x.n = n1 at *
  obtain ⟨B, hB⟩ : ∃ B, B = rB l := ⟨_, rfl⟩
  rw [← hB] at hsp ⊢
  have h7' : ¬ op = 7 := fun h => hop (.inl h)
  have h10' : ¬ op = 10 := fun h => hop (.inr h)
  refine speco_of Try.func52 rfl (by kernel_rfl) (by kernel_rfl) (by kernel_rfl) fun qa qb qc qd qe qf qg qh qi qj qk ql qm qo qp qq qs qt qu qv qw qx qy qz va vc vd ve vf vg vh vj vk vl vp vq vr vt vu hA => ?_
  cbv
  obtain ⟨e1, e2, e3, e4, e5, e6, e7, e8, e9⟩ := ar_at hA
  have h7 : qj op 7 = false := by rw [e9]; simpa using h7'
  have h10 : qj op 10 = false := by rw [e9]; simpa using h10'
  have hnat := (map_at hA).2.2.1
  repeat ((with_reducible apply next_at hA); cbv)
  rw [h7]
  cbv
  rw [h10]
  cbv
  refine open_at hA 0 rfl (by simp) ?_
  cbv
  repeat ((with_reducible apply next_at hA); cbv)
  have hlt0 : qh 0 (Int.ofNat 1) = true := e7 _ _
  have hlt1 : qh 1 (Int.ofNat 1) = false := e7 _ _
  have hn0 : qv 0 1 = some 0 := hnat _ _
  have hz1 : qa .i64 (qb 0 1) = 1 := by rw [e1, e2]; rfl
  refine loop_at hA (γ := Bool) (fun b => match b with | false => [(35, vi .i64 0)] | true => [(35, vi .i64 1), (43, .jk), (45, .jk)]) (fun b => match b with | false => [] | true => [(3, .box [.d (.sc (.int .u8 o2)), .d (.sc (.string m2)), .d (.sc (.int .i64 n2)), .own 4]), (4, .it (treeP false 25 K2))]) (fun _ => True) (fun b => match b with | false => 1 | true => 0) false trivial ?_ ?_
  · cbv
  · intro b _
    cases b with
    | false =>
      cbv
      repeat ((with_reducible apply next_at hA); cbv)
      rw [hlt0]
      cbv
      repeat (first | (with_reducible apply next_at hA; cbv) | (rw [hn0]; cbv))
      try cbv
      repeat (first | (with_reducible apply next_at hA; cbv) | (rw [hn0]; cbv))
      try simp (maxSteps := 4000000) only [nc] at *
      refine reg_at hA [3, 4] (by kernel_rfl) ?_
      cbv
      repeat' (first
        | (with_reducible apply And.intro)
        | (rw [hn0]; cbv)
        | (refine callo_at hA [4] hsp ⟨rfl, rfl, rfl, rfl, rfl, rfl, rfl⟩ ?_; rintro _ _ ⟨rfl, zz, rfl⟩; cbv)
        | (refine weakt_at hA 4 (z := zz) (rows := K2) rfl ?_; cbv))
      all_goals repeat ((with_reducible apply next_at hA); cbv)
      all_goals (rw [hz1]; refine ⟨true, trivial, Nat.zero_lt_one, ?_⟩; cbv)
    | true =>
      cbv
      repeat ((with_reducible apply next_at hA); cbv)
      rw [hlt1]
      cbv
      refine close_at hA 1 3 3 0 (n := 0) (e := 25) [.sc (.int .u8 o2), .sc (.string m2), .sc (.int .i64 n2), .sl 4 K2] [4] [[.sc (.int .u8 o2), .sc (.string m2), .sc (.int .i64 n2), .sl 4 K2]] rfl rfl rfl rfl rfl rfl ⟨rfl, rfl, rfl, rfl, rfl, ⟨_, rfl⟩, trivial⟩ rfl rfl ?_
      cbv
      repeat ((with_reducible apply next_at hA); cbv)
      exact keep_is hA [0] (res' := [oT (.int .u8 op) (.string nm) (.int .i64 n) 0]) (os' := [.it (treeP false 25 [[.sc (.int .u8 o2), .sc (.string m2), .sc (.int .i64 n2), .sl 4 K2]])]) ⟨rfl, rfl, rfl, rfl, rfl, rfl, rfl, rfl⟩ ⟨rfl, _, rfl⟩
theorem put_two (l : List (Int × Ty)) (op : Int) (nm : ByteArray) (n : Int) (x y : Ty) (hop : ¬ (op = 7 ∨ op = 10)) (hx : putSpec l x) (hy : putSpec l y) : putSpec l (.mk op nm n [x, y]) := by
  intro z
  show SpecO 52 [oT (.int .u8 op) (.string nm) (.int .i64 n) 0, .d (.sl 5 (rB l))] [.it (treeP z 25 (rT [x, y]))] _
  rw [putP, if_neg hop, putP.putPs, putP.putPs, putP.putPs]
  show SpecO _ _ _ (ownR (.int .u8 op) (.string nm) (.int .i64 n) (rT [putP l x, putP l y]))
  have hsp := hx false
  have hsq := hy false
  have hct : ∀ y z : Ty, rT [y, z] = [[.sc (.int .u8 y.op), .sc (.string y.name), .sc (.int .i64 y.n), .sl 4 (rT y.kids)], [.sc (.int .u8 z.op), .sc (.string z.name), .sc (.int .i64 z.n), .sl 4 (rT z.kids)]] := fun y z => by cases y; cases z; rw [rT, cT, rT, cT, rT]; rfl
  rw [hct, hct]
  replace hsp : SpecO 52 _ _ (ownR (.int .u8 (putP l x).op) (.string (putP l x).name) (.int .i64 (putP l x).n) (rT (putP l x).kids)) := hsp
  generalize rT (putP l x).kids = K2 at *
  generalize (putP l x).op = o2 at *
  generalize (putP l x).name = m2 at *
  generalize (putP l x).n = n2 at *
  generalize rT x.kids = K1 at *
  generalize x.op = o1 at *
  generalize x.name = m1 at *
  generalize x.n = n1 at *
  replace hsq : SpecO 52 _ _ (ownR (.int .u8 (putP l y).op) (.string (putP l y).name) (.int .i64 (putP l y).n) (rT (putP l y).kids)) := hsq
  generalize rT (putP l y).kids = P2 at *
  generalize (putP l y).op = o4 at *
  generalize (putP l y).name = m4 at *
  generalize (putP l y).n = n4 at *
  generalize rT y.kids = P1 at *
  generalize y.op = o3 at *
  generalize y.name = m3 at *
  generalize y.n = n3 at *
  obtain ⟨B, hB⟩ : ∃ B, B = rB l := ⟨_, rfl⟩
  rw [← hB] at hsp hsq ⊢
  have h7' : ¬ op = 7 := fun h => hop (.inl h)
  have h10' : ¬ op = 10 := fun h => hop (.inr h)
  refine speco_of Try.func52 rfl (by kernel_rfl) (by kernel_rfl) (by kernel_rfl) fun qa qb qc qd qe qf qg qh qi qj qk ql qm qo qp qq qs qt qu qv qw qx qy qz va vc vd ve vf vg vh vj vk vl vp vq vr vt vu hA => ?_
  cbv
  obtain ⟨e1, e2, e3, e4, e5, e6, e7, e8, e9⟩ := ar_at hA
  have h7 : qj op 7 = false := by rw [e9]; simpa using h7'
  have h10 : qj op 10 = false := by rw [e9]; simpa using h10'
  have hnat := (map_at hA).2.2.1
  repeat ((with_reducible apply next_at hA); cbv)
  rw [h7]
  cbv
  rw [h10]
  cbv
  refine open_at hA 0 rfl (by simp) ?_
  cbv
  repeat ((with_reducible apply next_at hA); cbv)
  have hlt0 : qh 0 (Int.ofNat 2) = true := e7 _ _
  have hlt1 : qh 1 (Int.ofNat 2) = true := e7 _ _
  have hlt2 : qh 2 (Int.ofNat 2) = false := e7 _ _
  have hn0 : qv 0 2 = some 0 := hnat _ _
  have hn1 : qv 1 2 = some 1 := hnat _ _
  have hz1 : qa .i64 (qb 0 1) = 1 := by rw [e1, e2]; rfl
  have hz2 : qa .i64 (qb 1 1) = 2 := by rw [e1, e2]; rfl
  refine loop_at hA (γ := Option Bool) (fun b => match b with | none => [(35, vi .i64 0)] | some false => [(35, vi .i64 1), (43, .jk), (45, .jk)] | some true => [(35, vi .i64 2), (43, .jk), (45, .jk)])
    (fun b => match b with
      | none => []
      | some false => [(3, .box [.d (.sc (.int .u8 o2)), .d (.sc (.string m2)), .d (.sc (.int .i64 n2)), .own 4, .d (.sc (.int .u8 o3)), .d (.sc (.string m3)), .d (.sc (.int .i64 n3)), .own 5]), (4, .it (treeP false 25 K2))]
      | some true => [(3, .box [.d (.sc (.int .u8 o2)), .d (.sc (.string m2)), .d (.sc (.int .i64 n2)), .own 4, .d (.sc (.int .u8 o4)), .d (.sc (.string m4)), .d (.sc (.int .i64 n4)), .own 5]), (4, .it (treeP false 25 K2)), (5, .it (treeP false 25 P2))]) (fun _ => True) (fun b => match b with | none => 2 | some false => 1 | some true => 0) none trivial ?_ ?_
  · cbv
  · intro b _
    rcases b with _ | (_ | _)
    · cbv
      repeat ((with_reducible apply next_at hA); cbv)
      rw [hlt0]
      cbv
      repeat (first | (with_reducible apply next_at hA; cbv) | (rw [hn0]; cbv))
      try cbv
      repeat (first | (with_reducible apply next_at hA; cbv) | (rw [hn0]; cbv))
      try simp (maxSteps := 4000000) only [nc] at *
      refine reg_at hA [3, 4] (by kernel_rfl) ?_
      cbv
      repeat' (first
        | (with_reducible apply And.intro)
        | (rw [hn0]; cbv)
        | (refine callo_at hA [4] hsp ⟨rfl, rfl, rfl, rfl, rfl, rfl, rfl⟩ ?_; rintro _ _ ⟨rfl, zz, rfl⟩; cbv)
        | (refine weakt_at hA 4 (z := zz) (rows := K2) rfl ?_; cbv))
      all_goals repeat ((with_reducible apply next_at hA); cbv)
      all_goals (rw [hz1]; refine ⟨some false, trivial, Nat.one_lt_two, ?_⟩; cbv)
    · cbv
      repeat ((with_reducible apply next_at hA); cbv)
      rw [hlt1]
      cbv
      repeat (first | (with_reducible apply next_at hA; cbv) | (rw [hn1]; cbv))
      try cbv
      repeat (first | (with_reducible apply next_at hA; cbv) | (rw [hn1]; cbv))
      try simp (maxSteps := 4000000) only [nc] at *
      refine reg_at hA [3, 4] (by kernel_rfl) ?_
      cbv
      repeat' (first
        | (with_reducible apply And.intro)
        | (rw [hn1]; cbv)
        | (refine callo_at hA [5] hsq ⟨rfl, rfl, rfl, rfl, rfl, rfl, rfl⟩ ?_; rintro _ _ ⟨rfl, zz, rfl⟩; cbv)
        | (refine weakt_at hA 5 (z := zz) (rows := P2) rfl ?_; cbv))
      all_goals repeat ((with_reducible apply next_at hA); cbv)
      all_goals (rw [hz2]; refine ⟨some true, trivial, Nat.zero_lt_one, ?_⟩; cbv)
    · cbv
      repeat ((with_reducible apply next_at hA); cbv)
      rw [hlt2]
      cbv
      refine close_at hA 1 3 3 0 (n := 1) (e := 25) [.sc (.int .u8 o2), .sc (.string m2), .sc (.int .i64 n2), .sl 4 K2, .sc (.int .u8 o4), .sc (.string m4), .sc (.int .i64 n4), .sl 4 P2] [4, 5] [[.sc (.int .u8 o2), .sc (.string m2), .sc (.int .i64 n2), .sl 4 K2], [.sc (.int .u8 o4), .sc (.string m4), .sc (.int .i64 n4), .sl 4 P2]] rfl rfl rfl rfl rfl rfl ⟨rfl, rfl, rfl, rfl, rfl, ⟨_, rfl⟩, rfl, rfl, rfl, rfl, rfl, ⟨_, rfl⟩, trivial⟩ rfl rfl ?_
      cbv
      repeat ((with_reducible apply next_at hA); cbv)
      exact keep_is hA [0] (res' := [oT (.int .u8 op) (.string nm) (.int .i64 n) 0]) (os' := [.it (treeP false 25 [[.sc (.int .u8 o2), .sc (.string m2), .sc (.int .i64 n2), .sl 4 K2], [.sc (.int .u8 o4), .sc (.string m4), .sc (.int .i64 n4), .sl 4 P2]])]) ⟨rfl, rfl, rfl, rfl, rfl, rfl, rfl, rfl⟩ ⟨rfl, _, rfl⟩
theorem put_s (l : List (Int × Ty)) (hl : l.length ≤ 1048576) (hlp : ∀ p ∈ l, Sm p.2) : ∀ t : Ty, Thin t → putSpec l t := by
  intro t
  induction t using Ty.ind with
  | h t ih =>
    intro ht
    obtain ⟨op, nm, n, ks⟩ := t
    have hk : ∀ x ∈ ks, putSpec l x := fun x hx => ih x hx fun y hy => ht y (by rw [parts_kids]; exact List.mem_cons_of_mem _ (List.mem_flatMap.2 ⟨x, hx, hy⟩))
    by_cases hop : op = 7 ∨ op = 10
    · exact put_var l hl hlp op nm n ks hop
    · have h2 := ht _ (by rw [parts_eq]; exact List.mem_cons_self ..)
      match ks, hk, h2 with
      | [], _, _ => exact put_nil l op nm n hop
      | [x], hk, _ => exact put_one l op nm n x hop (hk x (List.mem_cons_self ..))
      | [x, y], hk, _ => exact put_two l op nm n x y hop (hk x (List.mem_cons_self ..)) (hk y (List.mem_cons_of_mem _ (List.mem_cons_self ..)))
      | x :: y :: z :: ks, _, h2 => simp [Ty.kids] at h2
end Go.Proofs.Ytclehkgnacekkaa.Vm
end

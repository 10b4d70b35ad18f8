/- Part 17 of the proof: VAp6. Conditions: none. -/
import Derived.Test.YtclehkgnacekkaaB14
import Derived.Test.YtclehkgnacekkaaB16
set_option linter.all false
set_option linter.unusedVariables false
set_option linter.unusedSimpArgs false
section
namespace Go.Proofs.Ytclehkgnacekkaa.Vm
open Go.RowKit
set_option maxRecDepth 100000
set_option maxHeartbeats 4000000
def sR (op nm n : Value) (K : List (List D)) (res : List V) (os : List O) : Prop := res = [.ag [.d (.sc op), .d (.sc nm), .d (.sc n), .d (.sl 4 K)]] ∧ os = [.dead]
def sRT (t : Ty) : List V → List O → Prop := sR (.int .u8 (canonS t).op) (.string (canonS t).name) (.int .i64 (canonS t).n) (rT (canonS t).kids)
def sortSpec (t : Ty) : Prop := ∀ z, SpecO 51 [oT (.int .u8 t.op) (.string t.name) (.int .i64 t.n) 0] [.it (treeP z 25 (rT t.kids))] (sRT t)
theorem sort_nil (op : Int) (nm : ByteArray) (n : Int) (hop : op ≠ 11) : sortSpec (.mk op nm n []) := by
  intro z
  show SpecO 51 [oT (.int .u8 op) (.string nm) (.int .i64 n) 0] [.it (treeP z 25 [])] _
  rw [show sRT (.mk op nm n []) = sR (.int .u8 op) (.string nm) (.int .i64 n) (rT (List.map canonS [])) by unfold sRT; rw [canon_node (t := .mk op nm n []) hop]; rfl]
  show SpecO _ _ _ (sR (.int .u8 op) (.string nm) (.int .i64 n) (rT []))
  refine speco_of Try.func51 rfl (by kernel_rfl) (by kernel_rfl) (by kernel_rfl) fun qa qb qc qd qe qf qg qh qi qj qk ql qm qo qp qq qs qt qu qv qw qx qy qz va vc vd ve vf vg vh vj vk vl vp vq vr vt vu hA => ?_
  cbv
  obtain ⟨e1, e2, e3, e4, e5, e6, e7, e8, e9⟩ := ar_at hA
  have h11 : qj op 11 = false := by rw [e9]; simpa using hop
  with_reducible apply next_at hA
  cbv
  refine melt_at hA 0 rfl ?_
  cbv
  rw [h11]
  cbv
  repeat ((with_reducible apply next_at hA); cbv)
  have hlt : qh 0 (qw []) = false := by rw [(row_at hA).1]; exact e7 _ _
  refine loop_at hA (γ := Unit) (fun x => [(12, vi .i64 0)]) (fun x => []) (fun x => True) (fun x => 0) () trivial ?_ ?_
  · cbv
  · intro _ _
    cbv
    repeat ((with_reducible apply next_at hA); cbv)
    rw [hlt]
    cbv
    repeat ((with_reducible apply next_at hA); cbv)
    exact keep_is hA [0] (res' := [.ag [.d (.sc (.int .u8 op)), .d (.sc (.string nm)), .d (.sc (.int .i64 n)), .d (.sl 4 [])]]) (os' := [.dead]) ⟨rfl, rfl, rfl, rfl, rfl, rfl, rfl, rfl⟩ ⟨rfl, rfl⟩
theorem sort_one (op : Int) (nm : ByteArray) (n : Int) (x : Ty) (hop : op ≠ 11) (hx : sortSpec x) : sortSpec (.mk op nm n [x]) := by
  intro z
  show SpecO 51 [oT (.int .u8 op) (.string nm) (.int .i64 n) 0] [.it (treeP z 25 (rT [x]))] _
  rw [show sRT (.mk op nm n [x]) = sR (.int .u8 op) (.string nm) (.int .i64 n) (rT (List.map canonS [x])) by unfold sRT; rw [canon_node (t := .mk op nm n [x]) hop]; rfl]
  show SpecO _ _ _ (sR (.int .u8 op) (.string nm) (.int .i64 n) (rT [canonS x]))
  have hsp := hx false
  have hct : ∀ y : Ty, rT [y] = [[.sc (.int .u8 y.op), .sc (.string y.name), .sc (.int .i64 y.n), .sl 4 (rT y.kids)]] := fun y => by cases y; rw [rT, cT, rT]; rfl
  rw [hct, hct]
  replace hsp : SpecO 51 _ _ (sR (.int .u8 (canonS x).op) (.string (canonS x).name) (.int .i64 (canonS x).n) (rT (canonS x).kids)) := hsp
  generalize rT (canonS x).kids = K2 at *
  generalize (canonS x).op = o2 at *
  generalize (canonS x).name = m2 at *
  generalize (canonS x).n = n2 at *
  generalize rT x.kids = K1 at *
  generalize x.op = o1 at *
  generalize x.name = m1 at *
  generalize x.n = n1 at *
  refine speco_of Try.func51 rfl (by kernel_rfl) (by kernel_rfl) (by kernel_rfl) fun qa qb qc qd qe qf qg qh qi qj qk ql qm qo qp qq qs qt qu qv qw qx qy qz va vc vd ve vf vg vh vj vk vl vp vq vr vt vu hA => ?_
  cbv
  obtain ⟨e1, e2, e3, e4, e5, e6, e7, e8, e9⟩ := ar_at hA
  have h11 : qj op 11 = false := by rw [e9]; simpa using hop
  have hnat := (map_at hA).2.2.1
  with_reducible apply next_at hA
  cbv
  refine open_at hA 0 rfl (by simp) ?_
  cbv
  rw [h11]
  cbv
  repeat ((with_reducible apply next_at hA); cbv)
  have hlt0 : qh 0 (Int.ofNat 1) = true := e7 _ _
  have hlt1 : qh 1 (Int.ofNat 1) = false := e7 _ _
  have hn0 : qv 0 1 = some 0 := hnat _ _
  have hz1 : qa .i64 (qb 0 1) = 1 := by rw [e1, e2]; rfl
  refine loop_at hA (γ := Bool) (fun b => match b with | false => [(12, vi .i64 0)] | true => [(12, vi .i64 1), (20, .jk), (21, .jk)]) (fun b => match b with | false => [] | true => [(3, .box [.d (.sc (.int .u8 o2)), .d (.sc (.string m2)), .d (.sc (.int .i64 n2)), .d (.sl 4 K2)]), (4, .dead)]) (fun _ => True) (fun b => match b with | false => 1 | true => 0) false trivial ?_ ?_
  · cbv
  · intro b _
    cases b with
    | false =>
      cbv
      repeat ((with_reducible apply next_at hA); cbv)
      rw [hlt0]
      cbv
      repeat (first | (with_reducible apply next_at hA; cbv) | (rw [hn0]; cbv))
      try cbv
      repeat (first | (with_reducible apply next_at hA; cbv) | (rw [hn0]; cbv))
      try simp (maxSteps := 4000000) only [nc] at *
      refine reg_at hA [3] (by kernel_rfl) ?_
      cbv
      repeat' (first
        | (with_reducible apply And.intro)
        | (rw [hn0]; cbv)
        | (refine callo_at hA [4] hsp ⟨rfl, rfl, rfl, rfl, rfl, rfl, rfl⟩ ?_; rintro _ _ ⟨rfl, rfl⟩; cbv))
      all_goals repeat ((with_reducible apply next_at hA); cbv)
      all_goals (rw [hz1]; refine ⟨true, trivial, Nat.zero_lt_one, ?_⟩; cbv)
    | true =>
      cbv
      repeat ((with_reducible apply next_at hA); cbv)
      rw [hlt1]
      cbv
      refine frzbs_at hA 3 1 25 [.sc (.int .u8 o2), .sc (.string m2), .sc (.int .i64 n2), .sl 4 K2] [[.sc (.int .u8 o2), .sc (.string m2), .sc (.int .i64 n2), .sl 4 K2]] rfl rfl rfl ?_
      cbv
      refine drop_is hA 0 ?_
      cbv
      repeat ((with_reducible apply next_at hA); cbv)
      exact keep_is hA [0] (res' := [.ag [.d (.sc (.int .u8 op)), .d (.sc (.string nm)), .d (.sc (.int .i64 n)), .d (.sl 4 [[.sc (.int .u8 o2), .sc (.string m2), .sc (.int .i64 n2), .sl 4 K2]])]]) (os' := [.dead]) ⟨rfl, rfl, rfl, rfl, rfl, rfl, rfl, rfl⟩ ⟨rfl, rfl⟩
theorem sort_two (op : Int) (nm : ByteArray) (n : Int) (x y : Ty) (hop : op ≠ 11) (hx : sortSpec x) (hy : sortSpec y) : sortSpec (.mk op nm n [x, y]) := by
  intro z
  show SpecO 51 [oT (.int .u8 op) (.string nm) (.int .i64 n) 0] [.it (treeP z 25 (rT [x, y]))] _
  rw [show sRT (.mk op nm n [x, y]) = sR (.int .u8 op) (.string nm) (.int .i64 n) (rT (List.map canonS [x, y])) by unfold sRT; rw [canon_node (t := .mk op nm n [x, y]) hop]; rfl]
  show SpecO _ _ _ (sR (.int .u8 op) (.string nm) (.int .i64 n) (rT [canonS x, canonS y]))
  have hsp := hx false
  have hsq := hy false
  have hct : ∀ y z : Ty, rT [y, z] = [[.sc (.int .u8 y.op), .sc (.string y.name), .sc (.int .i64 y.n), .sl 4 (rT y.kids)], [.sc (.int .u8 z.op), .sc (.string z.name), .sc (.int .i64 z.n), .sl 4 (rT z.kids)]] := fun y z => by cases y; cases z; rw [rT, cT, rT, cT, rT]; rfl
  rw [hct, hct]
  replace hsp : SpecO 51 _ _ (sR (.int .u8 (canonS x).op) (.string (canonS x).name) (.int .i64 (canonS x).n) (rT (canonS x).kids)) := hsp
  generalize rT (canonS x).kids = K2 at *
  generalize (canonS x).op = o2 at *
  generalize (canonS x).name = m2 at *
  generalize (canonS x).n = n2 at *
  generalize rT x.kids = K1 at *
  generalize x.op = o1 at *
  generalize x.name = m1 at *
  generalize x.n = n1 at *
  replace hsq : SpecO 51 _ _ (sR (.int .u8 (canonS y).op) (.string (canonS y).name) (.int .i64 (canonS y).n) (rT (canonS y).kids)) := hsq
  generalize rT (canonS y).kids = P2 at *
  generalize (canonS y).op = o4 at *
  generalize (canonS y).name = m4 at *
  generalize (canonS y).n = n4 at *
  generalize rT y.kids = P1 at *
  generalize y.op = o3 at *
  generalize y.name = m3 at *
  generalize y.n = n3 at *
  refine speco_of Try.func51 rfl (by kernel_rfl) (by kernel_rfl) (by kernel_rfl) fun qa qb qc qd qe qf qg qh qi qj qk ql qm qo qp qq qs qt qu qv qw qx qy qz va vc vd ve vf vg vh vj vk vl vp vq vr vt vu hA => ?_
  cbv
  obtain ⟨e1, e2, e3, e4, e5, e6, e7, e8, e9⟩ := ar_at hA
  have h11 : qj op 11 = false := by rw [e9]; simpa using hop
  have hnat := (map_at hA).2.2.1
  with_reducible apply next_at hA
  cbv
  refine open_at hA 0 rfl (by simp) ?_
  cbv
  rw [h11]
  cbv
  repeat ((with_reducible apply next_at hA); cbv)
  have hlt0 : qh 0 (Int.ofNat 2) = true := e7 _ _
  have hlt1 : qh 1 (Int.ofNat 2) = true := e7 _ _
  have hlt2 : qh 2 (Int.ofNat 2) = false := e7 _ _
  have hn0 : qv 0 2 = some 0 := hnat _ _
  have hn1 : qv 1 2 = some 1 := hnat _ _
  have hz1 : qa .i64 (qb 0 1) = 1 := by rw [e1, e2]; rfl
  have hz2 : qa .i64 (qb 1 1) = 2 := by rw [e1, e2]; rfl
  refine loop_at hA (γ := Option Bool) (fun b => match b with | none => [(12, vi .i64 0)] | some false => [(12, vi .i64 1), (20, .jk), (21, .jk)] | some true => [(12, vi .i64 2), (20, .jk), (21, .jk)])
    (fun b => match b with
      | none => []
      | some false => [(3, .box [.d (.sc (.int .u8 o2)), .d (.sc (.string m2)), .d (.sc (.int .i64 n2)), .d (.sl 4 K2), .d (.sc (.int .u8 o3)), .d (.sc (.string m3)), .d (.sc (.int .i64 n3)), .own 5]), (4, .dead)]
      | some true => [(3, .box [.d (.sc (.int .u8 o2)), .d (.sc (.string m2)), .d (.sc (.int .i64 n2)), .d (.sl 4 K2), .d (.sc (.int .u8 o4)), .d (.sc (.string m4)), .d (.sc (.int .i64 n4)), .d (.sl 4 P2)]), (4, .dead), (5, .dead)]) (fun _ => True) (fun b => match b with | none => 2 | some false => 1 | some true => 0) none trivial ?_ ?_
  · cbv
  · intro b _
    rcases b with _ | (_ | _)
    · cbv
      repeat ((with_reducible apply next_at hA); cbv)
      rw [hlt0]
      cbv
      repeat (first | (with_reducible apply next_at hA; cbv) | (rw [hn0]; cbv))
      try cbv
      repeat (first | (with_reducible apply next_at hA; cbv) | (rw [hn0]; cbv))
      try simp (maxSteps := 4000000) only [nc] at *
      refine reg_at hA [3] (by kernel_rfl) ?_
      cbv
      repeat' (first
        | (with_reducible apply And.intro)
        | (rw [hn0]; cbv)
        | (refine callo_at hA [4] hsp ⟨rfl, rfl, rfl, rfl, rfl, rfl, rfl⟩ ?_; rintro _ _ ⟨rfl, rfl⟩; cbv))
      all_goals repeat ((with_reducible apply next_at hA); cbv)
      all_goals (rw [hz1]; refine ⟨some false, trivial, Nat.one_lt_two, ?_⟩; cbv)
    · cbv
      repeat ((with_reducible apply next_at hA); cbv)
      rw [hlt1]
      cbv
      repeat (first | (with_reducible apply next_at hA; cbv) | (rw [hn1]; cbv))
      try cbv
      repeat (first | (with_reducible apply next_at hA; cbv) | (rw [hn1]; cbv))
      try simp (maxSteps := 4000000) only [nc] at *
      refine reg_at hA [3] (by kernel_rfl) ?_
      cbv
      repeat' (first
        | (with_reducible apply And.intro)
        | (rw [hn1]; cbv)
        | (refine callo_at hA [5] hsq ⟨rfl, rfl, rfl, rfl, rfl, rfl, rfl⟩ ?_; rintro _ _ ⟨rfl, rfl⟩; cbv))
      all_goals repeat ((with_reducible apply next_at hA); cbv)
      all_goals (rw [hz2]; refine ⟨some true, trivial, Nat.zero_lt_one, ?_⟩; cbv)
    · cbv
      repeat ((with_reducible apply next_at hA); cbv)
      rw [hlt2]
      cbv
      refine frzbs_at hA 3 2 25 [.sc (.int .u8 o2), .sc (.string m2), .sc (.int .i64 n2), .sl 4 K2, .sc (.int .u8 o4), .sc (.string m4), .sc (.int .i64 n4), .sl 4 P2] [[.sc (.int .u8 o2), .sc (.string m2), .sc (.int .i64 n2), .sl 4 K2], [.sc (.int .u8 o4), .sc (.string m4), .sc (.int .i64 n4), .sl 4 P2]] rfl rfl rfl ?_
      cbv
      refine drop_is hA 0 ?_
      cbv
      repeat ((with_reducible apply next_at hA); cbv)
      exact keep_is hA [0] (res' := [.ag [.d (.sc (.int .u8 op)), .d (.sc (.string nm)), .d (.sc (.int .i64 n)), .d (.sl 4 [[.sc (.int .u8 o2), .sc (.string m2), .sc (.int .i64 n2), .sl 4 K2], [.sc (.int .u8 o4), .sc (.string m4), .sc (.int .i64 n4), .sl 4 P2]])]]) (os' := [.dead]) ⟨rfl, rfl, rfl, rfl, rfl, rfl, rfl, rfl⟩ ⟨rfl, rfl⟩
end Go.Proofs.Ytclehkgnacekkaa.Vm
end

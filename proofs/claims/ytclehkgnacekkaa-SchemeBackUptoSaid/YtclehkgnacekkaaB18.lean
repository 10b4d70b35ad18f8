/- Part 18 of the proof: VAp7. Conditions: none. -/
import Derived.Test.YtclehkgnacekkaaB17
set_option linter.all false
set_option linter.unusedVariables false
set_option linter.unusedSimpArgs false
section
namespace Go.Proofs.Ytclehkgnacekkaa.Vm
open Go.RowKit
set_option maxRecDepth 100000
set_option maxHeartbeats 4000000
theorem cells_of (y : Ty) : cT y = [.sc (.int .u8 y.op), .sc (.string y.name), .sc (.int .i64 y.n), .sl 4 (rT y.kids)] := by cases y; rw [cT]; rfl
theorem sort_row (t : Ty) (hop : t.op = 11) (hs : Spine t) (hN : t.parts.length ≤ 1048576) (ih : ∀ f ∈ fieldsS t, sortSpec f.2 ∧ (canonS f.2).parts.length ≤ 1048576) (htl : (tailS t).parts.length ≤ 1048576) : sortSpec t := by
  have hcr := canon_row hop
  have hso := sorted_s 105 sorted1_c (rF ((fieldsS t).map cfS)) (ok5_rF _) (by rw [rF_len, List.length_map]; have := fieldsS_len _ t (Nat.le_refl _); omega)
  rw [sort_rF] at hso
  have hsm : sortS ltF ((fieldsS t).map cfS) = (sortS ltF (fieldsS t)).map cfS := sortS_map (f := cfS) (fun _ _ => rfl) _
  rw [hsm] at hso
  have hcop : ∀ y : Ty, y.parts.length ≤ 1048576 → Spec 113 [.ag (cT y)] [.ag (cT y)] := copied_s
  have hct := hcop (tailS t) htl
  have hcf : ∀ r ∈ rF ((sortS ltF (fieldsS t)).map cfS), ∃ nm c0 c1 c2 c3, r = [nm, c0, c1, c2, c3] ∧ Spec 113 [.ag [c0, c1, c2, c3]] [.ag [c0, c1, c2, c3]] := fun r hr => by
    obtain ⟨f, hf, rfl⟩ := List.mem_map.1 hr
    obtain ⟨f0, hf0, rfl⟩ := List.mem_map.1 hf
    have h3 := hcop (canonS f0.2) (ih f0 (sortS_mem hf0)).2
    obtain ⟨c0, c1, c2, c3, hcc⟩ := cT_four (canonS f0.2)
    rw [hcc] at h3
    exact ⟨_, c0, c1, c2, c3, by show D.sc _ :: cT (canonS f0.2) = _; rw [hcc], h3⟩
  obtain ⟨q0, q1, q2, q3, hq⟩ := cT_four (tailS t)
  rw [hq] at hct
  have hJ := join_s (rF ((sortS ltF (fieldsS t)).map cfS)) q0 q1 q2 q3 (by rw [rF_len, List.length_map, sortS_len]; have := fieldsS_len _ t (Nat.le_refl _); omega) hct hcf
  have hj := joinD_is (tailS t) ((sortS ltF (fieldsS t)).map cfS)
  rw [hq, show rowS ((sortS ltF (fieldsS t)).map cfS) (tailS t) = canonS t from hcr.symm] at hj
  rw [hj, cells_of] at hJ
  intro z
  show SpecO 51 _ _ (sR (.int .u8 (canonS t).op) (.string (canonS t).name) (.int .i64 (canonS t).n) (rT (canonS t).kids))
  generalize (canonS t).op = yop at *
  generalize (canonS t).name = ynm at *
  generalize (canonS t).n = yn at *
  generalize rT (canonS t).kids = yK at *
  obtain ⟨Q, hQ⟩ : ∃ Q, Q = rF ((sortS ltF (fieldsS t)).map cfS) := ⟨_, rfl⟩
  obtain ⟨M, hM⟩ : ∃ M, M = rF ((fieldsS t).map cfS) := ⟨_, rfl⟩
  rw [← hQ] at hJ
  rw [← hQ, ← hM] at hso
  obtain ⟨op, nm, n, ks⟩ := t
  generalize ht : Ty.mk op nm n ks = t at *
  have e1 : t.op = op := by rw [← ht]; rfl
  have e2 : t.name = nm := by rw [← ht]; rfl
  have e3 : t.n = n := by rw [← ht]; rfl
  have e4 : t.kids = ks := by rw [← ht]; rfl
  rw [e1, e2, e3, e4]
  rw [e1] at hop
  obtain ⟨K0, hK0⟩ : ∃ K, K = rT ks := ⟨_, rfl⟩
  rw [← hK0]
  refine speco_of Try.func51 rfl (by kernel_rfl) (by kernel_rfl) (by kernel_rfl) fun qa qb qc qd qe qf qg qh qi qj qk ql qm qo qp qq qs qt qu qv qw qx qy qz va vc vd ve vf vg vh vj vk vl vp vq vr vt vu hA => ?_
  obtain ⟨e1, e2, e3, e4, e5, e6, e7, e8, e9⟩ := ar_at hA
  obtain ⟨r1, r2, r3, r4⟩ := row_at hA
  have hnat := (map_at hA).2.2.1
  have hn0 : qv 0 2 = some 0 := hnat _ _
  have hn1 : qv 1 2 = some 1 := hnat _ _
  have h11 : qj op 11 = true := by rw [e9]; simpa using hop
  cbv
  repeat ((with_reducible apply next_at hA); cbv)
  rw [h11]
  cbv
  refine weakt_at hA 0 (z := z) (rows := K0) rfl ?_
  cbv
  refine own_at hA 5 86 false rfl ?_
  cbv
  refine loop_at hA (γ := Ty × Int × ByteArray × Int × List (List D) × List (List D)) (fun x => [(0, .jk), (5, .own 3)]) (fun x => [(0, .it (treeP false 25 x.2.2.2.2.1)), (1, .box [.d (.sc (.int .u8 x.2.1)), .d (.sc (.string x.2.2.1)), .d (.sc (.int .i64 x.2.2.2.1)), .own 0]), (3, .row false 86 x.2.2.2.2.2)])
    (fun x => ∃ ks fs, x.1 = .mk x.2.1 x.2.2.1 x.2.2.2.1 ks ∧ x.2.2.2.2.1 = rT ks ∧ Spine x.1 ∧ x.2.2.2.2.2 = rF (fs.map cfS) ∧ fs ++ fieldsS x.1 = fieldsS t ∧ tailS x.1 = tailS t ∧ fs.length + x.1.parts.length ≤ 1048576) (fun x => x.1.parts.length) (t, op, nm, n, K0, []) ?_ ?_ ?_
  · exact ⟨ks, [], ht.symm, hK0, hs, rfl, rfl, rfl, by simpa using hN⟩
  · cbv
  · intro x hinv
    obtain ⟨r, op, nm, n, K, L⟩ := x
    cbv
    repeat ((with_reducible apply next_at hA); cbv)
    try simp (maxSteps := 4000000) only [nc] at *
    obtain ⟨ks, fs, hr, hK, hsr, hL, hfs, htl, hlen⟩ := hinv
    clear h11
    have h11 : qj op 11 = decide (op = 11) := e9 _ _
    by_cases hop : op = 11
    · rw [decide_eq_true hop] at h11
      obtain ⟨a, b, hk, hsb, hfb, htb⟩ := fields_step hsr (by rw [hr]; exact hop)
      have hnmr : r.name = nm := by rw [hr]; rfl
      rw [hnmr] at hfb
      have hks : ks = [a, b] := by rw [← hk, hr]; rfl
      have hbl : b.parts.length < r.parts.length := (kids_le r).2 b (by rw [hk]; simp)
      have hia := (ih (nm, a) (by rw [← hfs, hfb]; simp)).1 false
      have hcf2 := rF_snoc (fs.map cfS) (cfS (nm, a))
      have hmap : (fs ++ [(nm, a)]).map cfS = fs.map cfS ++ [cfS (nm, a)] := by simp
      rw [← hmap] at hcf2
      have hcell : (cfS (nm, a)).2 = canonS a := rfl
      rw [hcell, cells_of] at hcf2
      replace hia : SpecO 51 _ _ (sR (.int .u8 (canonS a).op) (.string (canonS a).name) (.int .i64 (canonS a).n) (rT (canonS a).kids)) := hia
      have hKe : K = [[.sc (.int .u8 a.op), .sc (.string a.name), .sc (.int .i64 a.n), .sl 4 (rT a.kids)], [.sc (.int .u8 b.op), .sc (.string b.name), .sc (.int .i64 b.n), .sl 4 (rT b.kids)]] := by rw [hK, hks, rT, rT, rT, cells_of, cells_of]
      have hbe := b.eta
      have hLl : L.length ≤ 1048576 := by rw [hL, rF_len, List.length_map]; omega
      have hnew : qz L [[.sc (.string nm), .sc (.int .u8 (canonS a).op), .sc (.string (canonS a).name), .sc (.int .i64 (canonS a).n), .sl 4 (rT (canonS a).kids)]] = rF ((fs ++ [(nm, a)]).map cfS) := by rw [r4, hcf2, hL]; rfl
      have hinv2 : fs ++ [(nm, a)] ++ fieldsS b = fieldsS t := by rw [← hfs, hfb]; simp
      have htb2 : tailS b = tailS t := by rw [← htl, htb]
      have hlen2 : (fs ++ [(nm, a)]).length + b.parts.length ≤ 1048576 := by rw [List.length_append]; show fs.length + 1 + b.parts.length ≤ _; omega
      generalize (canonS a).op = vo at *
      generalize (canonS a).name = vm at *
      generalize (canonS a).n = vn at *
      generalize rT (canonS a).kids = vK at *
      generalize hbo : b.op = bo at *
      generalize hbm : b.name = bm at *
      generalize hbn : b.n = bn at *
      generalize hbK : rT b.kids = bK at *
      generalize a.op = ao at *
      generalize a.name = am at *
      generalize a.n = an at *
      generalize rT a.kids = aK at *
      rw [h11, hKe]
      cbv
      refine open_at hA 0 rfl (by simp) ?_
      cbv
      refine reg_at hA [3, 4, 5, 6] (by kernel_rfl) ?_
      cbv
      repeat' (first
        | (with_reducible apply And.intro)
        | (rw [hn0]; cbv)
        | (refine callo_at hA [5] hia ⟨rfl, rfl, rfl, rfl, rfl, rfl, rfl⟩ ?_; rintro _ _ ⟨rfl, rfl⟩; cbv)
        | (refine lit_at hA true ?_; cbv)
        | (refine room_at hA (by simp only [List.length_cons, List.length_nil]; omega) ?_; cbv)
        | (refine movet_at hA 0 6 rfl rfl rfl ?_; cbv))
      all_goals repeat (first | (with_reducible apply next_at hA; cbv) | (rw [hn1]; cbv))
      all_goals refine ⟨(b, bo, bm, bn, bK, qz L [[.sc (.string nm), .sc (.int .u8 vo), .sc (.string vm), .sc (.int .i64 vn), .sl 4 vK]]), ⟨b.kids, fs ++ [(nm, a)], hbe, hbK.symm, hsb, hnew, hinv2, htb2, hlen2⟩, hbl, ?_⟩
      all_goals cbv
    · rw [decide_eq_false hop] at h11
      obtain ⟨hf0, ht0⟩ := fields_end (t := r) (by rw [hr]; exact hop)
      rw [hf0, List.append_nil] at hfs
      have hLM : L = M := by rw [hL, hM, hfs]
      rw [ht0, hr] at htl
      rw [← htl, cT, ← hK] at hq
      rw [h11, hLM]
      cases hq
      cbv
      repeat ((with_reducible apply next_at hA); cbv)
      refine calls_at hA [3] hso ⟨rfl, rfl, rfl, rfl, rfl, rfl, rfl⟩ ?_
      rintro res os2 ⟨rfl, rfl⟩
      cbv
      refine ghost_at hA _ ((Ghost.melt (k := 0) rfl).trans (Ghost.frz _ [3])) ?_
      cbv
      refine call_at hA _ hJ rfl ?_
      cbv
      repeat ((with_reducible apply next_at hA); cbv)
      exact keep_is hA [0] ⟨rfl, rfl, rfl, rfl, rfl, rfl, rfl, rfl⟩ ⟨rfl, rfl⟩
end Go.Proofs.Ytclehkgnacekkaa.Vm
end

/- Part 13 of the proof: VKCanon. Conditions: none. -/
import Derived.Test.YtclehkgnacekkaaM12
set_option linter.all false
set_option linter.unusedVariables false
set_option linter.unusedSimpArgs false
section
namespace Go.Proofs.Ytclehkgnacekkaa.Vm
open Go.RowKit
set_option maxRecDepth 100000
set_option maxHeartbeats 4000000
theorem joinD_is (tl : Ty) : ∀ fs : List (ByteArray × Ty), joinD (rF fs) (cT tl) = cT (rowS fs tl)
  | [] => rfl
  | f :: fs => by
    rw [rowS_op_ne, cT]
    have ih := joinD_is tl fs
    show joinD ((.sc (.string f.1) :: cT f.2) :: rF fs) (cT tl) = _
    rw [joinD, ih]
    rfl
theorem canonP_s : ∀ (m : Nat) (t : Ty), t.parts.length ≤ m → m ≤ 1048576 → (∀ x ∈ t.parts, Spine x) → Spec 97 [.ag (cT t)] [.ag (cT (canonS t))] := by
  intro m
  induction m with
  | zero => intro t h; have := parts_pos t; omega
  | succ m ih =>
    intro t hm hm2 hsp
    have hself : t ∈ t.parts := by rw [parts_eq]; exact List.mem_cons_self ..
    have hkl := kids_le t
    obtain ⟨op, nm, n, ks⟩ := t
    generalize ht : Ty.mk op nm n ks = t at *
    have hc : cT t = [.sc (.int .u8 op), .sc (.string nm), .sc (.int .i64 n), .sl 4 (rT ks)] := by rw [← ht, cT]
    have hks : t.kids = ks := by rw [← ht]; rfl
    rw [hks] at hkl
    by_cases hop : op = 11
    · have hF := flat_s t (hsp t hself) (by omega)
      have hcr := canon_row (t := t) (by rw [← ht]; exact hop)
      have hfs : ∀ f ∈ sortS ltF (fieldsS t), f.2.parts.length ≤ m ∧ SpineAll f.2 := fun f hf => by
        have h1 := sortS_mem hf
        have h2 := fields_less _ t (Nat.le_refl _) f h1
        have h3 := fields_mem _ t (Nat.le_refl _) f h1
        exact ⟨by omega, fun x hx => hsp x (parts_trans hx h3)⟩
      have hih : ∀ f ∈ sortS ltF (fieldsS t), Spec 97 [.ag (cT f.2)] [.ag (cT (canonS f.2))] := fun f hf => ih f.2 (hfs f hf).1 (by omega) (hfs f hf).2
      have hlen : (sortS ltF (fieldsS t)).length ≤ 1048576 := by
        rw [sortS_len]
        have := fieldsS_len _ t (Nat.le_refl _)
        omega
      have htl : (tailS t).parts.length ≤ 1048576 := by
        have h1 := spine_parts _ t (Nat.le_refl _) (hsp t hself)
        omega
      rw [hc] at hF ⊢
      obtain ⟨K0, hK0⟩ : ∃ K, K = rT ks := ⟨_, rfl⟩
      rw [← hK0] at hF ⊢
      generalize sortS ltF (fieldsS t) = L at *
      have hj := joinD_is (tailS t) (L.map cfS)
      rw [show rowS (L.map cfS) (tailS t) = canonS t from hcr.symm] at hj
      have hct := copied_s (tailS t) htl
      have hcf : ∀ r ∈ rF (L.map cfS), ∃ nm c0 c1 c2 c3, r = [nm, c0, c1, c2, c3] ∧ Spec 113 [.ag [c0, c1, c2, c3]] [.ag [c0, c1, c2, c3]] := fun r hr => by
        obtain ⟨f, hf, rfl⟩ := List.mem_map.1 hr
        obtain ⟨f0, hf0, rfl⟩ := List.mem_map.1 hf
        have h1 := hfs f0 hf0
        have h2 := canon_len _ f0.2 (Nat.le_refl _) h1.2
        have h3 := copied_s (canonS f0.2) (by omega)
        obtain ⟨c0, c1, c2, c3, hcc⟩ := cT_four (canonS f0.2)
        rw [hcc] at h3
        exact ⟨_, c0, c1, c2, c3, by show D.sc _ :: cT (canonS f0.2) = _; rw [hcc], h3⟩
      obtain ⟨y0, y1, y2, y3, hy⟩ := cT_four (canonS t)
      obtain ⟨q0, q1, q2, q3, hq⟩ := cT_four (tailS t)
      rw [hq] at hF hct hj
      rw [hy] at hj ⊢
      have hJ := join_s (rF (L.map cfS)) q0 q1 q2 q3 (by rw [rF_len, List.length_map]; omega) hct hcf
      rw [hj] at hJ
      obtain ⟨M0, hM0⟩ : ∃ M, M = rF L := ⟨_, rfl⟩
      rw [← hM0] at hF
      refine spec_of Try.func97 rfl (by kernel_rfl) (by kernel_rfl) (by kernel_rfl) fun qa qb qc qd qe qf qg qh qi qj qk ql qm qo qp qs qt qu qv qx qy qz va vc vd ve vf vg vh vj vk vl vm vn vo vp vq vr vt hA => ?_
      cbv
      repeat ((with_reducible apply next_at hA); cbv)
      have h11 : qj op 11 = decide (op = 11) := by have e := ar_at hA; exact e.2.2.2.2.2.2.2.2 _ _
      rw [decide_eq_true hop] at h11
      rw [h11]
      cbv
      repeat ((with_reducible apply next_at hA); cbv)
      refine callo_at hA [] hF ⟨rfl, rfl, rfl, rfl, rfl, rfl, rfl⟩ ?_
      rintro res os2 ⟨rfl, rfl⟩
      cbv
      repeat ((with_reducible apply next_at hA); cbv)
      obtain ⟨e1, e2, e3, e4, e5, e6, e7, e8, e9⟩ := ar_at hA
      obtain ⟨r1, r2, r3, r4⟩ := row_at hA
      obtain ⟨m1, m2, m3, m4⟩ := map_at hA
      refine loop_at hA (γ := Int × List (List D)) (fun x => [(19, vi .i64 x.1), (12, .jk), (14, .jk)]) (fun x => [(2, .row false 86 x.2)]) (fun x => ∃ k : Nat, x.1 = (k : Int) ∧ k ≤ L.length ∧ x.2 = rF ((L.take k).map cfS ++ L.drop k)) (fun x => L.length - x.1.toNat) (0, M0) ?_ ?_ ?_
      · exact ⟨0, rfl, Nat.zero_le _, hM0⟩
      · cbv
      · intro x hinv
        obtain ⟨z, M⟩ := x
        cbv
        repeat ((with_reducible apply next_at hA); cbv)
        try simp (maxSteps := 4000000) only [nc] at *
        obtain ⟨k, hz, hk, hM⟩ := hinv
        have hll : qy M0 = ((L.length : Nat) : Int) := by rw [r1, hM0, rF_len]
        have hlt : qh z (qy M0) = decide (k < L.length) := by rw [e7, hll, hz]; exact decide_eq_decide.2 (by omega)
        by_cases h9 : k < L.length
        · rw [decide_eq_true h9] at hlt
          obtain ⟨x, hx⟩ : ∃ x, L[k]? = some x := ⟨_, List.getElem?_eq_getElem h9⟩
          have hspx := hih x (List.mem_of_getElem? hx)
          have hxe : ((L.take k).map cfS ++ L.drop k)[k]? = some x := by
            rw [List.getElem?_append_right (by simp; omega)]
            simp
            rw [Nat.min_eq_left (by omega), Nat.sub_self, Nat.add_zero]
            exact hx
          have hset : ((L.take k).map cfS ++ L.drop k).set k (cfS x) = (L.take (k + 1)).map cfS ++ L.drop (k + 1) := by
            obtain ⟨hi, e⟩ := List.getElem?_eq_some_iff.1 hx
            have e0 : k - ((L.take k).map cfS).length = 0 := by rw [List.length_map, List.length_take]; omega
            rw [List.set_append_right _ _ (by rw [List.length_map, List.length_take]; omega), List.take_add_one, hx, List.map_append, List.append_assoc, List.drop_eq_getElem_cons hi, e0]
            rfl
          obtain ⟨xn, xt⟩ := x
          obtain ⟨x0, x1, x2, x3, hxx⟩ := cT_four xt
          obtain ⟨v0, v1, v2, v3, hvv⟩ := cT_four (canonS xt)
          simp only at hspx
          rw [hxx, hvv] at hspx
          have gx : qz M z = some [.sc (.string xn), x0, x1, x2, x3] := by rw [r2, hz, if_pos (by omega), hM, show ((k : Int)).toNat = k by omega, rF_get hxe, hxx]
          have hz1 : qa .i64 (qb z 1) = ((k + 1 : Nat) : Int) := by rw [e1, e2, hz, IntWalk.i64_in _ (by omega)]; omega
          have hmu : L.length - (qa .i64 (qb z 1)).toNat < L.length - z.toNat := by rw [hz1, hz]; omega
          have hnew : vd M z [.sc (.string xn), v0, v1, v2, v3] = rF ((L.take (k + 1)).map cfS ++ L.drop (k + 1)) := by
            rw [m4, ← hset, hM, hz, show ((k : Int)).toNat = k by omega]
            unfold rF
            rw [List.map_set]
            show _ = List.set _ k (.sc (.string xn) :: cT (canonS xt))
            rw [hvv]
          rw [hlt]
          cbv
          repeat (first | (with_reducible apply next_at hA; cbv) | (rw [gx]; cbv) | (refine call_at hA _ hspx rfl ?_; cbv))
          try cbv
          repeat (first | (with_reducible apply next_at hA; cbv) | (rw [gx]; cbv) | (refine call_at hA _ hspx rfl ?_; cbv))
          try simp (maxSteps := 4000000) only [nc] at *
          refine ⟨(qa .i64 (qb z 1), vd M z [.sc (.string xn), v0, v1, v2, v3]), ⟨k + 1, hz1, h9, hnew⟩, hmu, ?_⟩
          cbv
        · rw [decide_eq_false h9] at hlt
          have hM2 : M = rF (L.map cfS) := by rw [hM, List.take_of_length_le (by omega), List.drop_of_length_le (by omega), List.append_nil]
          rw [← hM2] at hJ
          rw [hlt]
          cbv
          refine frz_at hA [2] ?_
          cbv
          repeat (first | (with_reducible apply next_at hA; cbv) | (refine call_at hA _ hJ rfl ?_; cbv))
    · have hcn := canon_node (t := t) (by rw [← ht]; exact hop)
      rw [hks, show t.op = op by rw [← ht]; rfl, show t.name = nm by rw [← ht]; rfl, show t.n = n by rw [← ht]; rfl] at hcn
      have hih : ∀ x ∈ ks, Spec 97 [.ag (cT x)] [.ag (cT (canonS x))] := fun x hx => by
        have h2 := hkl.2 x hx
        exact ih x (by omega) (by omega) fun y hy => hsp y (by rw [parts_kids, hks]; exact List.mem_cons_of_mem _ (List.mem_flatMap.2 ⟨x, hx, hy⟩))
      rw [hcn, cT, hc]
      obtain ⟨K, hK⟩ : ∃ K, K = rT ks := ⟨_, rfl⟩
      obtain ⟨Q, hQ⟩ : ∃ Q, Q = rT (ks.map canonS) := ⟨_, rfl⟩
      rw [← hK, ← hQ]
      refine spec_of Try.func97 rfl (by kernel_rfl) (by kernel_rfl) (by kernel_rfl) fun qa qb qc qd qe qf qg qh qi qj qk ql qm qo qp qs qt qu qv qx qy qz va vc vd ve vf vg vh vj vk vl vm vn vo vp vq vr vt hA => ?_
      cbv
      repeat ((with_reducible apply next_at hA); cbv)
      obtain ⟨e1, e2, e3, e4, e5, e6, e7, e8, e9⟩ := ar_at hA
      obtain ⟨r1, r2, r3, r4⟩ := row_at hA
      have h11 : qj op 11 = decide (op = 11) := e9 _ _
      rw [decide_eq_false hop] at h11
      rw [h11]
      cbv
      repeat (first | (refine own_at hA 6 25 true rfl ?_; cbv) | (with_reducible apply next_at hA; cbv))
      refine loop_at hA (γ := Int × List (List D)) (fun x => [(39, vi .i64 x.1), (6, .own 2)]) (fun x => [(2, .row true 25 x.2)]) (fun x => ∃ k : Nat, x.1 = (k : Int) ∧ k ≤ ks.length ∧ x.2 = rT ((ks.map canonS).take k)) (fun x => ks.length - x.1.toNat) (0, []) ?_ ?_ ?_
      · exact ⟨0, rfl, Nat.zero_le _, rfl⟩
      · cbv
      · intro x hinv
        obtain ⟨z, M⟩ := x
        cbv
        repeat ((with_reducible apply next_at hA); cbv)
        try simp (maxSteps := 4000000) only [nc] at *
        obtain ⟨k, hz, hk, hM⟩ := hinv
        have hll : qy K = ((ks.length : Nat) : Int) := by rw [r1, hK, rT_len]
        have hlt : qh z (qy K) = decide (k < ks.length) := by rw [e7, hll, hz]; exact decide_eq_decide.2 (by omega)
        by_cases h9 : k < ks.length
        · rw [decide_eq_true h9] at hlt
          obtain ⟨x, hx⟩ : ∃ x, ks[k]? = some x := ⟨_, List.getElem?_eq_getElem h9⟩
          have hspx := hih x (List.mem_of_getElem? hx)
          have hx2 : (ks.map canonS)[k]? = some (canonS x) := by rw [List.getElem?_map, hx]; rfl
          have hsn := rT_snoc hx2
          obtain ⟨x0, x1, x2, x3, hxx⟩ := cT_four x
          obtain ⟨v0, v1, v2, v3, hvv⟩ := cT_four (canonS x)
          rw [hxx, hvv] at hspx
          rw [hvv] at hsn
          have gx : qz K z = some [x0, x1, x2, x3] := by rw [r2, hz, if_pos (by omega), hK, show ((k : Int)).toNat = k by omega, rT_get hx, hxx]
          have hz1 : qa .i64 (qb z 1) = ((k + 1 : Nat) : Int) := by rw [e1, e2, hz, IntWalk.i64_in _ (by omega)]; omega
          have hmu : ks.length - (qa .i64 (qb z 1)).toNat < ks.length - z.toNat := by rw [hz1, hz]; omega
          have hnew : vc M [[v0, v1, v2, v3]] = rT ((ks.map canonS).take (k + 1)) := by rw [r4, hsn, hM]
          have hMl : M.length ≤ 1048576 := by rw [hM, rT_len, List.length_take]; omega
          rw [hlt]
          cbv
          repeat (first | (with_reducible apply next_at hA; cbv) | (rw [gx]; cbv) | (refine calm_at hA _ hspx ?_; cbv) | (refine call_at hA _ hspx rfl ?_; cbv) | (refine lit_at hA true ?_; cbv) | (refine room_at hA (by simp only [r4, List.length_append, List.length_cons, List.length_nil]; omega) ?_; cbv))
          try cbv
          repeat (first | (with_reducible apply next_at hA; cbv) | (rw [gx]; cbv) | (refine calm_at hA _ hspx ?_; cbv) | (refine call_at hA _ hspx rfl ?_; cbv) | (refine lit_at hA true ?_; cbv) | (refine room_at hA (by simp only [r4, List.length_append, List.length_cons, List.length_nil]; omega) ?_; cbv))
          try simp (maxSteps := 4000000) only [nc] at *
          refine ⟨(qa .i64 (qb z 1), vc M [[v0, v1, v2, v3]]), ⟨k + 1, hz1, h9, hnew⟩, hmu, ?_⟩
          cbv
        · rw [decide_eq_false h9] at hlt
          have hM2 : M = Q := by rw [hM, hQ, List.take_of_length_le (by rw [List.length_map]; omega)]
          rw [hlt]
          cbv
          repeat ((with_reducible apply next_at hA); cbv)
          exact ⟨by rw [hM2], trivial⟩
end Go.Proofs.Ytclehkgnacekkaa.Vm
end

/- Part 12 of the proof: ShCmp, VCmp, VROf, VCopied, VRCanon, VSchLaw, VSchLaw2, VFlat, VFor, VBack, VRange, VKJoin, VKJoin2. Conditions: none. -/
import Derived.Test.YtclehkgnacekkaaM3
import Derived.Test.YtclehkgnacekkaaM4
import Derived.Test.YtclehkgnacekkaaM8
import Derived.Test.YtclehkgnacekkaaM11
import Derived.Shelf.Small.Strs
import Derived.Test.YtclehkgnacekkaaProg
import Derived.IntWalk
import Derived.RangeFuncNested
import Derived.RangeFuncBound
import Derived.RangeFuncCalls
import Derived.RangeFuncLeaves
import Derived.RangeFuncFrom
import Derived.Shelf.Abstract
import Derived.WalkKit
import Derived.OwnWalkIn
import Derived.TacticsInMore
import Derived.LoopNIn
import Derived.LoopIn
set_option linter.all false
set_option linter.unusedVariables false
set_option linter.unusedSimpArgs false
section
namespace Go.Proofs
open Go.Shelf
def Try.lays106_ren : Go.Shelf.Ren := ⟨fun | 106 => 71 | 213 => 116 | 265 => 140 | n => n, fun | 9 => 9 | 3 => 3 | n => n, fun | n => n⟩
theorem Try.lays106 : Go.Proofs.Lays.n106 Try.prog Try.lays106_ren := {
  mixed := by kernel_rfl
  f106 := Try.func71.trans (congrArg some (by kernel_rfl))
  f213 := Try.func116.trans (congrArg some (by kernel_rfl))
  f265 := Try.func140.trans (congrArg some (by kernel_rfl))
  t3 := Try.underlying3
  a3 := Try.isAgg3
  z3 := Try.sizeOf3
  v3 := Try.zeroValue3
  t9 := Try.underlying9
  a9 := Try.isAgg9
  z9 := Try.sizeOf9
  v9 := Try.zeroValue9 }
open Go.RowKit in
theorem Try.strings_Compare (a b : ByteArray) (w : World) :
    Calls Try.prog 71 #[.string a, .string b] w fun e w' => e = .returned (.int .i64 (Lib.compareBytes a.data.toList b.data.toList)) ∧ w' = w := Any.strings_Compare Try.lays106 a b w
end Go.Proofs
end
section
namespace Go.Proofs.Ytclehkgnacekkaa.Vm
open Go.RowKit
set_option maxRecDepth 100000
set_option maxHeartbeats 4000000
theorem cmp_c (a b : ByteArray) : Spec 71 [.one (.sc (.string a)), .one (.sc (.string b))] [.one (.sc (.int .i64 (Lib.compareBytes a.data.toList b.data.toList)))] := by
  refine ⟨by kernel_rfl, fun I w args hI hat => ?_⟩
  match args, hat with
  | [v1, v2], ⟨h1, h2, _⟩ =>
    have h1 : AtD I w v1 (.sc (.string a)) := h1
    have h2 : AtD I w v2 (.sc (.string b)) := h2
    cases h1
    cases h2
    refine (Try.strings_Compare a b w).mono ?_
    rintro e w' ⟨rfl, rfl⟩
    exact ⟨_, rfl, .sc _ rfl, Below.refl _ _⟩
theorem compare_is : ∀ a b : List UInt8, Lib.compareBytes a b = cmpB a b
  | [], [] => rfl
  | [], _ :: _ => by simp [Lib.compareBytes, cmpB, Op.bytesLess]
  | _ :: _, [] => by simp [Lib.compareBytes, cmpB, Op.bytesLess]
  | x :: a, y :: b => by
    rw [Lib.compareBytes, compare_is a b]
    unfold cmpB
    simp only [Op.bytesLess]
    by_cases h1 : x < y
    · simp [h1]
    · by_cases h2 : y < x
      · have hne : x ≠ y := fun e => by rw [e] at h2; exact h1 (by rw [e]; exact h2)
        simp [h1, h2, hne]
      · have e : x = y := by
          rw [UInt8.lt_iff_toNat_lt] at h1 h2
          exact UInt8.toNat_inj.1 (by omega)
        subst e
        simp [h1]
theorem flat1_c : CmpS 146 := by
  intro n m x1 x2 x3 x4 y1 y2 y3 y4
  have hc := cmp_c n m
  rw [compare_is, ← ByteArray.toList_eq, ← ByteArray.toList_eq] at hc
  generalize cmpB n.toList m.toList = cv at *
  refine spec_of Try.func146 rfl (by kernel_rfl) (by kernel_rfl) (by kernel_rfl) fun qa qb qc qd qe qf qg qh qi qj qk ql qm qo qp qs qt qu qv qx qy qz va vc vd ve vf vg vh vj vk vl vm vn vo vp vq vr vt hA => ?_
  cbv
  repeat ((with_reducible apply next_at hA); cbv)
  refine call_at hA _ hc ?_ ?_
  · rfl
  cbv
  repeat ((with_reducible apply next_at hA); cbv)
end Go.Proofs.Ytclehkgnacekkaa.Vm
end
section
namespace Go.Proofs.Ytclehkgnacekkaa.Vm
open Go.RowKit
set_option maxRecDepth 100000
set_option maxHeartbeats 4000000
theorem Field_s (nm : ByteArray) (x0 x1 x2 x3 r0 r1 r2 r3 : D) : Spec 41 [.one (.sc (.string nm)), .ag [x0, x1, x2, x3], .ag [r0, r1, r2, r3]] [.ag [.sc (.int .u8 11), .sc (.string nm), .sc (.int .i64 0), .sl 4 [[x0, x1, x2, x3], [r0, r1, r2, r3]]]] := by
  refine spec_of Try.func41 rfl (by kernel_rfl) (by kernel_rfl) (by kernel_rfl) fun qa qb qc qd qe qf qg qh qi qj qk ql qm qo qp qs qt qu qv qx qy qz va vc vd ve vf vg vh vj vk vl vm vn vo vp vq vr vt hA => ?_
  cbv
  repeat ((with_reducible first | apply next_at hA | apply lit_at hA true); cbv)
theorem rowS_cons (f : ByteArray × Ty) (fs : List (ByteArray × Ty)) (tl : Ty) : rowS (f :: fs) tl = .mk 11 f.1 0 [f.2, rowS fs tl] := rfl
theorem Of_s (fs : List (ByteArray × Ty)) (tl : Ty) (hn : fs.length ≤ 1048576) : Spec 50 [.one (.sl 5 (rF fs)), .ag (cT tl)] [.ag (cT (rowS fs tl))] := by
  obtain ⟨L, hL⟩ : ∃ L, L = rF fs := ⟨_, rfl⟩
  rw [← hL]
  obtain ⟨t0, t1, t2, t3, ht⟩ := cT_four tl
  obtain ⟨q0, q1, q2, q3, hq⟩ := cT_four (rowS fs tl)
  rw [ht, hq]
  refine spec_of Try.func50 rfl (by kernel_rfl) (by kernel_rfl) (by kernel_rfl) fun qa qb qc qd qe qf qg qh qi qj qk ql qm qo qp qs qt qu qv qx qy qz va vc vd ve vf vg vh vj vk vl vm vn vo vp vq vr vt hA => ?_
  cbv
  repeat ((with_reducible apply next_at hA); cbv)
  obtain ⟨e1, e2, e3, e4, e5, e6, e7, e8, e9⟩ := ar_at hA
  obtain ⟨r1, r2, -⟩ := row_at hA
  have hlen : qy L = ((fs.length : Nat) : Int) := by rw [r1, hL, rF_len]
  have hz0 : qa .i64 (qc (qy L) 1) = ((fs.length : Nat) : Int) - 1 := by rw [e1, e3, hlen, IntWalk.i64_in _ (by omega)]
  refine loop_at hA (γ := Int × D × D × D × D) (fun x => [(6, vi .i64 x.1)]) (fun x => [(2, .box [.d x.2.1, .d x.2.2.1, .d x.2.2.2.1, .d x.2.2.2.2])]) (fun x => ∃ k : Nat, x.1 = (k : Int) - 1 ∧ k ≤ fs.length ∧ cT (rowS (fs.drop k) tl) = [x.2.1, x.2.2.1, x.2.2.2.1, x.2.2.2.2]) (fun x => (x.1 + 1).toNat) (qa .i64 (qc (qy L) 1), t0, t1, t2, t3) ?_ ?_ ?_
  · exact ⟨fs.length, hz0, Nat.le_refl _, by rw [List.drop_length]; exact ht⟩
  · cbv
  · intro x hinv
    obtain ⟨z, a0, a1, a2, a3⟩ := x
    cbv
    repeat ((with_reducible apply next_at hA); cbv)
    obtain ⟨k, hz, hk, hE⟩ := hinv
    replace hz : z = (k : Int) - 1 := hz
    replace hE : cT (rowS (fs.drop k) tl) = [a0, a1, a2, a3] := hE
    have hge : qi 0 z = decide (0 < k) := by rw [e8, hz]; exact decide_eq_decide.2 (by omega)
    by_cases h9 : 0 < k
    · rw [decide_eq_true h9] at hge
      obtain ⟨x, hx⟩ : ∃ x, fs[k - 1]? = some x := ⟨_, List.getElem?_eq_getElem (by omega)⟩
      have g1 : qz L z = some (.sc (.string x.1) :: cT x.2) := by rw [r2, hz, if_pos (by omega), hL, show ((k : Int) - 1).toNat = k - 1 by omega]; exact rF_get hx
      have d1 : fs.drop (k - 1) = x :: fs.drop k := by obtain ⟨hi, e⟩ := List.getElem?_eq_some_iff.1 hx; rw [List.drop_eq_getElem_cons hi, e, show k - 1 + 1 = k by omega]
      have hz1 : qa .i64 (qc z 1) = ((k - 1 : Nat) : Int) - 1 := by rw [e1, e3, hz, IntWalk.i64_in _ (by omega)]; omega
      have hm : (qa .i64 (qc z 1) + 1).toNat < (z + 1).toNat := by rw [hz1, hz]; omega
      obtain ⟨nm, x⟩ := x
      obtain ⟨x0, x1, x2, x3, hxx⟩ := cT_four x
      simp only at g1
      rw [hxx] at g1
      have hsp := Field_s nm x0 x1 x2 x3 a0 a1 a2 a3
      have hnew : cT (rowS (fs.drop (k - 1)) tl) = [.sc (.int .u8 11), .sc (.string nm), .sc (.int .i64 0), .sl 4 [[x0, x1, x2, x3], [a0, a1, a2, a3]]] := by
        rw [d1, rowS_cons, cT, rT, rT, rT, hxx, hE]
      rw [hge]
      cbv
      repeat ((with_reducible apply next_at hA); cbv)
      rw [g1]
      cbv
      try (rw [g1]; cbv)
      refine calm_at hA _ hsp ?_
      cbv
      repeat ((with_reducible apply next_at hA); cbv)
      exact ⟨(_, _, _, _, _), ⟨k - 1, hz1, by omega, hnew⟩, hm, by cbv⟩
    · rw [decide_eq_false h9] at hge
      have hk0 : k = 0 := by omega
      rw [hk0, List.drop_zero, hq] at hE
      cases hE
      rw [hge]
      cbv
      repeat ((with_reducible apply next_at hA); cbv)
end Go.Proofs.Ytclehkgnacekkaa.Vm
end
section
namespace Go.Proofs.Ytclehkgnacekkaa.Vm
open Go.RowKit
set_option maxRecDepth 100000
set_option maxHeartbeats 4000000
theorem rT_snoc {ks : List Ty} {k : Nat} {x : Ty} (h : ks[k]? = some x) : rT (ks.take (k + 1)) = rT (ks.take k) ++ [cT x] := by
  obtain ⟨hi, e⟩ := List.getElem?_eq_some_iff.1 h
  rw [rT_map, rT_map, List.take_succ_eq_append_getElem hi, e, List.map_append]
  rfl
theorem copied_s : ∀ t : Ty, t.parts.length ≤ 1048576 → Spec 113 [.ag (cT t)] [.ag (cT t)] := by
  intro t
  induction t using Ty.ind with
  | h t ih =>
    intro hN
    have hkl := kids_le t
    obtain ⟨op, nm, n, ks⟩ := t
    simp only [Ty.kids] at hkl ih
    rw [cT]
    obtain ⟨K, hK⟩ : ∃ K, K = rT ks := ⟨_, rfl⟩
    rw [← hK]
    refine spec_of Try.func113 rfl (by kernel_rfl) (by kernel_rfl) (by kernel_rfl) fun qa qb qc qd qe qf qg qh qi qj qk ql qm qo qp qs qt qu qv qx qy qz va vc vd ve vf vg vh vj vk vl vm vn vo vp vq vr vt hA => ?_
    cbv
    with_reducible apply next_at hA
    cbv
    refine own_at hA 3 25 true rfl ?_
    cbv
    repeat ((with_reducible apply next_at hA); cbv)
    obtain ⟨e1, e2, e3, e4, e5, e6, e7, e8, e9⟩ := ar_at hA
    obtain ⟨r1, r2, r3, r4⟩ := row_at hA
    refine loop_at hA (γ := Int × List (List D)) (fun x => [(9, vi .i64 x.1), (3, .own 2), (13, .jk)]) (fun x => [(2, .row true 25 x.2)]) (fun x => ∃ k : Nat, x.1 = (k : Int) ∧ k ≤ ks.length ∧ x.2 = rT (ks.take k)) (fun x => ks.length - x.1.toNat) (0, []) ?_ ?_ ?_
    · exact ⟨0, rfl, Nat.zero_le _, rfl⟩
    · cbv
    · intro x hinv
      obtain ⟨z, L⟩ := x
      cbv
      repeat ((with_reducible apply next_at hA); cbv)
      obtain ⟨k, hz, hk, hE⟩ := hinv
      have hz : z = (k : Int) := hz
      replace hE : L = rT (ks.take k) := hE
      have hlen : qy K = (ks.length : Int) := by rw [r1, hK, rT_len]
      have hlt : qh z (qy K) = decide (k < ks.length) := by rw [e7, hlen, hz]; exact decide_eq_decide.2 (by omega)
      by_cases h9 : k < ks.length
      · rw [decide_eq_true h9] at hlt
        obtain ⟨x, hx⟩ : ∃ x, ks[k]? = some x := ⟨_, List.getElem?_eq_getElem h9⟩
        have g1 : qz K z = some (cT x) := by rw [r2, hz, if_pos (by omega), hK]; exact rT_get hx
        have hsp := ih x (List.mem_of_getElem? hx) (by have := hkl.2 x (List.mem_of_getElem? hx); omega)
        have hsn := rT_snoc hx
        obtain ⟨o1, m1, n1, l1⟩ := x
        rw [cT] at g1 hsp hsn
        generalize rT l1 = L1 at *
        rw [hlt]
        cbv
        repeat ((with_reducible apply next_at hA); cbv)
        rw [g1]
        cbv
        repeat ((with_reducible apply next_at hA); cbv)
        refine call_at hA _ hsp ?_ ?_
        · rfl
        cbv
        refine lit_at hA true ?_
        cbv
        refine room_at hA (by rw [hE, rT_len]; simp; omega) ?_
        cbv
        repeat ((with_reducible apply next_at hA); cbv)
        replace hz : z = (k : Int) := hz
        have hz1 : qa .i64 (qb z 1) = ((k + 1 : Nat) : Int) := by rw [e1, e2, hz, IntWalk.i64_in _ (by omega)]; omega
        refine ⟨(qa .i64 (qb z 1), vc L [[.sc (.int .u8 o1), .sc (.string m1), .sc (.int .i64 n1), .sl 4 L1]]), ⟨k + 1, hz1, h9, by show vc L _ = _; rw [r4, hE, hsn]⟩, by show ks.length - (qa .i64 (qb z 1)).toNat < ks.length - z.toNat; rw [hz1, hz]; omega, ?_⟩
        cbv
      · rw [decide_eq_false h9] at hlt
        rw [hlt]
        cbv
        repeat ((with_reducible apply next_at hA); cbv)
        have hE2 : L = K := by rw [hE, hK, List.take_of_length_le (by omega)]
        rw [hE2]
        exact ⟨rfl, trivial⟩
end Go.Proofs.Ytclehkgnacekkaa.Vm
end
section
namespace Go.Proofs.Ytclehkgnacekkaa.Vm
open Go.RowKit
set_option maxRecDepth 100000
set_option maxHeartbeats 4000000
def cfS (f : ByteArray × Ty) : ByteArray × Ty := (f.1, canonS f.2)
theorem fieldsS_len : ∀ (n : Nat) (t : Ty), t.parts.length ≤ n → (fieldsS t).length < t.parts.length := by
  intro n
  induction n with
  | zero => intro t h; have := parts_pos t; omega
  | succ n ih =>
    intro t h
    have hp := parts_pos t
    obtain ⟨op, nm, k, ks⟩ := t
    match ks with
    | [] => exact hp
    | [x] => exact hp
    | x :: y :: z :: l => exact hp
    | [x, r] =>
      have hk := kids_le (.mk op nm k [x, r])
      have hr := hk.2 r (by simp [Ty.kids])
      unfold fieldsS
      by_cases h11 : op = 11
      · rw [if_pos h11, List.length_cons]
        have := ih r (by omega)
        omega
      · rw [if_neg h11]; exact hp
theorem canon_s : ∀ (m : Nat) (t : Ty), t.parts.length ≤ m → m ≤ 1048576 → (∀ x ∈ t.parts, Spine x) → Spec 16 [.ag (cT t)] [.ag (cT (canonS t))] := by
  intro m
  induction m with
  | zero => intro t h; have := parts_pos t; omega
  | succ m ih =>
    intro t hm hm2 hsp
    have hself : t ∈ t.parts := by rw [parts_eq]; exact List.mem_cons_self ..
    have hkl := kids_le t
    obtain ⟨op, nm, n, ks⟩ := t
    generalize ht : Ty.mk op nm n ks = t at *
    have hc : cT t = [.sc (.int .u8 op), .sc (.string nm), .sc (.int .i64 n), .sl 4 (rT ks)] := by rw [← ht, cT]
    have hks : t.kids = ks := by rw [← ht]; rfl
    rw [hks] at hkl
    by_cases hop : op = 11
    · have hF := FieldsO_s t (hsp t hself) (by omega)
      have hcr := canon_row (t := t) (by rw [← ht]; exact hop)
      have hih : ∀ f ∈ sortS ltF (fieldsS t), Spec 16 [.ag (cT f.2)] [.ag (cT (canonS f.2))] := fun f hf => by
        have h1 := sortS_mem hf
        have h2 := fields_less _ t (Nat.le_refl _) f h1
        have h3 := fields_mem _ t (Nat.le_refl _) f h1
        exact ih f.2 (by omega) (by omega) fun x hx => hsp x (parts_trans hx h3)
      have hlen : (sortS ltF (fieldsS t)).length ≤ 1048576 := by
        rw [sortS_len]
        have := fieldsS_len _ t (Nat.le_refl _)
        omega
      rw [hc] at hF ⊢
      obtain ⟨K0, hK0⟩ : ∃ K, K = rT ks := ⟨_, rfl⟩
      rw [← hK0] at hF ⊢
      generalize sortS ltF (fieldsS t) = L at *
      have hOf := Of_s (L.map cfS) (tailS t) (by rw [List.length_map]; exact hlen)
      rw [show rowS (L.map cfS) (tailS t) = canonS t from hcr.symm] at hOf
      obtain ⟨y0, y1, y2, y3, hy⟩ := cT_four (canonS t)
      obtain ⟨q0, q1, q2, q3, hq⟩ := cT_four (tailS t)
      rw [hq] at hF hOf
      rw [hy] at hOf ⊢
      obtain ⟨M0, hM0⟩ : ∃ M, M = rF L := ⟨_, rfl⟩
      rw [← hM0] at hF
      refine spec_of Try.func16 rfl (by kernel_rfl) (by kernel_rfl) (by kernel_rfl) fun qa qb qc qd qe qf qg qh qi qj qk ql qm qo qp qs qt qu qv qx qy qz va vc vd ve vf vg vh vj vk vl vm vn vo vp vq vr vt hA => ?_
      cbv
      repeat ((with_reducible apply next_at hA); cbv)
      have h11 : qj op 11 = decide (op = 11) := by have e := ar_at hA; exact e.2.2.2.2.2.2.2.2 _ _
      rw [decide_eq_true hop] at h11
      rw [h11]
      cbv
      repeat ((with_reducible apply next_at hA); cbv)
      refine callo_at hA [] hF ⟨rfl, rfl, rfl, rfl, rfl, rfl, rfl⟩ ?_
      rintro res os2 ⟨rfl, rfl⟩
      cbv
      repeat ((with_reducible apply next_at hA); cbv)
      obtain ⟨e1, e2, e3, e4, e5, e6, e7, e8, e9⟩ := ar_at hA
      obtain ⟨r1, r2, r3, r4⟩ := row_at hA
      obtain ⟨m1, m2, m3, m4⟩ := map_at hA
      refine loop_at hA (γ := Int × List (List D)) (fun x => [(5, vi .i64 x.1), (11, .jk), (13, .jk)]) (fun x => [(2, .row false 86 x.2)]) (fun x => ∃ k : Nat, x.1 = (k : Int) ∧ k ≤ L.length ∧ x.2 = rF ((L.take k).map cfS ++ L.drop k)) (fun x => L.length - x.1.toNat) (0, M0) ?_ ?_ ?_
      · exact ⟨0, rfl, Nat.zero_le _, hM0⟩
      · cbv
      · intro x hinv
        obtain ⟨z, M⟩ := x
        cbv
        repeat ((with_reducible apply next_at hA); cbv)
        obtain ⟨k, hz, hk, hM⟩ := hinv
        replace hz : z = (k : Int) := hz
        replace hM : M = rF ((L.take k).map cfS ++ L.drop k) := hM
        have hll : qy M = ((L.length : Nat) : Int) := by rw [r1, hM, rF_len]; simp; omega
        have hlt : qh z (qy M) = decide (k < L.length) := by rw [e7, hll, hz]; exact decide_eq_decide.2 (by omega)
        by_cases h9 : k < L.length
        · rw [decide_eq_true h9] at hlt
          obtain ⟨x, hx⟩ : ∃ x, L[k]? = some x := ⟨_, List.getElem?_eq_getElem h9⟩
          have hspx := hih x (List.mem_of_getElem? hx)
          have hxe : ((L.take k).map cfS ++ L.drop k)[k]? = some x := by
            rw [List.getElem?_append_right (by simp; omega)]
            simp
            rw [Nat.min_eq_left (by omega), Nat.sub_self, Nat.add_zero]
            exact hx
          have hset : ((L.take k).map cfS ++ L.drop k).set k (cfS x) = (L.take (k + 1)).map cfS ++ L.drop (k + 1) := by
            obtain ⟨hi, e⟩ := List.getElem?_eq_some_iff.1 hx
            have e0 : k - ((L.take k).map cfS).length = 0 := by rw [List.length_map, List.length_take]; omega
            rw [List.set_append_right _ _ (by rw [List.length_map, List.length_take]; omega), List.take_add_one, hx, List.map_append, List.append_assoc, List.drop_eq_getElem_cons hi, e0]
            rfl
          obtain ⟨xn, xt⟩ := x
          obtain ⟨x0, x1, x2, x3, hxx⟩ := cT_four xt
          obtain ⟨v0, v1, v2, v3, hvv⟩ := cT_four (canonS xt)
          simp only at hspx
          rw [hxx, hvv] at hspx
          have gx : qz M z = some [.sc (.string xn), x0, x1, x2, x3] := by rw [r2, hz, if_pos (by omega), hM, show ((k : Int)).toNat = k by omega, rF_get hxe, hxx]
          have hz1 : qa .i64 (qb z 1) = ((k + 1 : Nat) : Int) := by rw [e1, e2, hz, IntWalk.i64_in _ (by omega)]; omega
          have hmu : L.length - (qa .i64 (qb z 1)).toNat < L.length - z.toNat := by rw [hz1, hz]; omega
          have hnew : vd M z [.sc (.string xn), v0, v1, v2, v3] = rF ((L.take (k + 1)).map cfS ++ L.drop (k + 1)) := by
            rw [m4, ← hset, hM, hz, show ((k : Int)).toNat = k by omega]
            unfold rF
            rw [List.map_set]
            show _ = List.set _ k (.sc (.string xn) :: cT (canonS xt))
            rw [hvv]
          rw [hlt]
          cbv
          repeat (first | (with_reducible apply next_at hA; cbv) | (rw [gx]; cbv) | (refine call_at hA _ hspx rfl ?_; cbv))
          refine ⟨(qa .i64 (qb z 1), vd M z [.sc (.string xn), v0, v1, v2, v3]), ⟨k + 1, hz1, h9, hnew⟩, hmu, ?_⟩
          cbv
        · rw [decide_eq_false h9] at hlt
          have hM2 : M = rF (L.map cfS) := by rw [hM, List.take_of_length_le (by omega), List.drop_of_length_le (by omega), List.append_nil]
          rw [← hM2] at hOf
          rw [hlt]
          cbv
          refine frz_at hA [2] ?_
          cbv
          repeat (first | (with_reducible apply next_at hA; cbv) | (refine call_at hA _ hOf rfl ?_; cbv))
    · have hcn := canon_node (t := t) (by rw [← ht]; exact hop)
      rw [hks, show t.op = op by rw [← ht]; rfl, show t.name = nm by rw [← ht]; rfl, show t.n = n by rw [← ht]; rfl] at hcn
      have hih : ∀ x ∈ ks, Spec 16 [.ag (cT x)] [.ag (cT (canonS x))] := fun x hx => by
        have h2 := hkl.2 x hx
        exact ih x (by omega) (by omega) fun y hy => hsp y (by rw [parts_kids, hks]; exact List.mem_cons_of_mem _ (List.mem_flatMap.2 ⟨x, hx, hy⟩))
      rw [hcn, cT, hc]
      obtain ⟨K, hK⟩ : ∃ K, K = rT ks := ⟨_, rfl⟩
      obtain ⟨Q, hQ⟩ : ∃ Q, Q = rT (ks.map canonS) := ⟨_, rfl⟩
      rw [← hK, ← hQ]
      refine spec_of Try.func16 rfl (by kernel_rfl) (by kernel_rfl) (by kernel_rfl) fun qa qb qc qd qe qf qg qh qi qj qk ql qm qo qp qs qt qu qv qx qy qz va vc vd ve vf vg vh vj vk vl vm vn vo vp vq vr vt hA => ?_
      cbv
      repeat ((with_reducible apply next_at hA); cbv)
      obtain ⟨e1, e2, e3, e4, e5, e6, e7, e8, e9⟩ := ar_at hA
      obtain ⟨r1, r2, r3, r4⟩ := row_at hA
      have h11 : qj op 11 = decide (op = 11) := e9 _ _
      rw [decide_eq_false hop] at h11
      rw [h11]
      cbv
      repeat (first | (refine ownbox_at hA 2 3 25 true rfl rfl ?_; cbv) | (with_reducible apply next_at hA; cbv))
      refine loop_at hA (γ := Int × List (List D)) (fun x => [(7, vi .i64 x.1)]) (fun x => [(3, .row true 25 x.2)]) (fun x => ∃ k : Nat, x.1 = (k : Int) ∧ k ≤ ks.length ∧ x.2 = rT ((ks.map canonS).take k)) (fun x => ks.length - x.1.toNat) (0, []) ?_ ?_ ?_
      · exact ⟨0, rfl, Nat.zero_le _, rfl⟩
      · cbv
      · intro x hinv
        obtain ⟨z, M⟩ := x
        cbv
        repeat ((with_reducible apply next_at hA); cbv)
        obtain ⟨k, hz, hk, hM⟩ := hinv
        replace hz : z = (k : Int) := hz
        replace hM : M = rT ((ks.map canonS).take k) := hM
        have hll : qy K = ((ks.length : Nat) : Int) := by rw [r1, hK, rT_len]
        have hlt : qh z (qy K) = decide (k < ks.length) := by rw [e7, hll, hz]; exact decide_eq_decide.2 (by omega)
        by_cases h9 : k < ks.length
        · rw [decide_eq_true h9] at hlt
          obtain ⟨x, hx⟩ : ∃ x, ks[k]? = some x := ⟨_, List.getElem?_eq_getElem h9⟩
          have hspx := hih x (List.mem_of_getElem? hx)
          have hx2 : (ks.map canonS)[k]? = some (canonS x) := by rw [List.getElem?_map, hx]; rfl
          have hsn := rT_snoc hx2
          obtain ⟨x0, x1, x2, x3, hxx⟩ := cT_four x
          obtain ⟨v0, v1, v2, v3, hvv⟩ := cT_four (canonS x)
          rw [hxx, hvv] at hspx
          rw [hvv] at hsn
          have gx : qz K z = some [x0, x1, x2, x3] := by rw [r2, hz, if_pos (by omega), hK, show ((k : Int)).toNat = k by omega, rT_get hx, hxx]
          have gx2 : (Ar.mk qa qb qc qd qe qf qg qh qi qj qk ql qm qo qp qs qt qu qv qx qy qz va vc vd ve vf vg vh vj vk vl vm vn vo vp vq vr vt).get K z = some [x0, x1, x2, x3] := gx
          have hz1 : qa .i64 (qb z 1) = ((k + 1 : Nat) : Int) := by rw [e1, e2, hz, IntWalk.i64_in _ (by omega)]; omega
          have hmu : ks.length - (qa .i64 (qb z 1)).toNat < ks.length - z.toNat := by rw [hz1, hz]; omega
          have hnew : vc M [[v0, v1, v2, v3]] = rT ((ks.map canonS).take (k + 1)) := by rw [r4, hsn, hM]
          have hMl : M.length ≤ 1048576 := by rw [hM, rT_len, List.length_take]; omega
          rw [hlt]
          cbv
          repeat (first | (with_reducible apply next_at hA; cbv) | (rw [gx]; cbv) | (rw [gx2]; cbv) | (refine calm_at hA _ hspx ?_; cbv) | (refine call_at hA _ hspx rfl ?_; cbv) | (refine lit_at hA true ?_; cbv) | (refine room_at hA (by simp only [r4, List.length_append, List.length_cons, List.length_nil]; omega) ?_; cbv))
          cbv
          repeat (first | (with_reducible apply next_at hA; cbv) | (rw [gx]; cbv) | (rw [gx2]; cbv) | (refine calm_at hA _ hspx ?_; cbv) | (refine call_at hA _ hspx rfl ?_; cbv) | (refine lit_at hA true ?_; cbv) | (refine room_at hA (by simp only [r4, List.length_append, List.length_cons, List.length_nil]; omega) ?_; cbv))
          refine ⟨(qa .i64 (qb z 1), vc M [[v0, v1, v2, v3]]), ⟨k + 1, hz1, h9, hnew⟩, hmu, ?_⟩
          cbv
        · rw [decide_eq_false h9] at hlt
          have hM2 : M = Q := by rw [hM, hQ, List.take_of_length_le (by rw [List.length_map]; omega)]
          rw [hlt]
          cbv
          repeat ((with_reducible apply next_at hA); cbv)
          exact ⟨by rw [hM2], trivial⟩
end Go.Proofs.Ytclehkgnacekkaa.Vm
end
section
namespace Go.Proofs.Ytclehkgnacekkaa.Vm
section
variable {W : ByteArray → Bool}
theorem shape_parts {t : Ty} {s : Int} (h : shapeB W t s = true) : ∃ k, kidsS t.op = some k ∧ (decide (8 ≤ t.op) == (s == 114)) = true ∧ t.kids.length = k.length ∧ (if t.op = 11 then W t.name else decide (t.name.toList = [])) = true ∧ 0 ≤ t.n ∧ (t.op = 7 ∨ t.op = 10 ∨ t.n = 0) ∧ shapesB W t.kids k = true := by
  cases hk : kidsS t.op with
  | none => rw [shape_none hk] at h; cases h
  | some k =>
    obtain ⟨op, nm, n, kids⟩ := t
    rw [shape_some (k := k) (by exact hk)] at h
    unfold c3B c4B at h
    simp only [Bool.and_eq_true, Bool.or_eq_true, decide_eq_true_eq] at h
    obtain ⟨⟨h1, h2, h3, h4, h5⟩, h6⟩ := h
    exact ⟨k, rfl, h1, h2, h3, h4, by simpa [or_assoc, Ty.op, Ty.n] using h5, h6⟩
theorem shape_mk {op : Int} {nm : ByteArray} {n : Int} {kids : List Ty} {s : Int} {k : List Int} (h0 : kidsS op = some k) (h1 : (decide (8 ≤ op) == (s == 114)) = true) (h2 : kids.length = k.length) (h3 : (if op = 11 then W nm else decide (nm.toList = [])) = true) (h4 : 0 ≤ n) (h5 : op = 7 ∨ op = 10 ∨ n = 0) (h6 : shapesB W kids k = true) :
    shapeB W (.mk op nm n kids) s = true := by
  rw [shape_some h0]
  unfold c3B c4B
  simp only [Bool.and_eq_true, Bool.or_eq_true, decide_eq_true_eq]
  exact ⟨⟨h1, h2, h3, h4, by simpa [or_assoc] using h5⟩, h6⟩
theorem shape_row {t : Ty} {s : Int} (h : shapeB W t s = true) (h11 : t.op = 11) : s = 114 ∧ ∃ a b, t.kids = [a, b] ∧ t.n = 0 ∧ W t.name = true ∧ shapeB W a 116 = true ∧ shapeB W b 114 = true := by
  obtain ⟨k, hk, h1, h2, h3, h4, h5, h6⟩ := shape_parts h
  rw [h11] at hk h1 h3 h5
  have : kidsS 11 = some [116, 114] := by decide
  rw [this] at hk
  injection hk with hk
  subst hk
  rw [if_pos rfl] at h3
  have hs : s = 114 := by
    have h8 : decide ((8 : Int) ≤ 11) = true := by decide
    rw [h8] at h1
    simpa using h1
  refine ⟨hs, ?_⟩
  match t.kids, h2, h6 with
  | [a, b], _, h6 =>
    rw [shapesB, shapesB, shapesB] at h6
    simp only [Bool.and_eq_true, and_true] at h6
    refine ⟨a, b, rfl, ?_, h3, h6.1, h6.2⟩
    rcases h5 with h | h | h
    · exact absurd h (by decide)
    · exact absurd h (by decide)
    · exact h
theorem shape_row_mk {nm : ByteArray} {a b : Ty} (h3 : W nm = true) (ha : shapeB W a 116 = true) (hb : shapeB W b 114 = true) : shapeB W (.mk 11 nm 0 [a, b]) 114 = true := by
  refine shape_mk (k := [116, 114]) (by decide) (by decide) rfl (by rw [if_pos rfl]; exact h3) (by omega) (.inr (.inr rfl)) ?_
  rw [shapesB, shapesB, shapesB, ha, hb]
  rfl
theorem fields_shape : ∀ {t : Ty}, shapeB W t 114 = true → (∀ f ∈ fieldsS t, W f.1 = true ∧ shapeB W f.2 116 = true) ∧ shapeB W (tailS t) 114 = true := by
  intro t
  induction t using Ty.ind with
  | h t ih =>
    intro h
    by_cases h11 : t.op = 11
    · obtain ⟨_, a, b, hk, hn, hw, ha, hb⟩ := shape_row h h11
      have hsp : Spine t := shape_spine W t _ h t (by rw [parts_eq]; exact List.mem_cons_self ..)
      obtain ⟨a', b', hk', hsb, hf, ht⟩ := fields_step hsp h11
      rw [hk] at hk'
      injection hk' with e1 e2
      injection e2 with e2 _
      subst e1
      subst e2
      have hb' := ih b (by rw [hk]; simp) hb
      rw [hf, ht]
      refine ⟨fun f hf => ?_, hb'.2⟩
      rcases List.mem_cons.1 hf with rfl | hf
      · exact ⟨hw, ha⟩
      · exact hb'.1 f hf
    · obtain ⟨h1, h2⟩ := fields_end h11
      rw [h1, h2]
      exact ⟨by simp, h⟩
theorem rowS_shape {tl : Ty} (ht : shapeB W tl 114 = true) : ∀ {fs : List (ByteArray × Ty)}, (∀ f ∈ fs, W f.1 = true ∧ shapeB W f.2 116 = true) → shapeB W (rowS fs tl) 114 = true
  | [], _ => ht
  | f :: fs, h => by
    rw [rowS_op_ne]
    have h1 := h f (List.mem_cons_self ..)
    exact shape_row_mk h1.1 h1.2 (rowS_shape ht fun g hg => h g (List.mem_cons_of_mem _ hg))
theorem shape_spineAll {t : Ty} {s : Int} (h : shapeB W t s = true) : SpineAll t := shape_spine W t s h
theorem shapes_get : ∀ {ts : List Ty} {ks : List Int}, shapesB W ts ks = true → ∀ (i : Nat) (t : Ty) (k : Int), ts[i]? = some t → ks[i]? = some k → shapeB W t k = true
  | [], _, _, i, t, k, h, _ => by simp at h
  | _ :: _, [], h, i, t, k, _, hk => by simp at hk
  | x :: xs, y :: ys, h, i, t, k, ht, hk => by
    rw [shapesB, Bool.and_eq_true] at h
    cases i with
    | zero => simp at ht hk; subst ht; subst hk; exact h.1
    | succ i => exact shapes_get h.2 i t k (by simpa using ht) (by simpa using hk)
theorem shapes_map {f : Ty → Ty} : ∀ {ts : List Ty} {ks : List Int}, shapesB W ts ks = true → (∀ x ∈ ts, ∀ k, shapeB W x k = true → shapeB W (f x) k = true) → shapesB W (ts.map f) ks = true
  | [], ks, _, _ => by cases ks <;> rfl
  | x :: xs, [], h, _ => by rw [shapesB] at h; cases h
  | x :: xs, y :: ys, h, hf => by
    rw [shapesB, Bool.and_eq_true] at h
    rw [List.map_cons, shapesB, Bool.and_eq_true]
    exact ⟨hf x (List.mem_cons_self ..) y h.1, shapes_map h.2 fun z hz => hf z (List.mem_cons_of_mem _ hz)⟩
theorem canon_shape : ∀ (n : Nat) (t : Ty) (s : Int), t.parts.length ≤ n → shapeB W t s = true → shapeB W (canonS t) s = true := by
  intro n
  induction n with
  | zero => intro t s h; have := parts_pos t; omega
  | succ n ih =>
    intro t s hn h
    by_cases h11 : t.op = 11
    · have hr := shape_row h h11
      obtain ⟨rfl, -⟩ := hr
      obtain ⟨hf, ht⟩ := fields_shape h
      rw [canon_row h11]
      refine rowS_shape ht fun f hf' => ?_
      obtain ⟨g, hg, rfl⟩ := List.mem_map.1 hf'
      have h1 := fields_less _ t (Nat.le_refl _) g (sortS_mem hg)
      have h2 := hf g (sortS_mem hg)
      exact ⟨h2.1, ih g.2 116 (by omega) h2.2⟩
    · rw [canon_node h11]
      obtain ⟨k, hk, h1, h2, h3, h4, h5, h6⟩ := shape_parts h
      refine shape_mk hk h1 (by rw [List.length_map]; exact h2) h3 h4 h5 (shapes_map h6 fun x hx k hxk => ?_)
      have h7 := (kids_le t).2 x hx
      exact ih x k (by omega) hxk
end
section
variable {W : ByteArray → Bool}
def Both (W : ByteArray → Bool) (g s : Ty) : Prop := ∃ c, shapeB W g c = true ∧ shapeB W s c = true
theorem Both.kids {g s : Ty} (h : Both W g s) (he : g.op = s.op) : g.kids.length = s.kids.length ∧ ∀ (i : Nat) (x y : Ty), g.kids[i]? = some x → s.kids[i]? = some y → Both W x y := by
  obtain ⟨c, hg, hs⟩ := h
  obtain ⟨k, hk, _, h2, _, _, _, h6⟩ := shape_parts hg
  obtain ⟨k', hk', _, h2', _, _, _, h6'⟩ := shape_parts hs
  rw [← he, hk] at hk'
  injection hk' with hk'
  subst hk'
  refine ⟨by rw [h2, h2'], fun i x y hx hy => ?_⟩
  have hi : i < k.length := by rw [← h2]; exact (List.getElem?_eq_some_iff.1 hx).1
  exact ⟨k[i], shapes_get h6 i x _ hx (List.getElem?_eq_getElem hi), shapes_get h6' i y _ hy (List.getElem?_eq_getElem hi)⟩
end
end Go.Proofs.Ytclehkgnacekkaa.Vm
end
section
namespace Go.Proofs.Ytclehkgnacekkaa.Vm
theorem swoF : Swo ltF := ⟨fun _ => bytes_irr _, fun _ _ _ => bytes_tra _ _ _, fun _ _ _ => bytes_neg _ _ _⟩
theorem sortS_self {l : List (ByteArray × Ty)} (h : Srt ltF l) : sortS ltF l = l := (sort_is swoF h (.refl l)).symm
def cF (f : ByteArray × Ty) : ByteArray × Ty := (f.1, canonS f.2)
theorem srt_cF {l : List (ByteArray × Ty)} (h : Srt ltF l) : Srt ltF (l.map cF) := List.pairwise_map.2 h
theorem canon_end {t : Ty} (h : t.op ≠ 11) (hk : t.kids = []) : canonS t = t := by
  rw [canon_node h, hk, List.map_nil]
  obtain ⟨op, nm, n, ks⟩ := t
  simp only [Ty.kids] at hk
  subst hk
  rfl
theorem canon_rowS {l : List (ByteArray × Ty)} (h : Srt ltF l) {tl : Ty} (ht : tl.op ≠ 11) (hk : tl.kids = []) : canonS (rowS l tl) = rowS (l.map cF) tl := by
  cases l with
  | nil => exact canon_end ht hk
  | cons f l =>
    have h11 : (rowS (f :: l) tl).op = 11 := rowS_len_op (by simp)
    rw [canon_row h11, (rowS_fields ht (f :: l)).1, (rowS_fields ht (f :: l)).2, sortS_self h]
    rfl
section
variable {W : ByteArray → Bool}
theorem end_kids {t : Ty} (h : shapeB W t 114 = true) (h11 : t.op ≠ 11) : t.kids = [] ∧ (t.op = 8 ∨ t.op = 9 ∨ t.op = 10) := by
  obtain ⟨k, hk, h1, h2, -⟩ := shape_parts h
  have h8 : 8 ≤ t.op := by simpa using h1
  unfold kidsS at hk
  split at hk
  · injection hk with hk
    subst hk
    exact ⟨List.eq_nil_of_length_eq_zero h2, by omega⟩
  · repeat' split at hk
    all_goals first | omega | cases hk
theorem tail_end {t : Ty} (h : shapeB W t 114 = true) : (tailS t).op ≠ 11 ∧ (tailS t).kids = [] ∧ ((tailS t).op = 8 ∨ (tailS t).op = 9 ∨ (tailS t).op = 10) := by
  have h1 := tail_not (shape_spineAll h).self
  have h2 := end_kids (fields_shape h).2 h1
  exact ⟨h1, h2.1, h2.2⟩
theorem fields_canon {t : Ty} (h : shapeB W t 114 = true) : fieldsS (canonS t) = (sortS ltF (fieldsS t)).map cF ∧ tailS (canonS t) = tailS t := by
  have ht := tail_end h
  by_cases h11 : t.op = 11
  · rw [canon_row h11]
    exact rowS_fields ht.1 _
  · obtain ⟨h1, h2⟩ := fields_end h11
    rw [canon_end h11 (end_kids h h11).1, h1, h2]
    exact ⟨rfl, rfl⟩
theorem row_eta {t : Ty} (h : shapeB W t 114 = true) : t = rowS (fieldsS t) (tailS t) := by
  induction t using Ty.ind with
  | h t ih =>
    by_cases h11 : t.op = 11
    · obtain ⟨_, a, b, hk, hn, hw, ha, hb⟩ := shape_row h h11
      obtain ⟨a', b', hk', hsb, hf, ht⟩ := fields_step (shape_spineAll h).self h11
      rw [hk] at hk'
      injection hk' with e1 e2
      injection e2 with e2 _
      subst e1
      subst e2
      rw [hf, ht, rowS_op_ne, ← ih b (by rw [hk]; simp) hb]
      conv => lhs; rw [Ty.eta t, h11, hn, hk]
    · obtain ⟨h1, h2⟩ := fields_end h11
      rw [h1, h2]
      rfl
theorem canon_row_is {t : Ty} (h : shapeB W t 114 = true) : canonS t = rowS ((sortS ltF (fieldsS t)).map cF) (tailS t) := by
  by_cases h11 : t.op = 11
  · exact canon_row h11
  · obtain ⟨h1, h2⟩ := fields_end h11
    rw [canon_end h11 (end_kids h h11).1, h1, h2]
    rfl
theorem canon_idem : ∀ (n : Nat) (t : Ty) (s : Int), t.parts.length ≤ n → shapeB W t s = true → canonS (canonS t) = canonS t := by
  intro n
  induction n with
  | zero => intro t s h; have := parts_pos t; omega
  | succ n ih =>
    intro t s hn h
    by_cases h11 : t.op = 11
    · obtain ⟨rfl, -⟩ := shape_row h h11
      have ht := tail_end h
      rw [canon_row_is h, canon_rowS (srt_cF (sort_srt swoF _)) ht.1 ht.2.1, List.map_map]
      congr 1
      refine List.map_congr_left fun f hf => ?_
      have hm := sortS_mem hf
      have h1 := fields_less _ t (Nat.le_refl _) f hm
      have h2 := (fields_shape h).1 f hm
      show (f.1, canonS (canonS f.2)) = (f.1, canonS f.2)
      rw [ih f.2 116 (by omega) h2.2]
    · rw [canon_node h11, canon_node (by exact h11)]
      simp only [Ty.op, Ty.name, Ty.n, Ty.kids]
      rw [List.map_map]
      congr 1
      obtain ⟨k, hk, h1, h2, h3, h4, h5, h6⟩ := shape_parts h
      refine List.map_congr_left fun x hx => ?_
      obtain ⟨i, hi⟩ := List.mem_iff_getElem?.1 hx
      have hil : i < k.length := by rw [← h2]; exact (List.getElem?_eq_some_iff.1 hi).1
      have hxs := shapes_get h6 i x _ hi (List.getElem?_eq_getElem hil)
      have := (kids_le t).2 x hx
      exact ih x _ (by omega) hxs
end
section
variable {W : ByteArray → Bool}
end
section
variable {W : ByteArray → Bool}
end
def keys (c : List (Int × Ty)) : List Int := c.map (·.1)
def Kept (c c' : List (Int × Ty)) : Prop := ((keys c).Nodup → (keys c').Nodup) ∧ ∀ k ∈ keys c, k ∈ keys c'
theorem Kept.trans {a b c : List (Int × Ty)} (h : Kept a b) (k : Kept b c) : Kept a c := ⟨fun x => k.1 (h.1 x), fun n x => k.2 n (h.2 n x)⟩
section
variable {W : ByteArray → Bool}
theorem var_kids {t : Ty} {s : Int} (h : shapeB W t s = true) (hv : t.op = 7 ∨ t.op = 10) : t.kids = [] := by
  obtain ⟨k, hk, h1, h2, -⟩ := shape_parts h
  unfold kidsS at hk
  rw [if_pos (by omega)] at hk
  injection hk with hk
  subst hk
  exact List.eq_nil_of_length_eq_zero h2
theorem isVar_iff {t : Ty} : isVar t = true ↔ t.op = 7 ∨ t.op = 10 := by unfold isVar; simp
end
end Go.Proofs.Ytclehkgnacekkaa.Vm
end
section
namespace Go.Proofs.Ytclehkgnacekkaa.Vm
open Go.RowKit
set_option maxRecDepth 100000
set_option maxHeartbeats 4000000
theorem sort_rF (fs : List (ByteArray × Ty)) : sortS ltR (rF fs) = rF (sortS ltF fs) := sortS_map (f := fun x : ByteArray × Ty => D.sc (.string x.1) :: cT x.2) (fun _ _ => rfl) fs
theorem ok5_rF (fs : List (ByteArray × Ty)) : ∀ x ∈ rF fs, Ok5 x := fun x hx => by
  obtain ⟨f, _, rfl⟩ := List.mem_map.1 hx
  obtain ⟨c0, c1, c2, c3, h⟩ := cT_four f.2
  exact ⟨f.1, c0, c1, c2, c3, by show D.sc (.string f.1) :: cT f.2 = _; rw [h]⟩
theorem rF_snoc (fs : List (ByteArray × Ty)) (f : ByteArray × Ty) : rF (fs ++ [f]) = rF fs ++ [.sc (.string f.1) :: cT f.2] := by unfold rF; rw [List.map_append]; rfl
theorem flat_s (t : Ty) (hs : Spine t) (hN : t.parts.length ≤ 1048576) : SpecO 131 [.ag (ofD (cT t))] [] (fun res os' => res = [.own 0, .ag (ofD (cT (tailS t)))] ∧ os' = [.row false 86 (rF (sortS ltF (fieldsS t)))]) := by
  have hso := sorted_s 146 flat1_c (rF (fieldsS t)) (ok5_rF _) (by rw [rF_len]; have := fieldsS_len _ t (Nat.le_refl _); omega)
  rw [sort_rF] at hso
  obtain ⟨Q, hQ⟩ : ∃ Q, Q = rF (sortS ltF (fieldsS t)) := ⟨_, rfl⟩
  obtain ⟨M, hM⟩ : ∃ M, M = rF (fieldsS t) := ⟨_, rfl⟩
  rw [← hQ, ← hM] at hso
  rw [← hQ]
  obtain ⟨q0, q1, q2, q3, hq⟩ := cT_four (tailS t)
  rw [hq]
  obtain ⟨op, nm, n, ks⟩ := t
  generalize ht : Ty.mk op nm n ks = t at *
  have hc : cT t = [.sc (.int .u8 op), .sc (.string nm), .sc (.int .i64 n), .sl 4 (rT ks)] := by rw [← ht, cT]
  obtain ⟨K0, hK0⟩ : ∃ K, K = rT ks := ⟨_, rfl⟩
  rw [hc, ← hK0]
  refine speco_of Try.func131 rfl (by kernel_rfl) (by kernel_rfl) (by kernel_rfl) fun qa qb qc qd qe qf qg qh qi qj qk ql qm qo qp qs qt qu qv qx qy qz va vc vd ve vf vg vh vj vk vl vm vn vo vp vq vr vt hA => ?_
  cbv
  repeat (first | (refine own_at hA 4 86 false rfl ?_; cbv) | (with_reducible apply next_at hA; cbv))
  obtain ⟨e1, e2, e3, e4, e5, e6, e7, e8, e9⟩ := ar_at hA
  obtain ⟨r1, r2, r3, r4⟩ := row_at hA
  refine loop_at hA (γ := Ty × Int × ByteArray × Int × List (List D) × List (List D)) (fun x => [(4, .own 2)]) (fun x => [(0, .box [.d (.sc (.int .u8 x.2.1)), .d (.sc (.string x.2.2.1)), .d (.sc (.int .i64 x.2.2.2.1)), .d (.sl 4 x.2.2.2.2.1)]), (2, .row false 86 x.2.2.2.2.2)])
    (fun x => ∃ ks fs, x.1 = .mk x.2.1 x.2.2.1 x.2.2.2.1 ks ∧ x.2.2.2.2.1 = rT ks ∧ Spine x.1 ∧ x.2.2.2.2.2 = rF fs ∧ fs ++ fieldsS x.1 = fieldsS t ∧ tailS x.1 = tailS t ∧ fs.length + x.1.parts.length ≤ 1048576) (fun x => x.1.parts.length) (t, op, nm, n, K0, []) ?_ ?_ ?_
  · exact ⟨ks, [], ht.symm, hK0, hs, rfl, rfl, rfl, by simpa using hN⟩
  · cbv
  · intro x hinv
    obtain ⟨r, op, nm, n, K, L⟩ := x
    cbv
    repeat ((with_reducible apply next_at hA); cbv)
    try simp (maxSteps := 4000000) only [nc] at *
    obtain ⟨ks, fs, hr, hK, hsr, hL, hfs, htl, hlen⟩ := hinv
    have h11 : qj op 11 = decide (op = 11) := e9 _ _
    by_cases hop : op = 11
    · rw [decide_eq_true hop] at h11
      obtain ⟨a, b, hk, hsb, hfb, htb⟩ := fields_step hsr (by rw [hr]; exact hop)
      have hnmr : r.name = nm := by rw [hr]; rfl
      rw [hnmr] at hfb
      have hks : ks = [a, b] := by rw [← hk, hr]; rfl
      obtain ⟨a0, a1, a2, a3, ha⟩ := cT_four a
      obtain ⟨op', nm', n', ks'⟩ := b
      generalize hb : Ty.mk op' nm' n' ks' = b at *
      have hcb : cT b = [.sc (.int .u8 op'), .sc (.string nm'), .sc (.int .i64 n'), .sl 4 (rT ks')] := by rw [← hb, cT]
      obtain ⟨K', hK'⟩ : ∃ K, K = rT ks' := ⟨_, rfl⟩
      rw [← hK'] at hcb
      have g0 : qz K 0 = some [a0, a1, a2, a3] := by rw [r2, if_pos (by omega), hK, hks]; exact congrArg some ha
      have g1 : qz K 1 = some [.sc (.int .u8 op'), .sc (.string nm'), .sc (.int .i64 n'), .sl 4 K'] := by rw [r2, if_pos (by omega), hK, hks]; exact congrArg some hcb
      have hLl : L.length ≤ 1048576 := by rw [hL, rF_len]; omega
      have hbl : b.parts.length < r.parts.length := (kids_le r).2 b (by rw [hk]; simp)
      have hnew : vc L [[.sc (.string nm), a0, a1, a2, a3]] = rF (fs ++ [(nm, a)]) := by rw [r4, rF_snoc, hL, ha]
      rw [h11]
      cbv
      repeat (first | (with_reducible apply next_at hA; cbv) | (rw [g0]; cbv) | (rw [g1]; cbv) | (refine lit_at hA true ?_; cbv) | (refine room_at hA (by simp only [r4, List.length_append, List.length_cons, List.length_nil]; omega) ?_; cbv))
      try cbv
      repeat (first | (with_reducible apply next_at hA; cbv) | (rw [g0]; cbv) | (rw [g1]; cbv) | (refine lit_at hA true ?_; cbv) | (refine room_at hA (by simp only [r4, List.length_append, List.length_cons, List.length_nil]; omega) ?_; cbv))
      try simp (maxSteps := 4000000) only [nc] at *
      refine ⟨(b, op', nm', n', K', vc L [[.sc (.string nm), a0, a1, a2, a3]]), ⟨ks', fs ++ [(nm, a)], hb.symm, hK', hsb, hnew, by rw [← hfs, hfb]; simp, by rw [← htl, htb], by rw [List.length_append]; show fs.length + 1 + b.parts.length ≤ _; omega⟩, hbl, ?_⟩
      cbv
    · rw [decide_eq_false hop] at h11
      obtain ⟨hf0, ht0⟩ := fields_end (t := r) (by rw [hr]; exact hop)
      rw [hf0, List.append_nil] at hfs
      have hLM : L = M := by rw [hL, hM, hfs]
      rw [ht0, hr] at htl
      rw [← htl, cT, ← hK] at hq
      rw [h11, hLM]
      cases hq
      cbv
      repeat ((with_reducible apply next_at hA); cbv)
      refine calls_at hA [2] hso ⟨rfl, rfl, rfl, rfl, rfl, rfl, rfl⟩ ?_
      rintro res os2 ⟨rfl, rfl⟩
      cbv
      repeat ((with_reducible apply next_at hA); cbv)
      exact keep_is hA [2] ⟨rfl, rfl, rfl, rfl, rfl, rfl, rfl, rfl⟩ ⟨rfl, rfl⟩
end Go.Proofs.Ytclehkgnacekkaa.Vm
end
section
namespace Go.Proofs.Ytclehkgnacekkaa.Vm
open Go.RowKit Go.Proofs
variable {F : Fence} {n : Nat} {P : Program} {w : World}
def roundQ (B : Nat) (Kp : World → World → Prop) (I : World → Prop) (Ix : Code → World → Prop) (W : World) : Exit → Act → World → Prop
  | .normal, _, W' => KeepsFrom B W W' ∧ Kp W W' ∧ I W'
  | .ret, _, W' => KeepsFrom B W W' ∧ Ix .ret W'
  | .exit i, _, W' => KeepsFrom B W W' ∧ Ix (.exit i) W'
  | _, _, _ => False
def SeqN (F : Fence) (n : Nat) (P : Program) (gf : Nat) (lb : Array Value) (encs : Nat → Array Value) (Kp : World → World → Prop) (N : Nat) (w : World) : Prop :=
  ∀ (l : Nat) (J : Nat → World → Prop) (Jx : Unit → World → Prop) (W : World), Below w.heap.size w W →
    (∀ k W1, k < N → J k W1 → YieldAt F (n - 1) P l (encs k) W1 fun e W' => (e = .returned (.bool true) ∧ J (k + 1) W' ∧ Kp W1 W') ∨ (e = .returned (.bool false) ∧ Jx () W')) →
    J 0 W → CallsIn F n P gf (#[.func (.yield l) #[] #[]] ++ lb) W fun e W' => (∃ v, e = .returned v) ∧ (J N W' ∨ Jx () W')
def Turns (L : Nat) (p : World → Prop) : Prop := ∀ (W : World) (r r' : Loop), p W → W.heap[L]? = some (.loop r) → p (W.putObj L (.loop r'))
theorem range_k {g : Operand} {ps : Array Tmp} {assign body : Code} {Q : Exit → Act → World → Prop} {a : Act}
    (hro : F.round = none) (h1 : 1 ≤ n) {gf : Nat} {lb : Array Value} (hg : a.eval g = .func (.func gf) #[] lb) (hFg : F.fn gf) (eg : ∀ args w, (callFunc gf args).run P w = .ok (.enter gf args) w)
    {encs : Nat → Array Value} {Kp : World → World → Prop} {N : Nat} (hseq : SeqN F (n - 1) P gf lb encs Kp N w)
    (hKt : ∀ {A B C : World}, Kp A B → Kp B C → Kp A C) (hKb : ∀ (W : World) (l : Nat) (o o' : Obj), w.heap.size ≤ l → W.heap[l]? = some o → o.isCells = false → o.isWalk = false → Kp W (W.putObj l o')) (hps : ∀ k, (encs k).size = ps.size)
    (I : Nat → World → Prop) (Ix : Code → World → Prop) (hI : ∀ k, Turns (w.heap.size + 1) (I k)) (hIx : ∀ c, Turns (w.heap.size + 1) (Ix c)) (h0 : ∀ r : Loop, I 0 ((w.alloc (.deferred (some []))).alloc (.loop r)))
    (hround : ∀ (l k : Nat) (W : World), k < N → I k W → ((∃ r : Loop, W.heap[w.heap.size + 1]? = some (.loop r)) ∧ W.heap[w.heap.size]? = some (.deferred (some []))) → assign.wpIn (F.inRound l) (n - 1 - 1) P (Exit.then (fun a' W1 => KeepsFrom w.heap.size W W1 ∧ Kp W W1 ∧ ∃ R : World → Prop, Turns (w.heap.size + 1) R ∧ R W1 ∧ ∀ W2, R W2 → body.wpIn (F.inRound l) (n - 1 - 1) P (roundQ w.heap.size Kp (I (k + 1)) Ix W2) a' W2) (fun _ _ _ => False))
      { tmps := (ps.zip (encs k)).foldl (fun t (p, v) => t.setIfInBounds p v) a.tmps, defers := [] } W)
    (hdone : ∀ (D : Nat) (W : World), D = w.heap.size → I N W → W.heap[D]? = some (.deferred (some [])) → Q .normal { a with defers := { target := .collected D, args := #[] } :: a.defers } W)
    (hstop : ∀ (D : Nat) (c : Code) (W : World), w.heap.size ≤ D → Ix c W → W.heap[D]? = some (.deferred (some [])) → c.wpIn F n P Q { a with defers := { target := .collected D, args := #[] } :: a.defers } W) :
    (Code.rangeFunc g ps assign body).wpIn F n P Q a w := by
  refine wpIn_rangeFunc fun fn hfn => ?_
  rw [hro]
  obtain ⟨D, hD⟩ : ∃ D, D = w.heap.size := ⟨_, rfl⟩
  obtain ⟨rec, hrec⟩ : ∃ rec : LoopState → Option Code → Loop, rec = fun st pe => { state := st, pending := pe, fn, tmps := a.tmps, params := ps, assign, body, defers := w.heap.size } := ⟨_, rfl⟩
  obtain ⟨W1, hW1⟩ : ∃ W1, W1 = (w.alloc (.deferred (some []))).alloc (.loop (rec .ready none)) := ⟨_, rfl⟩
  have hs1 : W1.heap.size = D + 1 + 1 := by rw [hW1, hD]; simp
  have hbel : Below D w W1 := by rw [hW1, hD]; exact ((Below.refl _ w).alloc (Nat.le_refl _) _).alloc (by simp) _
  have hL1 : W1.heap[D + 1]? = some (.loop (rec .ready none)) := by
    have := World.alloc_heap_new (w.alloc (.deferred (some []))) (.loop (rec .ready none))
    rw [World.size_alloc, ← hD, ← hW1] at this; exact this
  have hD1 : W1.heap[D]? = some (.deferred (some [])) := by
    rw [hW1, hD]; exact (Below.heap_alloc _ _ _ (by simp)).trans (World.alloc_heap_new w _)
  have hI1 : I 0 W1 := by rw [hW1]; exact h0 _
  refine ⟨D + 1, [{ target := .collected D, args := #[] }], W1, { target := .fn (.func gf) lb, args := #[.func (.yield (D + 1)) #[] #[]] }, W1, gf, #[.func (.yield (D + 1)) #[] #[]] ++ lb, W1,
    by rw [hW1, hrec, hD]; exact run_enterLoop_outer _ _ _ _ _, by simp only [resolve, hg]; simp [go_sem], fun f' hf => by simp [Target.leads] at hf; subst hf; exact hFg, by simp [invoke, go_sem, eg], fun _ => h1, ?_⟩
  refine (hseq (D + 1) (fun k W => I k W ∧ W.heap[D + 1]? = some (.loop (rec .ready none)) ∧ W.heap[D]? = some (.deferred (some [])))
    (fun _ W => ∃ c, Ix c W ∧ W.heap[D + 1]? = some (.loop (rec .done (some c))) ∧ W.heap[D]? = some (.deferred (some []))) W1 (hD ▸ hbel) ?_ ⟨hI1, hL1, hD1⟩).mono ?_
  · rintro k W hk ⟨hi, hl, hd⟩
    have hy := run_yield (P := P) (args := encs k) hl (by rw [hrec]; exact hps k)
    rw [hrec] at hy
    refine ⟨fn, _, assign, body, hy, roundIn_of_wpIn hfn (wpIn_mono (hround (D + 1) k W hk hi ⟨⟨_, hD ▸ hl⟩, hD ▸ hd⟩) fun e a' Wa h => ?_)⟩
    cases e with
    | normal =>
      obtain ⟨ha1, ha2, R, hR, hr1, hb⟩ := h
      have hl2 := ha1.same _ _ (by omega) hl rfl
      have hd2 := ha1.same _ _ (by omega) hd rfl
      refine ⟨_, run_beginRound hl2 (by rw [hrec]), ?_⟩
      obtain ⟨W2, hW2⟩ : ∃ W2, W2 = Wa.putObj (D + 1) (.loop { rec .ready none with state := .busy }) := ⟨_, rfl⟩
      have hl3 : W2.heap[D + 1]? = some (.loop { rec .ready none with state := .busy }) := by rw [hW2]; exact World.putObj_heap_same (Array.getElem?_eq_some_iff.1 hl2).1
      have hd3 : W2.heap[D]? = some (.deferred (some [])) := by rw [hW2]; exact (World.putObj_heap_other (by omega)).trans hd2
      have hk3 : Kp Wa W2 := by rw [hW2]; exact hKb _ _ _ _ (by omega) hl2 rfl rfl
      have hr2 : R W2 := by rw [hW2]; rw [hD] at hl2 ⊢; exact hR _ _ _ hr1 hl2
      rw [← hW2]
      refine wpIn_mono (hb W2 hr2) fun e a3 W3 hp => ?_
      have fin : ∀ jump : Option Code, KeepsFrom w.heap.size W2 W3 → ∃ W4, W4 = W3.putObj (D + 1) (.loop (rec (if jump.isNone then .ready else .done) jump)) ∧ (Instr.endRound (D + 1) jump).run P W3 = .ok (.bool jump.isNone) W4 ∧
          W3.heap[D + 1]? = some (.loop { rec .ready none with state := .busy }) ∧ W4.heap[D + 1]? = some (.loop (rec (if jump.isNone then .ready else .done) jump)) ∧ W4.heap[D]? = some (.deferred (some [])) := fun jump hk => by
        have h3 := hk.same _ _ (by omega) hl3 rfl
        refine ⟨_, rfl, ?_, h3, World.putObj_heap_same (Array.getElem?_eq_some_iff.1 h3).1, (World.putObj_heap_other (by omega)).trans (hk.same _ _ (by omega) hd3 rfl)⟩
        have := run_endRound (P := P) jump h3
        rw [hrec] at this ⊢
        exact this
      cases e with
      | normal =>
        obtain ⟨h5, h6, h7⟩ := hp
        obtain ⟨W4, e4, hr4, hl4, hl5, hd5⟩ := fin none h5
        exact ⟨_, W4, hr4, .inl ⟨rfl, ⟨by rw [e4]; rw [hD] at hl4 ⊢; exact hI _ _ _ _ h7 hl4, hl5, hd5⟩, hKt ha2 (hKt (hKt hk3 h6) (by rw [e4]; exact hKb _ _ _ _ (by omega) hl4 rfl rfl))⟩⟩
      | ret =>
        obtain ⟨h5, h7⟩ := hp
        obtain ⟨W4, e4, hr4, hl4, hl5, hd5⟩ := fin (some .ret) h5
        exact ⟨_, W4, hr4, .inr ⟨rfl, .ret, by rw [e4]; rw [hD] at hl4 ⊢; exact hIx _ _ _ _ h7 hl4, hl5, hd5⟩⟩
      | exit i =>
        obtain ⟨h5, h7⟩ := hp
        obtain ⟨W4, e4, hr4, hl4, hl5, hd5⟩ := fin (some (.exit i)) h5
        exact ⟨_, W4, hr4, .inr ⟨rfl, .exit i, by rw [e4]; rw [hD] at hl4 ⊢; exact hIx _ _ _ _ h7 hl4, hl5, hd5⟩⟩
      | goto t => exact hp.elim
      | panic ch => exact hp.elim
      | outgrown => exact hp.elim
    | _ => exact h.elim
  · rintro e W2 ⟨⟨v, rfl⟩, ⟨hi, hl, hd⟩ | ⟨c, hi, hl, hd⟩⟩
    · exact ⟨none, _, by have := run_endLoop (P := P) hl (by rw [hrec]; simp); rw [hrec] at this; exact this, hdone D _ hD (by rw [hD] at hl ⊢; exact hI _ _ _ _ hi hl) ((World.putObj_heap_other (by omega)).trans hd)⟩
    · exact ⟨some c, _, by have := run_endLoop (P := P) hl (by rw [hrec]; simp); rw [hrec] at this; exact this, hstop D c _ (by omega) (by rw [hD] at hl ⊢; exact hIx _ _ _ _ hi hl) ((World.putObj_heap_other (by omega)).trans hd)⟩
end Go.Proofs.Ytclehkgnacekkaa.Vm
end
section
namespace Go.Proofs.Ytclehkgnacekkaa.Vm
open Go.RowKit Go.Shelf Go.Proofs
attribute [local go_sem] Oper.semAt_some
def KpB (Bs b off m : Nat) (W W' : World) : Prop := (∀ v, W.cell? ⟨Bs, 0, none⟩ = some v → W'.cell? ⟨Bs, 0, none⟩ = some v) ∧ ∀ i, i < m → ∀ v, W.cell? ⟨b, off + i, none⟩ = some v → W'.cell? ⟨b, off + i, none⟩ = some v
theorem KpB.refl {Bs b off m : Nat} (W : World) : KpB Bs b off m W W := ⟨fun _ h => h, fun _ _ _ h => h⟩
theorem KpB.trans {Bs b off m : Nat} {A B C : World} (h : KpB Bs b off m A B) (h' : KpB Bs b off m B C) : KpB Bs b off m A C := ⟨fun v hv => h'.1 v (h.1 v hv), fun i hi v hv => h'.2 i hi v (h.2 i hi v hv)⟩
theorem KpB.turn {Bs b off m : Nat} (W : World) (l : Nat) (o o' : Obj) (hl : W.heap[l]? = some o) (ho : o.isCells = false) : KpB Bs b off m W (W.putObj l o') :=
  ⟨fun v hv => cell_kept hv (grownBy_putObj' W l o') (fun r e => by cases e; exact ⟨o, hl, ho⟩), fun i hi v hv => cell_kept hv (grownBy_putObj' W l o') (fun r e => by cases e; exact ⟨o, hl, ho⟩)⟩
set_option maxRecDepth 100000 in
set_option maxHeartbeats 4000000 in
theorem backF_in (e : Nat → Nat → Value) (F : Fence) (n : Nat) (hf : F.fn 137) (hro : F.round = none) (hn : 1 ≤ n) (l Bs b off len cap : Nat) (hreach : len * 80 ≤ 140737488351232) (J : Nat → World → Prop) (Jx : Unit → World → Prop)
    (hY : ∀ (k : Nat) (W : World), k < len → J k W → YieldAt F (n - 1) Try.prog l #[.int .i64 ((len - 1 - k : Nat) : Int), .agg #[e (len - 1 - k) 0, e (len - 1 - k) 1, e (len - 1 - k) 2, e (len - 1 - k) 3, e (len - 1 - k) 4]] W fun r W' =>
      (r = .returned (.bool true) ∧ J (k + 1) W' ∧ KpB Bs b off (len * 5) W W') ∨ (r = .returned (.bool false) ∧ Jx () W'))
    (W : World) (hBs : W.cell? ⟨Bs, 0, none⟩ = some (.slice (some ⟨b, off, none⟩) len cap)) (hc : ∀ j, j < len → ∀ i, i < 5 → W.cell? ⟨b, off + (j * 5 + i), none⟩ = some (e j i)) (h0 : J 0 W) :
    CallsIn F n Try.prog 137 #[.func (.yield l) #[] #[], .pointer (some ⟨Bs, 0, none⟩)] W fun r W' => (∃ v, r = .returned v) ∧ (J len W' ∨ Jx () W') := by
  refine callsIn_of_wp Try.func137 rfl hf ?_ hro
  simp only [Try.ntmps137, List.size_toArray, List.length_cons, List.length_nil, Nat.reduceAdd, Nat.reduceSub, Array.replicate_succ, Array.replicate_zero, List.push_toArray, List.append_toArray, List.nil_append, List.cons_append]
  gi_wp2
  gi_loopw [3] (fun i wr => ∃ k r : Nat, k + r = len ∧ i = .int .i64 ((r : Int) - 1) ∧ J k wr ∧ KpB Bs b off (len * 5) W wr)
    (fun i _ => (intOf i + 1).toNat)
  case atStart => exact ⟨0, len, by omega, rfl, h0, KpB.refl W⟩
  case round =>
    obtain ⟨k, r, hk, rfl, hJs, hnx⟩ := hrel
    have hbx := hnx.1 _ hBs
    cases r with
    | succ q =>
      have eq : (((q + 1 : Nat) : Int) - 1) = (q : Int) := by omega
      have hq : len - 1 - k = q := by omega
      rw [eq]
      have hy0 := hY k wr (by omega) hJs
      rw [hq] at hy0
      obtain ⟨fn, tmps, assign, body, hy, hR⟩ := hy0
      have h2 : ∀ i, i < 5 → wr.cell? ⟨b, off + q * 5 + i, none⟩ = some (e q i) := fun i hi => by rw [Nat.add_assoc]; exact hnx.2 _ (by omega) _ (hc q (by omega) i hi)
      have c0 := h2 0 (by omega)
      have c1 := h2 1 (by omega)
      have c2 := h2 2 (by omega)
      have c3 := h2 3 (by omega)
      have c4 := h2 4 (by omega)
      clear h2 hc hY
      simp only [Nat.add_zero] at c0
      have hqn : (0 : Int) ≤ (q : Int) := by omega
      have hql : (q : Int) < (len : Int) := by omega
      have hqlt : q < len := by omega
      gi_wp2
      refine hR.mono ?_
      rintro r W3 (⟨rfl, hJ3, hk3⟩ | ⟨rfl, hJx3⟩)
      · gi_wp2
        go_roundw
        case rel => exact ⟨k + 1, q, by omega, by simp, hJ3, hnx.trans hk3⟩
        case measure => simp [intOf]
      · gi_wp2
        refine bodyPost_ret (results_none rfl _ _ _) rfl ?_
        exact ⟨⟨_, rfl⟩, .inr hJx3⟩
    | zero =>
      obtain rfl : k = len := by omega
      clear hY
      gi_wp2
      go_end0
      exact ⟨⟨_, rfl⟩, .inl hJs⟩
set_option maxRecDepth 100000 in
set_option maxHeartbeats 2000000 in
theorem backF_nil (A : Option Addr) (cap : Nat) (F : Fence) (n : Nat) (hf : F.fn 137) (hro : F.round = none) (l Bs : Nat) (J : World → Prop) (W : World) (hBs : W.cell? ⟨Bs, 0, none⟩ = some (.slice A 0 cap)) (h0 : J W) :
    CallsIn F n Try.prog 137 #[.func (.yield l) #[] #[], .pointer (some ⟨Bs, 0, none⟩)] W fun e W' => (∃ v, e = .returned v) ∧ J W' := by
  refine callsIn_of_wp Try.func137 rfl hf ?_ hro
  simp only [Try.ntmps137, List.size_toArray, List.length_cons, List.length_nil, Nat.reduceAdd, Nat.reduceSub, Array.replicate_succ, Array.replicate_zero, List.push_toArray, List.append_toArray, List.nil_append, List.cons_append]
  gi_wp2
  gi_loopw [3] (fun i wr => i = .int .i64 (-1) ∧ J wr) (fun _ _ => 0)
  case atStart => exact ⟨rfl, h0⟩
  case round =>
    obtain ⟨rfl, hJs⟩ := hrel
    gi_wp2
    go_end0
    exact ⟨⟨_, rfl⟩, hJs⟩
theorem backF_seq {I : Nat → Nat → Prop} {w : World} {v : Value} {rows : List (List D)} {Bs : Nat} (hlt : ∀ b h, I b h → b < w.heap.size) (hv : AtD I w v (.sl 5 rows)) (hBl : Bs < w.heap.size) (hBs : w.cell? ⟨Bs, 0, none⟩ = some v) (hreach : rows.length * 80 ≤ 140737488351232) :
    ∃ (b off : Nat) (us : List Value), us.length = rows.length * 5 ∧ (rows ≠ [] → Up I b (off + rows.length * 5)) ∧ AtDs I w us rows.flatten ∧ (∀ r ∈ rows, r.length = 5) ∧
      ∀ (F : Fence) (n : Nat), F.fn 137 → F.round = none → 1 ≤ n → SeqN F n Try.prog 137 #[.pointer (some ⟨Bs, 0, none⟩)] (fun k => #[.int .i64 ((rows.length - 1 - k : Nat) : Int), .agg (((us.drop ((rows.length - 1 - k) * 5)).take 5).toArray)]) (KpB Bs b off (rows.length * 5)) rows.length w := by
  obtain ⟨A, cap, rfl, hcap, h⟩ := hv.slice
  rcases h with rfl | ⟨b, off, us, rfl, hI, hr, hl, hc, hd⟩
  · exact ⟨0, 0, [], rfl, fun h => absurd rfl h, .nil I w, fun r hr => (by cases hr), fun F n hf hro hn l J Jx W hW hY h0 =>
      (backF_nil A cap F n hf hro l Bs (J 0) W ((hW.cell (p := ⟨Bs, 0, none⟩) hBl).trans hBs) h0).mono fun e W' h => ⟨h.1, .inl h.2⟩⟩
  · refine ⟨b, off, us, hl, fun _ => hI, hd, hr, fun F n hf hro hn l J Jx W hW hY h0 => ?_⟩
    have hbl : b < w.heap.size := by obtain ⟨k, h1, h2⟩ := hI; exact hlt _ _ h2
    refine backF_in (fun j i => us.getD (j * 5 + i) undef) F n hf hro hn l Bs b off rows.length cap hreach J Jx (fun k W1 hk hj => ?_) W ((hW.cell (p := ⟨Bs, 0, none⟩) hBl).trans hBs) (fun j hj i hi => ?_) h0
    · have := hY k W1 hk hj
      have hlen : (rows.length - 1 - k) * 5 + 5 ≤ us.length := by rw [hl, ← Nat.succ_mul]; exact Nat.mul_le_mul_right _ (by omega)
      have e : ((us.drop ((rows.length - 1 - k) * 5)).take 5) = [us.getD ((rows.length - 1 - k) * 5 + 0) undef, us.getD ((rows.length - 1 - k) * 5 + 1) undef, us.getD ((rows.length - 1 - k) * 5 + 2) undef, us.getD ((rows.length - 1 - k) * 5 + 3) undef, us.getD ((rows.length - 1 - k) * 5 + 4) undef] := by
        apply List.ext_getElem?
        intro i
        rw [List.getElem?_take]
        split
        · rename_i hi
          rw [List.getElem?_drop]
          have h3 : (rows.length - 1 - k) * 5 + i < us.length := by omega
          have hu : ∀ j, (rows.length - 1 - k) * 5 + j < us.length → us[(rows.length - 1 - k) * 5 + j]? = some (us.getD ((rows.length - 1 - k) * 5 + j) undef) := fun j hj => by rw [List.getD_eq_getElem?_getD, List.getElem?_eq_getElem hj]; rfl
          rw [hu i h3]
          match i, hi with
          | 0, _ => rfl
           | 1, _ => rfl
           | 2, _ => rfl
           | 3, _ => rfl
           | 4, _ => rfl
          
        · rename_i hi
          rw [List.getElem?_eq_none (by simp; omega)]
      dsimp only at this
      rw [e] at this
      exact this
    · refine (hW.cell (p := ⟨b, off + (j * 5 + i), none⟩) hbl).trans ?_
      have h3 : j * 5 + i < us.length := by
        have h4 : j * 5 + 5 ≤ rows.length * 5 := by rw [← Nat.succ_mul]; exact Nat.mul_le_mul_right _ (by omega)
        omega
      have := hc (j * 5 + i) _ (List.getElem?_eq_getElem h3)
      rw [this, List.getD_eq_getElem?_getD, List.getElem?_eq_getElem h3]
      rfl
end Go.Proofs.Ytclehkgnacekkaa.Vm
end
section
namespace Go.Proofs.Ytclehkgnacekkaa.Vm
open Go.RowKit
section
variable {I0 : Nat → Nat → Prop} {X : Nat → Prop} {w0 : W0} {I : Nat → Nat → Prop} {g : Nat → Value} {s : S} {a : Act} {w : World}
def other : Obj → Bool
  | .cells _ _ _ => false
  | .map _ _ => false
  | _ => true
theorem keeps_turn {L : Nat} {o : Obj} (hI : ∀ k, ¬ I L k) : Keeps I w (w.putObj L o) := fun b k hb i hi => by
  have hne : b ≠ L := fun e => hI k (e ▸ hb)
  show (match (w.putObj L o).heap[b]? with | some (.cells c _ _) => c[i]? | _ => none) = _
  rw [World.putObj_heap_other hne]
  rfl
theorem blk_turn {L : Nat} {y : Obj} (hl : w.heap[L]? = some y) (hy : other y = true) {k : Nat} {o : O} (h : ObjAt X w0 I w g k o) (hd : o ≠ .dead) : ¬ gbl (g k) L := fun hg => by
  cases o with
  | dead => exact hd rfl
  | box cs =>
    obtain ⟨b, us, t, h1, h2, _⟩ := h
    rw [h1] at hg
    obtain rfl : b = L := hg
    rw [hl] at h2
    rw [Option.some.inj h2] at hy
    cases hy
  | row z e rows =>
    obtain ⟨us, h1, _⟩ := h
    rcases h1.2 with ⟨e0, _⟩ | ⟨g', cap, cur, e0, _, hh, _⟩
    · rw [e0] at hg; exact hg.elim
    · rw [e0] at hg
      have hg : g' = L := hg
      subst hg
      rw [hl] at hh
      rw [Option.some.inj hh] at hy
      cases hy
  | mp kt es =>
    obtain ⟨b, l, c, h1, h2, _⟩ := h
    rw [h1] at hg
    obtain rfl : b = L := hg
    rw [hl] at h2
    rw [Option.some.inj h2] at hy
    cases hy
  | it P =>
    obtain ⟨A, n, cap, F, h1, h2, h3, h4⟩ := h
    rw [h1, gbl_pack] at hg
    obtain ⟨c, t, h5⟩ := (h4 L hg).1
    rw [hl] at h5
    rw [Option.some.inj h5] at hy
    cases hy
  | kl ks =>
    obtain ⟨us, h1, _⟩ := h
    rw [h1] at hg
    exact hg.elim
theorem obj_turn {L : Nat} {y y' : Obj} (hl : w.heap[L]? = some y) (hy : other y = true) (hI : ∀ k, ¬ I L k) {k : Nat} {o : O} (h : ObjAt X w0 I w g k o) : ObjAt X w0 I (w.putObj L y') g k o := by
  cases hd : o with
  | dead => exact True.intro
  | _ =>
    rw [hd] at h
    exact h.keep (fun _ _ h => h) (keeps_turn hI) (fun b hb => World.putObj_heap_other fun e => blk_turn hl hy h (by simp) (e ▸ hb)) (fun b hb h' hh => hh)
theorem RelI.turned (h : RelI I0 X w0 I g s a w) {L : Nat} {y y' : Obj} (hl : w.heap[L]? = some y) (hy : other y = true) (h0 : w0.w.heap.size ≤ L) (hI : ∀ k, ¬ I L k) : RelI I0 X w0 I g s a (w.putObj L y') := by
  have hk := keeps_turn (w := w) (o := y') hI
  refine ⟨h.im, fun b k hb => ⟨?_, (h.lt b k hb).2⟩, ⟨h.fr.os, h.fr.tape, h.fr.output, ?_, fun b hb hX => (World.putObj_heap_other (by omega)).trans (h.fr.block b hb hX)⟩, h.kp.trans fun b k hb i hi => hk b k (h.im b k hb) i hi, h.lo, h.st, fun k o ho => obj_turn hl hy hI (h.obj k o ho), h.dis, h.out, h.tmp.mono (fun _ _ h => h) hk, h.dfr⟩
  · have := (h.lt b k hb).1; simpa using this
  · have := h.fr.size; simpa using this
end
section
variable {I0 : Nat → Nat → Prop} {X : Nat → Prop} {w0 : W0} {I : Nat → Nat → Prop} {g : Nat → Value} {s : S} {a : Act} {w : World}
theorem RelI.turnBoth (h : RelI I0 X w0 I g s a w) {L : Nat} {y y0 y' : Obj} (hl : w.heap[L]? = some y) (hy : other y = true) (hl0 : w0.w.heap[L]? = some y0) (hI : ∀ k, ¬ I L k) : RelI I0 X ⟨w0.w.putObj L y', w0.g, w0.n, w0.d⟩ I g s a (w.putObj L y') := by
  have hk := keeps_turn (w := w) (o := y') hI
  have hk0 := keeps_turn (w := w0.w) (o := y') (I := I0) (fun k hk => hI k (h.im L k hk))
  have hM : ∀ b, Mine X w0 b → Mine X ⟨w0.w.putObj L y', w0.g, w0.n, w0.d⟩ b := fun b hb => by
    rcases hb with hb | hb
    · exact .inl (by simpa using hb)
    · exact .inr hb
  refine ⟨h.im, fun b k hb => ⟨?_, fun hlt => (h.lt b k hb).2 (by simpa using hlt)⟩, ⟨h.fr.os, h.fr.tape, h.fr.output, ?_, fun b hb hX => ?_⟩, ?_, h.lo, h.st, fun k o ho => ?_, h.dis, h.out, h.tmp.mono (fun _ _ h => h) hk, h.dfr⟩
  · have := (h.lt b k hb).1; simpa using this
  · have := h.fr.size; simpa using this
  · by_cases e : b = L
    · subst e
      rw [World.putObj_heap_same (Array.getElem?_eq_some_iff.1 hl).1, World.putObj_heap_same (Array.getElem?_eq_some_iff.1 hl0).1]
    · rw [World.putObj_heap_other e, World.putObj_heap_other e]
      exact h.fr.block b (by simpa using hb) hX
  · intro b k hb i hi
    exact ((hk b k (h.im b k hb) i hi).trans (h.kp b k hb i hi)).trans (hk0 b k hb i hi).symm
  · have := obj_turn (y' := y') hl hy hI (h.obj k o ho)
    cases o with
    | dead => exact True.intro
    | box cs => obtain ⟨b, us, t, h1, h2, h3, h4, h5, h6⟩ := this; exact ⟨b, us, t, h1, h2, h3, h4, h5, hM b h6⟩
    | mp kt es => obtain ⟨b, l, c, h1, h2, h3, h4, h6⟩ := this; exact ⟨b, l, c, h1, h2, h3, h4, hM b h6⟩
    | it P => obtain ⟨A, n, cap, F, h1, h2, h3, h4⟩ := this; exact ⟨A, n, cap, F, h1, h2, h3, fun b hb => ⟨(h4 b hb).1, (h4 b hb).2.1, hM b (h4 b hb).2.2⟩⟩
    | kl ks => exact this
    | row z e rows => obtain ⟨us, h1, h2, h3, h4⟩ := this; exact ⟨us, h1, h2, h3, fun b hb => ⟨(h4 b hb).1, (h4 b hb).2.1, hM b (h4 b hb).2.2⟩⟩
theorem keepsFrom_of {B : Nat} {g' : Nat → Value} {os : List O} {nn : Nat} {d : List Deferred} {I2 : Nat → Nat → Prop} {g2 : Nat → Value} {s2 : S} {a2 : Act} {w2 : World} (h : ∀ k o, os[k]? = some o → ObjAt X w0 I w g' k o) (hmp : ∀ j kt es b, os[j]? = some (.mp kt es) → gbl (g' j) b → b < B)
    (h2 : RelI I (Xof g' os) ⟨w, g', nn, d⟩ I2 g2 s2 a2 w2) : KeepsFrom B w w2 := by
  refine ⟨h2.fr.size, fun k o hk ho hc => (h2.fr.block k (Array.getElem?_eq_some_iff.1 ho).1 fun ⟨j, x, hj, hd, hb⟩ => ?_).trans ho⟩
  have hob := h j x hj
  cases x with
  | dead => exact hd rfl
  | box cs =>
    obtain ⟨b, us, t, h1, h2, _⟩ := hob
    rw [h1] at hb
    obtain rfl : b = k := hb
    rw [ho] at h2
    injection h2 with h2
    rw [h2] at hc
    cases hc
  | row z e rows =>
    obtain ⟨us, h1, _⟩ := hob
    rcases h1.2 with ⟨e0, _⟩ | ⟨g3, cap, cur, e0, _, hh, _⟩
    · rw [e0] at hb; exact hb.elim
    · rw [e0] at hb
      have hb : g3 = k := hb
      subst hb
      rw [ho] at hh
      injection hh with hh
      rw [hh] at hc
      cases hc
  | mp kt es => have := hmp j kt es k hj hb; omega
  | it P =>
    obtain ⟨A, n, cap, F, h1, h2, h3, h4⟩ := hob
    rw [h1, gbl_pack] at hb
    obtain ⟨c, t, h5⟩ := (h4 k hb).1
    rw [ho] at h5
    injection h5 with h5
    rw [h5] at hc
    cases hc
  | kl ks =>
    obtain ⟨us, h1, _⟩ := hob
    rw [h1] at hb
    exact hb.elim
end
def isMp : O → Bool
  | .mp _ _ => true
  | _ => false
def mpSub : List O → List O → Bool
  | _, [] => true
  | [], o :: l => match isMp o with | true => false | false => mpSub [] l
  | x :: k, o :: l => match isMp o with | true => (match isMp x with | true => mpSub k l | false => false) | false => mpSub k l
theorem isMp_at {o : O} (h : isMp o = true) : ∃ kt es, o = .mp kt es := by
  cases o with
  | mp kt es => exact ⟨kt, es, rfl⟩
  | _ => cases h
theorem mpSub_at : ∀ {k l : List O} {j : Nat} {kt : Nat} {es : List (R × R)}, mpSub k l = true → l[j]? = some (.mp kt es) → ∃ kt' es', k[j]? = some (.mp kt' es')
  | _, [], j, _, _, _, h => by simp at h
  | [], o :: l, j, kt, es, hs, h => by
    simp only [mpSub] at hs
    cases ho : isMp o with
    | true => rw [ho] at hs; cases hs
    | false =>
      rw [ho] at hs
      cases j with
      | zero => simp at h; subst h; cases ho
      | succ j =>
        obtain ⟨a, b, hx⟩ := mpSub_at hs (show l[j]? = _ by simpa using h)
        simp at hx
  | x :: k, o :: l, j, kt, es, hs, h => by
    simp only [mpSub] at hs
    cases j with
    | zero =>
      simp at h
      subst h
      cases hx : isMp x with
      | true => obtain ⟨a, b, rfl⟩ := isMp_at hx; exact ⟨a, b, rfl⟩
      | false => rw [hx] at hs; cases hs
    | succ j =>
      have hs' : mpSub k l = true := by
        cases ho : isMp o with
        | true =>
          rw [ho] at hs
          cases hx : isMp x with
          | true => rw [hx] at hs; exact hs
          | false => rw [hx] at hs; cases hs
        | false => rw [ho] at hs; exact hs
      obtain ⟨a, b, hx⟩ := mpSub_at hs' (show l[j]? = _ by simpa using h)
      exact ⟨a, b, by simpa using hx⟩
def roundF (ks1 ks2 : List Nat) (n : Nat) (o o' : List O) (m : Nat) (s2 : S) : Prop := getO s2.o m = .kl ks1 ∧ getO s2.o n = .kl ks2 ∧ takeO n s2.o = o' ∧ lowO n o' = true ∧ mpSub o o' = true
def roundE (n : Nat) (o o' : List O) (m : Nat) (s2 : S) : Prop := getO s2.o m = .kl [] ∧ getO s2.o n = .kl [] ∧ takeO n s2.o = o' ∧ lowO n o' = true ∧ mpSub o o' = true
def roundS (ks1 ks2 : List Nat) (asg bdy : Code) (tk : List V) (o o' : List O) : Prop :=
  exec real asg ⟨tk, snocO o (.kl [])⟩ (fun x s1 => x = .normal ∧ mpSub o s1.o = true ∧ exec real bdy ⟨s1.t, snocO s1.o (.kl [])⟩ (fun x s2 => x = .normal ∧ roundF ks1 ks2 (lenO o) o o' (lenO s1.o) s2))
def roundR (asg bdy : Code) (tk : List V) (o o' : List O) : Prop :=
  exec real asg ⟨tk, snocO o (.kl [])⟩ (fun x s1 => x = .normal ∧ mpSub o s1.o = true ∧ exec real bdy ⟨s1.t, snocO s1.o (.kl [])⟩ (fun x s2 => x = .normal ∧ roundE (lenO o) o o' (lenO s1.o) s2))
section
variable {I0 : Nat → Nat → Prop} {X : Nat → Prop} {w0 : W0} {I : Nat → Nat → Prop} {g : Nat → Value} {t : List V} {o : List O} {a : Act} {W : World}
def Between (I0 : Nat → Nat → Prop) (X : Nat → Prop) (w0 : W0) (I : Nat → Nat → Prop) (L B : Nat) (t : List V) (a : Act) (o : List O) (W : World) : Prop :=
  ∃ I' g', (∀ b k, I b k → I' b k) ∧ (∀ k, ¬ I' L k ∧ ¬ I' B k) ∧ RelI I0 X w0 I' g' ⟨t, o⟩ a W ∧ ∀ j kt es b, o[j]? = some (.mp kt es) → gbl (g' j) b → b < B
theorem round_in {asg bdy : Code} {ro : Option Nat} {n L B : Nat} {r : Loop} {us : List Value} {tk : List V} {o' : List O} {ks1 ks2 : List Nat} (hA : okCode Try.prog asg = true) (hB : okCode Try.prog bdy = true)
    (h : RelI I0 X w0 I g ⟨t, o⟩ a W) (hL : W.heap[L]? = some (.loop r)) {dd : Option (List Deferred)} (hD : W.heap[B]? = some (.deferred dd)) (hL0 : w0.w.heap.size ≤ L) (hI2 : ∀ k, ¬ I L k ∧ ¬ I B k) (hmp : ∀ j kt es b, o[j]? = some (.mp kt es) → gbl (g j) b → b < B) (hv : AtVs I W g us tk) (ht : killTs ks2 t = t) (hx : roundS ks1 ks2 asg bdy tk o o') :
    asg.wpIn (FW ro) n Try.prog (Exit.then (fun a' W1 => KeepsFrom B W W1 ∧ Keeps I W W1 ∧ ∃ R : World → Prop, Turns L R ∧ R W1 ∧ ∀ W2, R W2 → bdy.wpIn (FW ro) n Try.prog (roundQ B (Keeps I) (Between I0 X w0 I L B t a o') (fun _ _ => False) W2) a' W2) (fun _ _ _ => False)) { tmps := us.toArray, defers := [] } W := by
  obtain ⟨g', hg, hgn, h1⟩ := h.rebase hv
  have hLt : L < W.heap.size := (Array.getElem?_eq_some_iff.1 hL).1
  have hDt : B < W.heap.size := (Array.getElem?_eq_some_iff.1 hD).1
  have hIL : ∀ k, ¬ I L k := fun k => (hI2 k).1
  have hmp1 : ∀ j kt es b, (snocO o (.kl []))[j]? = some (.mp kt es) → gbl (g' j) b → b < B := fun j kt es b hj hb => by
    rw [snocO_is] at hj
    have hlt : j < o.length := by
      have := (List.getElem?_eq_some_iff.1 hj).1
      rw [List.length_append, List.length_singleton] at this
      rcases Nat.lt_or_ge j o.length with h | h
      · exact h
      · have : j = o.length := by omega
        subst this
        simp at hj
    rw [List.getElem?_append_left hlt] at hj
    rw [hg j hlt] at hb
    exact hmp j kt es b hj hb
  have hXL : ¬ Xof g' (snocO o (.kl [])) L := fun ⟨j, x, hj, hd, hb⟩ => blk_turn hL rfl (h1.obj j x hj) hd hb
  have hXD : ¬ Xof g' (snocO o (.kl [])) B := fun ⟨j, x, hj, hd, hb⟩ => blk_turn hD rfl (h1.obj j x hj) hd hb
  refine exec_in asg _ _ _ _ _ hA ⟨I, g', h1⟩ hx fun e s1 a' W1 hr hk => ?_
  obtain ⟨he, hms, hx2⟩ := hk
  subst he
  obtain ⟨I1, g1, h1a⟩ := hr
  have hI1L : ∀ k, ¬ I1 L k := fun k hk => by
    rcases (h1a.lt L k hk).2 hLt with h2 | h2
    · exact hIL k h2
    · exact hXL h2
  have hI1D : ∀ k, ¬ I1 B k := fun k hk => by
    rcases (h1a.lt B k hk).2 hDt with h2 | h2
    · exact (hI2 k).2 h2
    · exact hXD h2
  have hmp2 : ∀ j kt es b, s1.o[j]? = some (.mp kt es) → gbl (g1 j) b → b < B := fun j kt es b hj hb => by
    obtain ⟨kt', es', ho⟩ := mpSub_at hms hj
    have hlt := (List.getElem?_eq_some_iff.1 ho).1
    obtain ⟨b0, l0, c0, e0, _⟩ := h.obj j _ ho
    have e1 := hg j hlt
    rw [e0] at e1
    have e2 := h1a.st j (Nat.lt_succ_of_lt hlt) (by show isRef (g' j) = true; rw [e1]; rfl)
    have e2 : g1 j = g' j := e2
    rw [e2, e1] at hb
    exact hmp j kt' es' b ho (by rw [e0]; exact hb)
  refine ⟨keepsFrom_of h1.obj hmp1 h1a, h1a.kp, fun W2 => ∃ (Wb : World) (rb r2 : Loop), RelI I0 X w0 I g ⟨t, o⟩ a Wb ∧ Wb.heap[L]? = some (.loop rb) ∧ W2.heap[L]? = some (.loop r2) ∧ (B ≠ L → W2.heap[B]? = some (.deferred dd)) ∧ RelI I (Xof g' (snocO o (.kl []))) ⟨Wb, g', o.length + 1, []⟩ I1 g1 s1 a' W2, ?_, ?_, ?_⟩
  · rintro W2 r3 r' ⟨Wb, rb, r2, b1, b2, b3, bd, b4⟩ hl
    exact ⟨Wb.putObj L (.loop r'), r', r', b1.turned b2 rfl hL0 hIL, World.putObj_heap_same (Array.getElem?_eq_some_iff.1 b2).1, World.putObj_heap_same (Array.getElem?_eq_some_iff.1 b3).1, fun hne => (World.putObj_heap_other hne).trans (bd hne), b4.turnBoth hl rfl b2 hI1L⟩
  · exact ⟨W, r, r, h, hL, (h1a.fr.block L hLt hXL).trans hL, fun _ => (h1a.fr.block B hDt hXD).trans hD, h1a⟩
  · rintro W2 ⟨Wb, rb, r2, b1, b2, b3, bd, b4⟩
    have hne : B ≠ L := fun e => by rw [e, hL] at hD; cases hD
    have bd := bd hne
    obtain ⟨g3, hg3, hgn3, h5⟩ := b4.rebase b4.tmp
    have ea : ({ tmps := a'.tmps.toList.toArray, defers := [] } : Act) = a' := by
      have := b4.dfr
      cases a'
      simp only at this
      subst this
      rfl
    rw [ea] at h5
    have hmp3 : ∀ j kt es b, (snocO s1.o (.kl []))[j]? = some (.mp kt es) → gbl (g3 j) b → b < B := fun j kt es b hj hb => by
      rw [snocO_is] at hj
      have hlt : j < s1.o.length := by
        have := (List.getElem?_eq_some_iff.1 hj).1
        rw [List.length_append, List.length_singleton] at this
        rcases Nat.lt_or_ge j s1.o.length with h | h
        · exact h
        · have : j = s1.o.length := by omega
          subst this
          simp at hj
      rw [List.getElem?_append_left hlt] at hj
      rw [hg3 j hlt] at hb
      exact hmp2 j kt es b hj hb
    refine exec_in bdy _ _ _ _ _ hB ⟨I1, g3, h5⟩ hx2 fun e s2 a3 W3 hr hk => ?_
    obtain ⟨he, k1, k2, k3, k4, k5⟩ := hk
    subst he
    obtain ⟨I2, g2, h6⟩ := hr
    have hlo : o.length + 1 ≤ s1.o.length := h1a.lo
    have k1 := getO_some k1 (by simp)
    have k2 := getO_some k2 (by simp)
    rw [lenO_is] at k1 k2 k3 k4
    rw [takeO_is] at k3
    obtain ⟨_, h7⟩ := b4.unbase hg3 hgn3 h6 k1
    obtain ⟨hcut, h8⟩ := b1.unbase hg hgn h7 (ks := ks2) (by rw [List.getElem?_set_ne (by show s1.o.length ≠ o.length; omega)]; exact k2)
    have e3 : ((s2.o.set s1.o.length .dead).set o.length .dead).take o.length = o' := by
      rw [List.take_set_of_le (Nat.le_refl _), List.take_set_of_le (by omega), k3]
    have hl2 : o.length < s2.o.length := (List.getElem?_eq_some_iff.1 k2).1
    have h9 := h8.trim (n := o.length) h.lo (by show o.length ≤ ((s2.o.set _ _).set _ _).length; rw [List.length_set, List.length_set]; omega) hcut (by show lowO _ (((s2.o.set _ _).set _ _).take _) = true; rw [e3]; exact k4)
    have e4 : (⟨killTs ks2 t, ((s2.o.set s1.o.length .dead).set o.length .dead).take o.length⟩ : S) = ⟨t, o'⟩ := by rw [e3, ht]
    have h9' : RelI I0 X w0 I2 (cutG o.length g2) ⟨t, o'⟩ a W3 := by rw [← e4]; exact h9
    refine ⟨keepsFrom_of h5.obj hmp3 h6, fun b k hb => h6.kp b k (h1a.im b k hb), I2, cutG o.length g2, h7.im, fun k => ?_, h9', fun j kt es b hj hb => ?_⟩
    · constructor
      · intro hk
        rcases (h6.lt L k hk).2 (Array.getElem?_eq_some_iff.1 b3).1 with h2 | ⟨j, x, hj, hd, hb⟩
        · exact hI1L k h2
        · exact blk_turn b3 rfl (h5.obj j x hj) hd hb
      · intro hk
        rcases (h6.lt B k hk).2 (Array.getElem?_eq_some_iff.1 bd).1 with h2 | ⟨j, x, hj, hd, hb⟩
        · exact hI1D k h2
        · exact blk_turn bd rfl (h5.obj j x hj) hd hb
    · obtain ⟨kt', es', ho⟩ := mpSub_at k5 hj
      have hlt := (List.getElem?_eq_some_iff.1 ho).1
      obtain ⟨b0, l0, c0, e0, _⟩ := h.obj j _ ho
      have e1 := hg j hlt
      rw [e0] at e1
      have e2 : g2 j = g' j := h7.st j (Nat.lt_succ_of_lt hlt) (by show isRef (g' j) = true; rw [e1]; rfl)
      rw [show cutG o.length g2 j = g2 j from if_pos hlt, e2, e1] at hb
      exact hmp j kt' es' b ho (by rw [e0]; exact hb)
end
theorem live_dead {s : S} {k i : Nat} (h : live ⟨s.t, s.o.set k .dead⟩ i) : live s i := by
  obtain ⟨o, ho, hd⟩ := h
  by_cases e : k = i
  · subst e
    rw [List.getElem?_set] at ho
    split at ho
    · split at ho
      · exact absurd (Option.some.inj ho).symm hd
      · cases ho
    · exact absurd rfl ‹¬_›
  · exact ⟨o, by simpa [List.getElem?_set_ne e] using ho, hd⟩
section
variable {I0 : Nat → Nat → Prop} {X : Nat → Prop} {w0 : W0} {I : Nat → Nat → Prop} {g : Nat → Value} {s : S} {a : Act} {w : World}
theorem RelI.frzBox (h : RelI I0 X w0 I g s a w) {k : Nat} {cs : List V} (hk : s.o[k]? = some (.box cs)) : ∃ (b : Nat) (us : List Value) (t : TypeId × List Value), g k = .pointer (some ⟨b, 0, none⟩) ∧ w.heap[b]? = some (.cells (us ++ t.2).toArray t.1 (0, 0)) ∧ AtVs I w g us cs ∧
    RelI I0 X w0 (fun b' n => I b' n ∨ (b' = b ∧ n ≤ us.length)) g ⟨s.t, s.o.set k .dead⟩ a w := by
  obtain ⟨b, us, t, h1, h2, h3, h4, h5, h6⟩ := h.obj k _ hk
  have hlk : live s k := ⟨_, hk, by simp⟩
  have hgk : gbl (g k) b := by rw [h1]; rfl
  have hkp : Keeps I w w := Keeps.refl I w
  refine ⟨b, us, t, h1, h2, h3, fun b n hb => .inl (h.im b n hb), fun b' n hb => ?_, h.fr, h.kp, by simpa using h.lo, h.st, fun j o hj => ?_, fun i j b hi hj => h.dis i j b (live_dead hi) (live_dead hj), fun j hj => h.out j (by simpa using hj), h.tmp.mono (fun _ _ h => .inl h) hkp, h.dfr⟩
  · rcases hb with hb | ⟨rfl, _⟩
    · exact h.lt b' n hb
    · refine ⟨(Array.getElem?_eq_some_iff.1 h2).1, fun hlt => .inr ?_⟩
      rcases h6 with hM | hM
      · omega
      · exact hM
  · by_cases hjk : k = j
    · subst hjk
      have hlt : k < s.o.length := (List.getElem?_eq_some_iff.1 hk).1
      simp only [List.getElem?_set_self hlt] at hj
      injection hj with hj
      subst hj
      exact True.intro
    · simp only [List.getElem?_set_ne hjk] at hj
      by_cases hd : o = .dead
      · subst hd; exact True.intro
      refine (h.obj j o hj).keep (fun _ _ h => .inl h) hkp (fun _ _ => rfl) fun b' hb n hn => ?_
      rcases hn with hn | ⟨rfl, _⟩
      · exact hn
      · exact absurd (h.dis k j b' hlk ⟨o, hj, hd⟩ hgk hb) hjk
end
section
variable {I0 : Nat → Nat → Prop} {X : Nat → Prop} {w0 : W0} {I : Nat → Nat → Prop} {g : Nat → Value} {t : List V} {a : Act} {w : World}
theorem Between.turned {L B : Nat} {o : List O} (h0 : w0.w.heap.size ≤ L) : Turns L (Between I0 X w0 I L B t a o) := by
  rintro W r r' ⟨I', g', h1, h2, h3, h4⟩ hl
  exact ⟨I', g', h1, h2, h3.turned hl rfl h0 (fun k => (h2 k).1), h4⟩
theorem range_go {asg bdy : Code} {n : Nat} {g0 : Operand} {p1 p2 gf N : Nat} {lb : Array Value} {u1 u2 : Nat → Value} {Kp : World → World → Prop} {st : Nat → List O} {tk : Nat → List V} {Q : Exit → Act → World → Prop} {ks1 ks2 : List Nat} (hA : okCode Try.prog asg = true) (hB : okCode Try.prog bdy = true)
    (h : RelI I0 X w0 I g ⟨t, st 0⟩ a w) (h1 : 1 ≤ n) (hg : a.eval g0 = .func (.func gf) #[] lb) (eg : ∀ args w, (callFunc gf args).run Try.prog w = .ok (.enter gf args) w)
    (hseq : SeqN (FW none) (n - 1) Try.prog gf lb (fun k => #[u1 k, u2 k]) Kp N w) (hKt : ∀ {A B C : World}, Kp A B → Kp B C → Kp A C) (hKb : ∀ (W : World) (l : Nat) (o o' : Obj), w.heap.size ≤ l → W.heap[l]? = some o → o.isCells = false → o.isWalk = false → Kp W (W.putObj l o')) (hKp : ∀ W W', Keeps I W W' → Kp W W')
    (hv : ∀ k W I' g', k < N → (∀ b j, I b j → I' b j) → Keeps I w W → AtVs I' W g' a.tmps.toList t → AtVs I' W g' ((a.tmps.setIfInBounds p1 (u1 k)).setIfInBounds p2 (u2 k)).toList (tk k))
    (ht : killTs ks2 t = t) (hx : ∀ k, k < N → roundS ks1 ks2 asg bdy (tk k) (st k) (st (k + 1)))
    (hQ : ∀ (D : Nat) (W : World), D = w.heap.size → Between I0 X w0 I (w.heap.size + 1) w.heap.size t a (st N) W → W.heap[D]? = some (.deferred (some [])) → Q .normal { a with defers := { target := .collected D, args := #[] } :: a.defers } W) :
    (Code.rangeFunc g0 #[p1, p2] asg bdy).wpIn (FW none) n Try.prog Q a w := by
  obtain ⟨L, hL⟩ : ∃ L, L = w.heap.size + 1 := ⟨_, rfl⟩
  have hL0 : w0.w.heap.size ≤ L := by have := h.fr.size; omega
  have hIL : ∀ k, ¬ I L k ∧ ¬ I w.heap.size k := fun k => ⟨fun hk => by have := (h.lt L k hk).1; omega, fun hk => by have := (h.lt _ k hk).1; omega⟩
  have hIL1 : ∀ k, ¬ I L k := fun k => (hIL k).1
  refine range_k (F := FW none) rfl h1 hg trivial eg hseq hKt hKb (fun _ => rfl) (fun k W => Between I0 X w0 I L w.heap.size t a (st k) W ∧ Keeps I w W) (fun _ _ => False) (fun k W r r' hw hl => ?_) (fun _ _ _ _ hw _ => hw) (fun r => ?_) (fun l k W hk hw hl => ?_) (fun D W hD hw hd => ?_) (fun _ _ _ _ hw _ => hw.elim)
  · rw [← hL] at hl ⊢
    exact ⟨Between.turned hL0 W r r' hw.1 hl, hw.2.trans (keeps_turn hIL1)⟩
  · have hbel : Below w.heap.size w ((w.alloc (.deferred (some []))).alloc (.loop r)) := ((Below.refl _ w).alloc (Nat.le_refl _) _).alloc (by simp) _
    refine ⟨⟨I, g, fun _ _ h => h, hIL, h.grow hbel (fun _ _ h => h) (fun _ _ h => .inl h), fun j kt es b hj hb => ((h.obj j _ hj).blk (by simp) b hb).1⟩, fun b j hb i _ => hbel.cell (p := ⟨b, i, none⟩) (h.lt b j hb).1⟩
  · obtain ⟨⟨I', g', h2, h3, h4, h5⟩, hk2⟩ := hw
    obtain ⟨⟨r, hl⟩, hdd⟩ := hl
    rw [← hL] at hl
    have key := round_in (ro := some l) (n := n - 1 - 1) hA hB h4 hl hdd hL0 h3 h5 (hv k W I' g' hk h2 hk2 h4.tmp) ht (hx k hk)
    have ez : (#[p1, p2].zip #[u1 k, u2 k]).foldl (fun t (x : Tmp × Value) => match x with | (p, v) => t.setIfInBounds p v) a.tmps = (a.tmps.setIfInBounds p1 (u1 k)).setIfInBounds p2 (u2 k) := by simp
    rw [Array.toArray_toList, ← ez] at key
    refine wpIn_mono key fun e a' W1 he => ?_
    cases e with
    | normal =>
      obtain ⟨e1, e2, R, e3, e4, e5⟩ := he
      have hkI : ∀ {A B : World}, Keeps I' A B → Keeps I A B := fun h b j hb => h b j (h2 b j hb)
      refine ⟨e1, hKp _ _ (hkI e2), fun W2 => R W2 ∧ Keeps I w W2, ?_, ⟨e4, hk2.trans (hkI e2)⟩, ?_⟩
      · rintro W2 r1 r2 ⟨f1, f2⟩ hl2
        rw [← hL] at hl2 ⊢
        exact ⟨e3 W2 r1 r2 f1 hl2, f2.trans (keeps_turn hIL1)⟩
      · rintro W2 ⟨f1, f2⟩
        refine wpIn_mono (e5 W2 f1) fun e a3 W3 he => ?_
        cases e with
        | normal =>
          obtain ⟨q1, q2, I2, g2, q3, q4, q5, q6⟩ := he
          exact ⟨q1, hKp _ _ (hkI q2), ⟨I2, g2, fun b j hb => q3 b j (h2 b j hb), q4, q5, q6⟩, f2.trans (hkI q2)⟩
        | ret => exact he
        | exit i => exact he
        | goto t => exact he
        | panic c => exact he
        | outgrown => exact he
    | ret => exact he.elim
    | exit i => exact he.elim
    | goto t => exact he.elim
    | panic c => exact he.elim
    | outgrown => exact he.elim
  · rw [hL] at hw
    exact hQ D W hD hw.1 hd
theorem range_ok {asg bdy : Code} {n : Nat} {g0 : Operand} {p1 p2 gf N : Nat} {lb : Array Value} {u1 u2 : Nat → Value} {Kp : World → World → Prop} {st : Nat → List O} {tk : Nat → List V} {Q : Exit → Act → World → Prop} (hA : okCode Try.prog asg = true) (hB : okCode Try.prog bdy = true)
    (h : RelI I0 X w0 I g ⟨t, st 0⟩ a w) (h1 : 1 ≤ n) (hg : a.eval g0 = .func (.func gf) #[] lb) (eg : ∀ args w, (callFunc gf args).run Try.prog w = .ok (.enter gf args) w)
    (hseq : SeqN (FW none) (n - 1) Try.prog gf lb (fun k => #[u1 k, u2 k]) Kp N w) (hKt : ∀ {A B C : World}, Kp A B → Kp B C → Kp A C) (hKb : ∀ (W : World) (l : Nat) (o o' : Obj), w.heap.size ≤ l → W.heap[l]? = some o → o.isCells = false → o.isWalk = false → Kp W (W.putObj l o')) (hKp : ∀ W W', Keeps I W W' → Kp W W')
    (hv : ∀ k W I' g', k < N → (∀ b j, I b j → I' b j) → Keeps I w W → AtVs I' W g' a.tmps.toList t → AtVs I' W g' ((a.tmps.setIfInBounds p1 (u1 k)).setIfInBounds p2 (u2 k)).toList (tk k))
    (hx : ∀ k, k < N → roundR asg bdy (tk k) (st k) (st (k + 1)))
    (hQ : ∀ (D : Nat) (W : World), D = w.heap.size → Between I0 X w0 I (w.heap.size + 1) w.heap.size t a (st N) W → W.heap[D]? = some (.deferred (some [])) → Q .normal { a with defers := { target := .collected D, args := #[] } :: a.defers } W) :
    (Code.rangeFunc g0 #[p1, p2] asg bdy).wpIn (FW none) n Try.prog Q a w :=
  range_go (ks1 := []) (ks2 := []) hA hB h h1 hg eg hseq hKt hKb hKp hv rfl hx hQ
end
section
variable {I0 : Nat → Nat → Prop} {X : Nat → Prop} {w0 : W0} {I : Nat → Nat → Prop} {g : Nat → Value} {s : S} {a : Act} {w : World}
theorem RelI.mark (h : RelI I0 X w0 I g s a w) (d : List Deferred) : RelI I0 X ⟨w0.w, w0.g, w0.n, d⟩ I g s { a with defers := d } w :=
  ⟨h.im, h.lt, h.fr, h.kp, h.lo, h.st, h.obj, h.dis, h.out, h.tmp, rfl⟩
end
def endK (l : List ResultVar) (q : List R) (m : Nat) : Vm.X → S → Prop
  | .exit _, _ => False
  | _, s => getO s.o m = .kl [] ∧ resS real s l q
theorem ends_spec {c2 : Code} {n D : Nat} {fn : Func} {q : List R} {w : World} {I IN : Nat → Nat → Prop} {gN : Nat → Value} {t : List V} {oN : List O} {a : Act} {W : World} (hc : okCode Try.prog c2 = true) (hr : okRes fn.results.toList = true)
    (h : RelI I (fun _ => False) ⟨w, fun _ => .nilFunc, 0, []⟩ IN gN ⟨t, oN⟩ a W) (hID : ∀ k, ¬ IN D k) (hD0 : w.heap.size ≤ D) (hD : W.heap[D]? = some (.deferred (some [])))
    (hx : exec real c2 ⟨t, snocO oN (.kl [])⟩ (fun x s => endK fn.results.toList q (lenO oN) x s)) :
    c2.wpIn (FW none) n Try.prog (bodyPostM (FW none) n Try.prog fn (fun e w' => ∃ v, e = .returned v ∧ AtRes (nxt I w w') w' v q ∧ Below w.heap.size w w')) { a with defers := { target := .collected D, args := #[] } :: a.defers } W := by
  obtain ⟨g', hg, hgn, h1⟩ := h.rebase h.tmp
  have hDt : D < W.heap.size := (Array.getElem?_eq_some_iff.1 hD).1
  have hXD : ¬ Xof g' (snocO oN (.kl [])) D := fun ⟨j, x, hj, hd, hb⟩ => blk_turn hD rfl (h1.obj j x hj) hd hb
  have h2 := h1.mark [{ target := .collected D, args := #[] }]
  have ea : ({ ({ tmps := a.tmps.toList.toArray, defers := [] } : Act) with defers := [{ target := .collected D, args := #[] }] } : Act) = { a with defers := { target := .collected D, args := #[] } :: a.defers } := by
    have := h.dfr
    cases a
    simp only at this
    subst this
    rfl
  rw [ea] at h2
  refine exec_in c2 _ _ _ _ _ hc ⟨IN, g', h2⟩ hx fun e s2 a2 W2 hrel hk => ?_
  obtain ⟨I2, g2, h3⟩ := hrel
  have hD2 : W2.heap[D]? = some (.deferred (some [])) := (h3.fr.block D hDt hXD).trans hD
  have hI2D : ∀ k, ¬ I2 D k := fun k hk => by
    rcases (h3.lt D k hk).2 hDt with h4 | h4
    · exact hID k h4
    · exact hXD h4
  have key : getO s2.o (lenO oN) = .kl [] ∧ resS real s2 fn.results.toList q → LeavesInM (FW none) n Try.prog fn a2.tmps (fun e w' => ∃ v, e = .returned v ∧ AtRes (nxt I w w') w' v q ∧ Below w.heap.size w w') a2.defers .returning W2 := fun ⟨hkl, hres⟩ => by
    rw [h3.dfr]
    have h4 := h3.turnBoth (y' := .deferred none) hD2 rfl hD hI2D
    have h5 := h.turned (y' := .deferred none) hD rfl hD0 hID
    have h6 := h4.mark []
    have hkl := getO_some hkl (by simp)
    rw [lenO_is] at hkl
    obtain ⟨_, h7⟩ := h5.unbase hg hgn h6 hkl
    obtain ⟨v, r1, r2⟩ := results_at h4 hr hres
    refine ⟨by simp, .inl ⟨_, _, rfl, run_takeDeferred hD2, ?_⟩⟩
    refine ⟨v, r1, v, rfl, ?_, ⟨h7.fr.os, h7.fr.tape, h7.fr.output, h7.fr.size, fun b hb => h7.fr.block b hb (fun hx => hx)⟩⟩
    have hnx : ∀ b k, I2 b k → nxt I w _ b k := fun b k hbk => by
      obtain ⟨h3, h4⟩ := h7.lt b k hbk
      rcases Nat.lt_or_ge b w.heap.size with hlt | hge
      · exact .inl ((h4 hlt).resolve_right (fun hx => hx))
      · exact .inr ⟨hge, h3⟩
    match q, r2 with
    | [], ⟨us, e, hu⟩ => exact ⟨us, e, hu.mono hnx (Keeps.refl _ _)⟩
    | [r], hu => exact AtR.mono hnx (Keeps.refl _ _) hu
    | r :: r' :: q, ⟨us, e, hu⟩ => exact ⟨us, e, hu.mono hnx (Keeps.refl _ _)⟩
  cases e with
  | normal => exact key hk
  | exit i => exact hk.elim
  | ret => exact key hk
theorem spec_range {f : Nat} {fn : Func} {c0 c1 cp c2 asg bdy : Code} {bi : Nat} {g0 : Operand} {ps : Array Tmp} {rs q : List R} {Pre : S → Prop} (hf : Try.prog.funcs[f]? = some fn)
    (hb : fn.body = some (.seq c0 (.seq c1 (.seq (.seq cp (.block bi (.rangeFunc g0 ps asg bdy))) c2)))) (hn : (fn.name != "runtime.NumGoroutine") = true) (h0 : okCode Try.prog c0 = true) (h1 : okCode Try.prog c1 = true) (hp : okCode Try.prog cp = true)
    (hpre : exec real (.seq c0 (.seq c1 cp)) (start rs (fn.ntmps - lenL rs)) (fun x s => x = .normal ∧ Pre s))
    (hmid : ∀ (I I' : Nat → Nat → Prop) (g : Nat → Value) (w W : World) (s : S) (a : Act), Pre s → RelI I (fun _ => False) ⟨w, fun _ => .nilFunc, 0, []⟩ I' g s a W →
      (Code.rangeFunc g0 ps asg bdy).wpIn (FW none) 3 Try.prog (Exit.inBlock bi (Exit.then (c2.wpIn (FW none) 3 Try.prog (bodyPostM (FW none) 3 Try.prog fn (fun e w' => ∃ v, e = .returned v ∧ AtRes (nxt I w w') w' v q ∧ Below w.heap.size w w')))
        (bodyPostM (FW none) 3 Try.prog fn (fun e w' => ∃ v, e = .returned v ∧ AtRes (nxt I w w') w' v q ∧ Below w.heap.size w w')))) a W) : Spec f rs q := by
  refine ⟨by unfold fnOk; rw [hf]; simp only [hn, hb]; rfl, ?_⟩
  intro I w args hI hat
  have hlen := hat.len
  have hsz : args.toArray.size = lenL rs := by rw [lenL_is]; simp [hlen]
  refine callsIn_wide.1 (callsIn_of_wp_marks (n := 3) hf hb trivial ?_)
  rw [hsz]
  have hst := start_at hI hat (fn.ntmps - lenL rs)
  refine wpIn_seq (exec_in (ro := none) c0 _ _ _ _ _ h0 ⟨I, _, hst⟩ hpre fun e s1 a1 W1 hr1 hk1 => ?_)
  cases e with
  | normal =>
    obtain ⟨F1, hg1, hk1⟩ := hk1
    obtain ⟨z1, hf1, hr1'⟩ := hg1 _ _ _ _ _ hr1
    refine wpIn_seq (exec_in (ro := none) c1 _ _ _ _ _ h1 hr1' (hk1 z1 hf1) fun e s2 a2 W2 hr2 hk2 => ?_)
    cases e with
    | normal =>
      obtain ⟨F2, hg2, hk2⟩ := hk2
      obtain ⟨z2, hf2, hr2'⟩ := hg2 _ _ _ _ _ hr2
      refine wpIn_seq (wpIn_seq (exec_in (ro := none) cp _ _ _ _ _ hp hr2' (hk2 z2 hf2) fun e s3 a3 W3 hr3 hk3 => ?_))
      obtain ⟨he, hP⟩ := hk3
      subst he
      obtain ⟨I', g', h3⟩ := hr3
      exact wpIn_block (hmid I I' g' w W3 s3 a3 hP h3)
    | exit i => exact absurd hk2.1 (by simp)
    | ret => exact absurd hk2.1 (by simp)
  | exit i => exact absurd hk1.1 (by simp)
  | ret => exact absurd hk1.1 (by simp)
end Go.Proofs.Ytclehkgnacekkaa.Vm
end
section
namespace Go.Proofs.Ytclehkgnacekkaa.Vm
open Go.RowKit
def seqL : Code → Code
  | .seq c _ => c
  | c => c
def seqR : Code → Code
  | .seq _ c => c
  | c => c
def jT (rows : List (List D)) (d0 d1 d2 d3 : D) : List V := [.d (.sl 5 rows), .ag [.d d0, .d d1, .d d2, .d d3], .tu [], .ptr 0 0, .ptr 1 0, .ptr 2 0, .tu [], .tu [], .ag [.d d0, .d d1, .d d2, .d d3], .ag [.d d0, .d d1, .d d2, .d d3], .d (.sl 5 rows),
  .cl 137 [4], .tu [], .tu [], .tu [], .tu [], .tu [], .tu [], .tu [], .tu [], .tu [], .tu [], .tu []]
def jO (d0 d1 d2 d3 : D) (acc : List V) (b : O) : List O := [.box [.d d0, .d d1, .d d2, .d d3], .box [.d (.sc (.int .u8 0)), .d (.sc (.string ⟨#[]⟩)), .d (.sc (.int .i64 0)), .em], .box acc, .dead, b]
set_option maxRecDepth 100000
set_option maxHeartbeats 4000000
theorem pre_join (rows : List (List D)) (d0 d1 d2 d3 : D) (hcp : Spec 113 [.ag [d0, d1, d2, d3]] [.ag [d0, d1, d2, d3]]) (P : S → Prop) (hP : P ⟨jT rows d0 d1 d2 d3, jO d0 d1 d2 d3 [.d d0, .d d1, .d d2, .d d3] (.box [.d (.sl 5 rows)])⟩) : ∀ qa qb qc qd qe qf qg qh qi qj qk ql qm qo qp qs qt qu qv qx qy qz va vc vd ve vf vg vh vj vk vl vm vn vo vp vq vr vt, Ar.mk qa qb qc qd qe qf qg qh qi qj qk ql qm qo qp qs qt qu qv qx qy qz va vc vd ve vf vg vh vj vk vl vm vn vo vp vq vr vt = real → exec (Ar.mk qa qb qc qd qe qf qg qh qi qj qk ql qm qo qp qs qt qu qv qx qy qz va vc vd ve vf vg vh vj vk vl vm vn vo vp vq vr vt) (.seq (seqL (Try.f63.body.getD .skip)) (.seq (seqL (seqR (Try.f63.body.getD .skip))) (seqL (seqL (seqR (seqR (Try.f63.body.getD .skip)))))))
    (start [.one (.sl 5 rows), .ag [d0, d1, d2, d3]] (Try.f63.ntmps - lenL [R.one (.sl 5 rows), .ag [d0, d1, d2, d3]])) (fun x s => x = .normal ∧ P s) := by
  intro qa qb qc qd qe qf qg qh qi qj qk ql qm qo qp qs qt qu qv qx qy qz va vc vd ve vf vg vh vj vk vl vm vn vo vp vq vr vt hA
  cbv
  repeat ((with_reducible apply next_at hA); cbv)
  refine call_at hA _ hcp ?_ ?_
  · rfl
  cbv
  repeat ((with_reducible apply next_at hA); cbv)
  refine inl_at hA Try.func114 rfl (by kernel_rfl) (by kernel_rfl) (by kernel_rfl) ?_
  cbv
  repeat ((with_reducible apply next_at hA); cbv)
  exact hP
def rangeA : Code → Code
  | .block _ (.rangeFunc _ _ a _) => a
  | c => c
def rangeB : Code → Code
  | .block _ (.rangeFunc _ _ _ b) => b
  | c => c
theorem round_join (rows : List (List D)) (d0 d1 d2 d3 a0 a1 a2 a3 nm c0 c1 c2 c3 : D) (i : Int) (hcp : Spec 113 [.ag [c0, c1, c2, c3]] [.ag [c0, c1, c2, c3]]) : ∀ qa qb qc qd qe qf qg qh qi qj qk ql qm qo qp qs qt qu qv qx qy qz va vc vd ve vf vg vh vj vk vl vm vn vo vp vq vr vt, Ar.mk qa qb qc qd qe qf qg qh qi qj qk ql qm qo qp qs qt qu qv qx qy qz va vc vd ve vf vg vh vj vk vl vm vn vo vp vq vr vt = real →
    exec (Ar.mk qa qb qc qd qe qf qg qh qi qj qk ql qm qo qp qs qt qu qv qx qy qz va vc vd ve vf vg vh vj vk vl vm vn vo vp vq vr vt) (rangeA (seqR (seqL (seqR (seqR (Try.f63.body.getD .skip)))))) ⟨setN (setN (jT rows d0 d1 d2 d3) 12 (vi .i64 i)) 13 (.ag [.d nm, .d c0, .d c1, .d c2, .d c3]), snocO (jO d0 d1 d2 d3 [.d a0, .d a1, .d a2, .d a3] .dead) (.kl [])⟩
      (fun x s1 => x = .normal ∧ mpSub (jO d0 d1 d2 d3 [.d a0, .d a1, .d a2, .d a3] .dead) s1.o = true ∧ exec (Ar.mk qa qb qc qd qe qf qg qh qi qj qk ql qm qo qp qs qt qu qv qx qy qz va vc vd ve vf vg vh vj vk vl vm vn vo vp vq vr vt) (rangeB (seqR (seqL (seqR (seqR (Try.f63.body.getD .skip)))))) ⟨s1.t, snocO s1.o (.kl [])⟩ (fun x s2 => x = .normal ∧
        roundE 5 (jO d0 d1 d2 d3 [.d a0, .d a1, .d a2, .d a3] .dead) (jO d0 d1 d2 d3 [.d (.sc (.int .u8 11)), .d nm, .d (.sc (.int .i64 0)), .d (.sl 4 [[c0, c1, c2, c3], [a0, a1, a2, a3]])] .dead) (lenO s1.o) s2)) := by
  intro qa qb qc qd qe qf qg qh qi qj qk ql qm qo qp qs qt qu qv qx qy qz va vc vd ve vf vg vh vj vk vl vm vn vo vp vq vr vt hA
  cbv
  repeat ((with_reducible apply next_at hA); cbv)
  refine calm_at hA _ hcp ?_
  cbv
  repeat ((with_reducible first | apply next_at hA | apply lit_at hA true); cbv)
  exact ⟨rfl, trivial⟩
def joinD : List (List D) → List D → List D
  | [], tl => tl
  | r :: rows, tl => [.sc (.int .u8 11), r.headD (.sl 0 []), .sc (.int .i64 0), .sl 4 [r.tail, joinD rows tl]]
theorem joinD_four (rows : List (List D)) (d0 d1 d2 d3 : D) : ∃ a0 a1 a2 a3, joinD rows [d0, d1, d2, d3] = [a0, a1, a2, a3] := by
  cases rows <;> exact ⟨_, _, _, _, rfl⟩
def accD (rows : List (List D)) (tl : List D) (k : Nat) : List D := joinD (rows.drop (rows.length - k)) tl
theorem accD_succ {rows : List (List D)} {tl r : List D} {k : Nat} (hk : k < rows.length) (hr : rows[rows.length - 1 - k]? = some r) : accD rows tl (k + 1) = joinD (r :: rows.drop (rows.length - k)) tl := by
  have h1 : rows.length - (k + 1) < rows.length := by omega
  have h2 := List.drop_eq_getElem_cons h1
  have e1 : rows.length - 1 - k = rows.length - (k + 1) := by omega
  rw [e1, List.getElem?_eq_getElem h1] at hr
  rw [accD, h2, Option.some.inj hr, show rows.length - (k + 1) + 1 = rows.length - k by omega]
theorem cells_cell {W : World} {b : Nat} {us : Array Value} {t : TypeId} {m : Nat × Nat} {i : Nat} (h : W.heap[b]? = some (.cells us t m)) : W.cell? ⟨b, i, none⟩ = us[i]? := by
  show (match W.heap[b]? with | some (.cells c _ _) => c[i]? | _ => none) = _
  rw [h]
theorem end_join (rows : List (List D)) (d0 d1 d2 d3 a0 a1 a2 a3 : D) : ∀ qa qb qc qd qe qf qg qh qi qj qk ql qm qo qp qs qt qu qv qx qy qz va vc vd ve vf vg vh vj vk vl vm vn vo vp vq vr vt, Ar.mk qa qb qc qd qe qf qg qh qi qj qk ql qm qo qp qs qt qu qv qx qy qz va vc vd ve vf vg vh vj vk vl vm vn vo vp vq vr vt = real → exec (Ar.mk qa qb qc qd qe qf qg qh qi qj qk ql qm qo qp qs qt qu qv qx qy qz va vc vd ve vf vg vh vj vk vl vm vn vo vp vq vr vt) (seqR (seqR (seqR (Try.f63.body.getD .skip)))) ⟨jT rows d0 d1 d2 d3, snocO (jO d0 d1 d2 d3 [.d a0, .d a1, .d a2, .d a3] .dead) (.kl [])⟩
    (fun x s => endK Try.f63.results.toList [.ag [a0, a1, a2, a3]] 5 x s) := by
  intro qa qb qc qd qe qf qg qh qi qj qk ql qm qo qp qs qt qu qv qx qy qz va vc vd ve vf vg vh vj vk vl vm vn vo vp vq vr vt hA
  cbv
  repeat ((with_reducible apply next_at hA); cbv)
end Go.Proofs.Ytclehkgnacekkaa.Vm
end
section
namespace Go.Proofs.Ytclehkgnacekkaa.Vm
open Go.RowKit
set_option maxRecDepth 100000
set_option maxHeartbeats 4000000
theorem join_xb : Try.f63.body = some (.seq (seqL (Try.f63.body.getD .skip)) (.seq (seqL (seqR (Try.f63.body.getD .skip))) (.seq (.seq (seqL (seqL (seqR (seqR (Try.f63.body.getD .skip))))) (.block 0 (.rangeFunc (.tmp 11) #[12, 13] (rangeA (seqR (seqL (seqR (seqR (Try.f63.body.getD .skip)))))) (rangeB (seqR (seqL (seqR (seqR (Try.f63.body.getD .skip))))))))) (seqR (seqR (seqR (Try.f63.body.getD .skip))))))) := by kernel_rfl
theorem join_xn : (Try.f63.name != "runtime.NumGoroutine") = true := by kernel_rfl
theorem join_x0 : okCode Try.prog (seqL (Try.f63.body.getD .skip)) = true := by kernel_rfl
theorem join_x1 : okCode Try.prog (seqL (seqR (Try.f63.body.getD .skip))) = true := by kernel_rfl
theorem join_xp : okCode Try.prog (seqL (seqL (seqR (seqR (Try.f63.body.getD .skip))))) = true := by kernel_rfl
theorem join_x2 : okCode Try.prog (seqR (seqR (seqR (Try.f63.body.getD .skip)))) = true := by kernel_rfl
theorem join_xr : okRes Try.f63.results.toList = true := by kernel_rfl
theorem join_xA : okCode Try.prog (rangeA (seqR (seqL (seqR (seqR (Try.f63.body.getD .skip)))))) = true := by kernel_rfl
theorem join_xB : okCode Try.prog (rangeB (seqR (seqL (seqR (seqR (Try.f63.body.getD .skip)))))) = true := by kernel_rfl
theorem pre_joinR (rows : List (List D)) (d0 d1 d2 d3 : D) (hcp : Spec 113 [.ag [d0, d1, d2, d3]] [.ag [d0, d1, d2, d3]]) (P : S → Prop) (hP : P ⟨jT rows d0 d1 d2 d3, jO d0 d1 d2 d3 [.d d0, .d d1, .d d2, .d d3] (.box [.d (.sl 5 rows)])⟩) :
    exec real (.seq (seqL (Try.f63.body.getD .skip)) (.seq (seqL (seqR (Try.f63.body.getD .skip))) (seqL (seqL (seqR (seqR (Try.f63.body.getD .skip))))))) (start [.one (.sl 5 rows), .ag [d0, d1, d2, d3]] (Try.f63.ntmps - lenL [R.one (.sl 5 rows), .ag [d0, d1, d2, d3]])) (fun x s => x = .normal ∧ P s) :=
  pre_join rows d0 d1 d2 d3 hcp P hP _ _ _ _ _ _ _ _ _ _ _ _ _ _ _ _ _ _ _ _ _ _ _ _ _ _ _ _ _ _ _ _ _ _ _ _ _ _ _ rfl
theorem join_s (rows : List (List D)) (d0 d1 d2 d3 : D) (hlen : rows.length * 80 ≤ 140737488351232) (htl : Spec 113 [.ag [d0, d1, d2, d3]] [.ag [d0, d1, d2, d3]]) (hrows : ∀ r ∈ rows, ∃ nm c0 c1 c2 c3, r = [nm, c0, c1, c2, c3] ∧ Spec 113 [.ag [c0, c1, c2, c3]] [.ag [c0, c1, c2, c3]]) :
    Spec 63 [.one (.sl 5 rows), .ag [d0, d1, d2, d3]] [.ag (joinD rows [d0, d1, d2, d3])] := by
  refine spec_range (Pre := fun s => s = ⟨jT rows d0 d1 d2 d3, jO d0 d1 d2 d3 [.d d0, .d d1, .d d2, .d d3] (.box [.d (.sl 5 rows)])⟩) Try.func63 join_xb join_xn join_x0 join_x1 join_xp ?_ ?_
  · exact pre_joinR rows d0 d1 d2 d3 htl _ rfl
  intro I I' g w W s a hs h
  subst hs
  obtain ⟨b, us, ty, h1, h2, h3, h4⟩ := h.frzBox (k := 4) rfl
  obtain ⟨v, us', rfl, hv, hn⟩ := h3.uncons
  obtain rfl := hn.unnil
  have hvD : AtD I' W v (.sl 5 rows) := by cases hv with | d h => exact h
  have hBs : W.cell? ⟨b, 0, none⟩ = some v := cells_cell h2
  have hbl : b < W.heap.size := (Array.getElem?_eq_some_iff.1 h2).1
  obtain ⟨bb, off, vs, hl, hup, hds, hr5, hseq⟩ := backF_seq (fun b k hb => (h.lt b k hb).1) hvD hbl hBs hlen
  have hcl : a.eval (.tmp 11) = .func (.func 137) #[] #[.pointer (some ⟨b, 0, none⟩)] := by
    have h5 := h4.get (.tmp 11)
    have h5 : AtV _ W g (a.eval (.tmp 11)) (.cl 137 [4]) := h5
    generalize a.eval (.tmp 11) = ax at h5 ⊢
    cases h5 with
    | cl f us ks hl hh =>
      match us, hl with
      | [u], _ => rw [(hh 0 u 4 rfl rfl).1, h1]
  have hst0 : RelI I (fun _ => False) ⟨w, fun _ => .nilFunc, 0, []⟩ (fun b' n => I' b' n ∨ (b' = b ∧ n ≤ 1)) g ⟨jT rows d0 d1 d2 d3, jO d0 d1 d2 d3 (ofD (accD rows [d0, d1, d2, d3] 0)) .dead⟩ a W := by
    have e : accD rows [d0, d1, d2, d3] 0 = [d0, d1, d2, d3] := by rw [accD, List.drop_eq_nil_of_le (by omega)]; rfl
    rw [e]
    exact h4
  refine range_ok (t := jT rows d0 d1 d2 d3) (p1 := 12) (p2 := 13) (gf := 137) (N := rows.length) (lb := #[.pointer (some ⟨b, 0, none⟩)])
    (u1 := fun k => .int .i64 ((rows.length - 1 - k : Nat) : Int)) (u2 := fun k => .agg (((vs.drop ((rows.length - 1 - k) * 5)).take 5).toArray)) (Kp := KpB b bb off (rows.length * 5)) (st := fun k => jO d0 d1 d2 d3 (ofD (accD rows [d0, d1, d2, d3] k)) .dead)
    (tk := fun k => setN (setN (jT rows d0 d1 d2 d3) 12 (vi .i64 ((rows.length - 1 - k : Nat) : Int))) 13 (.ag (ofD (rows.getD (rows.length - 1 - k) []))))
    join_xA join_xB hst0 (by decide) hcl (enters_of Try.func137 (by kernel_rfl) rfl) (hseq (FW none) 2 trivial rfl (by decide)) KpB.trans (fun W l o o' _ hl ho _ => KpB.turn W l o o' hl ho) ?_ ?_ ?_ ?_
  · intro W1 W2 hk
    refine ⟨fun v hv => ?_, fun i hi v hv => ?_⟩
    · rw [hk b 1 (.inr ⟨rfl, Nat.le_refl _⟩) 0 (by decide)]
      exact hv
    · obtain ⟨n, hn1, hn2⟩ := hup (fun e => by rw [e] at hi; simp at hi)
      rw [hk bb n (.inl hn2) (off + i) (by omega)]
      exact hv
  · intro k W1 I1 g1 hk hI1 hk1 hvs
    have hlt : rows.length - 1 - k < rows.length := by omega
    have e1 : ∀ (ts : Array Value) (i : Nat) (u : Value), (ts.setIfInBounds i u).toList = ts.toList.set i u := fun ts i u => by simp
    rw [e1, e1, setN_is, setN_is]
    refine (hvs.set (.d (.sc _ rfl)) 12).set (atV_ag ?_) 13
    refine AtDs.toV g1 ?_
    have h5 := (hds.drop ((rows.length - 1 - k) * 5)).take 5
    have e2 : (rows.flatten.drop ((rows.length - 1 - k) * 5)).take 5 = rows.getD (rows.length - 1 - k) [] := by
      have hg : rows[rows.length - 1 - k]? = some (rows.getD (rows.length - 1 - k) []) := by rw [List.getD_eq_getElem?_getD, List.getElem?_eq_getElem hlt]; rfl
      apply List.ext_getElem?
      intro i
      rw [List.getElem?_take]
      have h6 : (rows.getD (rows.length - 1 - k) []).length = 5 := hr5 _ (List.mem_of_getElem? hg)
      split
      · rename_i hi
        rw [List.getElem?_drop, flat_get hr5 hg hi]
      · rename_i hi
        rw [List.getElem?_eq_none (by omega)]
    rw [e2] at h5
    exact h5.mono (fun b j hb => hI1 b j (.inl hb)) (fun b j hb => hk1 b j (.inl hb))
  · intro k hk
    have hlt : rows.length - 1 - k < rows.length := by omega
    have hg : rows[rows.length - 1 - k]? = some (rows.getD (rows.length - 1 - k) []) := by rw [List.getD_eq_getElem?_getD, List.getElem?_eq_getElem hlt]; rfl
    have ea := accD_succ (tl := [d0, d1, d2, d3]) hk hg
    obtain ⟨nm, c0, c1, c2, c3, er, hsp⟩ := hrows _ (List.mem_of_getElem? hg)
    obtain ⟨a0, a1, a2, a3, e4⟩ := joinD_four (rows.drop (rows.length - k)) d0 d1 d2 d3
    have e5 : accD rows [d0, d1, d2, d3] k = [a0, a1, a2, a3] := e4
    have e6 : accD rows [d0, d1, d2, d3] (k + 1) = [.sc (.int .u8 11), nm, .sc (.int .i64 0), .sl 4 [[c0, c1, c2, c3], [a0, a1, a2, a3]]] := by rw [ea, er]; show [_, _, _, D.sl 4 [_, joinD _ _]] = _; rw [e4]; rfl
    try dsimp only
    rw [e5, e6, er]
    exact round_join rows d0 d1 d2 d3 a0 a1 a2 a3 nm c0 c1 c2 c3 _ hsp _ _ _ _ _ _ _ _ _ _ _ _ _ _ _ _ _ _ _ _ _ _ _ _ _ _ _ _ _ _ _ _ _ _ _ _ _ _ _ rfl
  · rintro D W1 hD ⟨I1, g1, q1, q2, q3, q4⟩ hd
    obtain ⟨a0, a1, a2, a3, e4⟩ := joinD_four rows d0 d1 d2 d3
    have e5 : accD rows [d0, d1, d2, d3] rows.length = [a0, a1, a2, a3] := by rw [accD, Nat.sub_self]; exact e4
    rw [e4]
    try dsimp only at q3
    rw [e5] at q3
    have hID : ∀ k, ¬ I1 D k := fun k => by rw [hD]; exact (q2 k).2
    have hD0 : w.heap.size ≤ D := by rw [hD]; exact h.fr.size
    refine ends_spec join_x2 join_xr q3 hID hD0 hd ?_
    exact end_join rows d0 d1 d2 d3 a0 a1 a2 a3 _ _ _ _ _ _ _ _ _ _ _ _ _ _ _ _ _ _ _ _ _ _ _ _ _ _ _ _ _ _ _ _ _ _ _ _ _ _ _ rfl
end Go.Proofs.Ytclehkgnacekkaa.Vm
end

/- Part 21 of the proof: VPr3. Conditions: none. -/
import Derived.Test.YtahpnackkmbmgaaGreatDoorS20
set_option linter.all false
set_option linter.unusedVariables false
set_option linter.unusedSimpArgs false
section
namespace Go.Proofs.YtahpnackkmbmgaaGreatDoor.Vm
open Go.RowKit
set_option maxRecDepth 100000
set_option maxHeartbeats 4000000
def rowC (t : Ty) : ByteArray := bx (rowT txtS (canonS t))
theorem rowW_len (g : Ty → List UInt8) : ∀ (l : List (ByteArray × Ty)) (b : Bool) (k : Nat), (rowW g b (l.take k)).length ≤ (rowW g b l).length
 | [], b, k => by simp
 | x :: l, b, 0 => by simp [rowW]
 | x :: l, b, k + 1 => by
  rw [List.take_succ_cons, rowW, rowW]
  have := rowW_len g l false k
  simp only [List.length_append, List.length_cons]
  omega
theorem row_canon {t : Ty} (hs : Spine t) : rowT txtS (canonS t) = rowW txtS true ((sortS ltF (fieldsS t)).map cfS) ++ tailW (tailS t) := by
 unfold rowT
 by_cases h11 : t.op = 11
 ·obtain ⟨h1, h2⟩ := canon_tail hs h11
  rw [h1, h2]
  rfl
 ·obtain ⟨h1, h2⟩ := fields_end h11
  have h3 := fields_end (t := canonS t) (by rw [canon_op_any hs]; exact h11)
  rw [h3.1, h3.2, h1, h2, canon_node h11]
  show [] ++ tailW _ = [] ++ _
  unfold tailW
  rfl
theorem row_text (W : ByteArray → Bool) (t : Ty) (hs : shapeB W t 114 = true) (hsp : Spine t) (hN : t.parts.length ≤ 1048576) (hn : ∀ x ∈ t.parts, x.n ≤ 9223372036854775807) (hlen : (rowT txtS (canonS t)).length ≤ 67108864) (hW : ∀ f ∈ fieldsS t, Spec 11 [.ag (cT f.2)] [.one (.sc (.string (txtB (canonS f.2))))]) :
  Spec 30 [.ag (cT t)] [.one (.sc (.string (rowC t)))] := by
 have hF := Fields_s t hsp hN
 have htl : (tailS t).op = 8 ∨ (tailS t).op = 9 ∨ (tailS t).op = 10 := by
  have key : ∀ (m : Nat) (t : Ty), t.parts.length ≤ m → shapeB W t 114 = true → (tailS t).op = 8 ∨ (tailS t).op = 9 ∨ (tailS t).op = 10 := by
   intro m
   induction m with
   | zero => intro t h; have := parts_pos t; omega
   | succ m ih =>
    intro t hm hs
    rcases (shape_rw hs).2 with ⟨h, _⟩ | ⟨h, a, b, hk, _, hb⟩
    ·rw [(fields_end (by omega)).2]; exact h
    ·have hkb := (kids_le t).2 b (by rw [hk]; simp)
     obtain ⟨op, nm, n, ks⟩ := t
     have hk : ks = [a, b] := hk
     have h : op = 11 := h
     subst hk; subst h
     rw [tailS, if_pos rfl]
     exact ih b (by omega) hb
  exact key _ t (Nat.le_refl _) hs
 have htm := tail_mem hsp
 have htn := hn _ htm
 have ht0 : 0 ≤ (tailS t).n := by
  have key : ∀ (m : Nat) (t : Ty), t.parts.length ≤ m → shapeB W t 114 = true → 0 ≤ (tailS t).n := by
   intro m
   induction m with
   | zero => intro t h; have := parts_pos t; omega
   | succ m ih =>
    intro t hm hs
    rcases shape_rw hs with ⟨h0, ⟨h, _⟩ | ⟨h, a, b, hk, _, hb⟩⟩
    ·rw [(fields_end (by omega)).2]; exact h0
    ·have hkb := (kids_le t).2 b (by rw [hk]; simp)
     obtain ⟨op, nm, n, ks⟩ := t
     have hk : ks = [a, b] := hk
     have h : op = 11 := h
     subst hk; subst h
     rw [tailS, if_pos rfl]
     exact ih b (by omega) hb
  exact key _ t (Nat.le_refl _) hs
 have hrc := row_canon hsp
 unfold rowC
 rw [hrc] at hlen ⊢
 have hW2 : ∀ f ∈ sortS ltF (fieldsS t), Spec 11 [.ag (cT f.2)] [.one (.sc (.string (txtB (canonS f.2))))] := fun f hf => hW f (sortS_mem hf)
 have hLN : (sortS ltF (fieldsS t)).length ≤ 1048576 := by
  rw [sortS_len]
  have := fields_count _ t (Nat.le_refl _)
  omega
 generalize sortS ltF (fieldsS t) = L at *
 clear hW hrc
 have htc : cT (tailS t) = [.sc (.int .u8 (tailS t).op), .sc (.string (tailS t).name), .sc (.int .i64 (tailS t).n), .sl 4 (rT (tailS t).kids)] := cT_of _
 rw [htc] at hF
 have htW : ∃ o n, o = (tailS t).op ∧ n = (tailS t).n ∧ tailW (tailS t) = if o = 9 then [124, 63] else if o = 10 then 124 :: 39 :: Lib.itoa n else [] := ⟨_, _, rfl, rfl, rfl⟩
 obtain ⟨to, tn, hto, htn', htw⟩ := htW
 rw [← hto] at htl hF
 rw [← htn'] at htn ht0 hF
 rw [htw] at hlen ⊢
 generalize (tailS t).name = tnm at *
 generalize rT (tailS t).kids = tK at *
 obtain ⟨a0, a1, a2, a3, ha⟩ := cT_four t
 rw [ha] at hF ⊢
 obtain ⟨Q, hQ⟩ : ∃ Q, Q = rF L := ⟨_, rfl⟩
 rw [← hQ] at hF
 clear htm htw hto htn' htc
 obtain ⟨RES, hRES⟩ : ∃ S, S = bx (rowW txtS true (L.map cfS) ++ (if to = 9 then [124, 63] else if to = 10 then 124 :: 39 :: Lib.itoa tn else [])) := ⟨_, rfl⟩
 rw [← hRES]
 have hpre : ∀ k, (rowW txtS true ((L.map cfS).take k)).length ≤ 67108864 := fun k => by
  have := rowW_len txtS (L.map cfS) true k
  rw [List.length_append] at hlen
  omega
 refine spec_of Tryz.func30 rfl (by kernel_rfl) (by kernel_rfl) (by kernel_rfl) fun qa qb qc qd qe qf qg qh qi qj qk ql qm qo qp qq qs qt qu qv qw qx qy qz va vc vd ve vf vg vh vj vk vl vm vn vo vp vq vr vt vu hA => ?_
 obtain ⟨e1, e2, e3, e4, e5, e6, e7, e8, e9⟩ := ar_at hA
 obtain ⟨r1, r2, r3, r4⟩ := row_at hA
 obtain ⟨s1, s2, s3, s4, s5, s6, s7⟩ := str_at hA
 have hcat : ∀ x y, qp (bx x) (bx y) = bx (x ++ y) := fun x y => by rw [s4, bx_cat]
 cbv
 repeat (first | (with_reducible apply next_at hA; cbv) | (refine call_at hA _ hF rfl ?_; cbv) | (refine calm_at hA _ hF ?_; cbv))
 try cbv
 repeat (first | (with_reducible apply next_at hA; cbv) | (refine call_at hA _ hF rfl ?_; cbv) | (refine calm_at hA _ hF ?_; cbv))
 try simp (maxSteps := 4000000) only [nc] at *
 refine loop_at hA (γ := Int × ByteArray) (fun x => [(6, vi .i64 x.1), (3, vs x.2), (7, .jk), (9, .jk)]) (fun x => []) (fun x => ∃ k : Nat, x.1 = (k : Int) ∧ k ≤ L.length ∧ x.2 = bx (rowW txtS true ((L.map cfS).take k))) (fun x => L.length - x.1.toNat) (0, ⟨#[]⟩) ?_ ?_ ?_
 ·exact ⟨0, rfl, Nat.zero_le _, rfl⟩
 ·cbv
 ·intro x hinv
  obtain ⟨z, O⟩ := x
  cbv
  repeat ((with_reducible apply next_at hA); cbv)
  try simp (maxSteps := 4000000) only [nc] at *
  obtain ⟨k, hz, hk, hO⟩ := hinv
  replace hO : O = bx (rowW txtS true ((L.map cfS).take k)) := hO
  have hll : qy Q = ((L.length : Nat) : Int) := by rw [r1, hQ, rF_len]
  have hlt : qh z (qy Q) = decide (k < L.length) := by rw [e7, hll, hz]; exact decide_eq_decide.2 (by omega)
  by_cases h9 : k < L.length
  ·rw [decide_eq_true h9] at hlt
   obtain ⟨x, hx⟩ : ∃ x, L[k]? = some x := ⟨_, List.getElem?_eq_getElem h9⟩
   have hspx := hW2 x (List.mem_of_getElem? hx)
   have hx2 : (L.map cfS)[k]? = some (x.1, canonS x.2) := by rw [List.getElem?_map, hx]; rfl
   have hsn : (L.map cfS).take (k + 1) = (L.map cfS).take k ++ [(x.1, canonS x.2)] := by rw [List.take_add_one, hx2]; rfl
   have hem : ((L.map cfS).take k).isEmpty = decide (k = 0) := by
    cases k with
    | zero => rfl
    | succ k =>
     have : ((L.map cfS).take (k + 1)).length = k + 1 := by rw [List.length_take, List.length_map]; omega
     cases hq : (L.map cfS).take (k + 1) with
     | nil => rw [hq] at this; cases this
     | cons y l => simp
   have hpk := hpre (k + 1)
   have hrow := rowW_snoc txtS ((L.map cfS).take k) true (x.1, canonS x.2)
   rw [← hsn, hem] at hrow
   rw [hrow] at hpk
   simp only [List.length_append, List.length_cons, Bool.true_and] at hpk hrow
   obtain ⟨xn, xt⟩ := x
   obtain ⟨x0, x1, x2, x3, hxx⟩ := cT_four xt
   simp only at hspx hpk hrow
   rw [hxx] at hspx
   have gx : qz Q z = some [.sc (.string xn), x0, x1, x2, x3] := by rw [r2, hz, if_pos (by omega), hQ, show ((k : Int)).toNat = k by omega, rF_get hx, hxx]
   have hz1 : qa .i64 (qb z 1) = ((k + 1 : Nat) : Int) := by rw [e1, e2, hz, IntWalk.i64_in _ (by omega)]; omega
   have hmu : L.length - (qa .i64 (qb z 1)).toNat < L.length - z.toNat := by rw [hz1, hz]; omega
   have hgt : qh 0 z = decide (0 < k) := by rw [e7, hz]; exact decide_eq_decide.2 (by omega)
   have hxn : xn = bx (btl xn) := (bx_btl xn).symm
   obtain ⟨xb, hxb⟩ : ∃ l, l = btl xn := ⟨_, rfl⟩
   have hxl : xn.data.toList = xb := hxb.symm
   rw [hxl] at hpk hrow
   rw [← hxb] at hxn
   obtain ⟨pre, hpreq⟩ : ∃ l, l = rowW txtS true ((L.map cfS).take k) := ⟨_, rfl⟩
   rw [← hpreq] at hO hpk hrow
   obtain ⟨tx, htx⟩ : ∃ l, l = txtS (canonS xt) := ⟨_, rfl⟩
   rw [← htx] at hpk hrow
   rw [show txtB (canonS xt) = bx tx by rw [htx]; rfl] at hspx
   rw [hlt]
   by_cases hk0 : k = 0
   ·rw [decide_eq_true hk0, if_pos rfl, List.nil_append] at hrow
    rw [decide_eq_true hk0, if_pos rfl, List.length_nil] at hpk
    rw [decide_eq_false (by omega)] at hgt
    obtain ⟨O1, hO1⟩ : ∃ S, S = bx (pre ++ xb) := ⟨_, rfl⟩
    obtain ⟨O2, hO2⟩ : ∃ S, S = bx (pre ++ xb ++ [58]) := ⟨_, rfl⟩
    obtain ⟨O3, hO3⟩ : ∃ S, S = bx (pre ++ xb ++ [58] ++ tx) := ⟨_, rfl⟩
    have k1 : qp O xn = O1 := by rw [hO, hxn, hcat, hO1]
    have k2 : qp O1 ⟨#[58]⟩ = O2 := by rw [hO1, show (⟨#[58]⟩ : ByteArray) = bx [58] from rfl, hcat, hO2]
    have z1 : O.size + xn.size ≤ 4611686018427387904 := by rw [hO, hxn, bx_size, bx_size]; omega
    have z2 : O1.size + (⟨#[58]⟩ : ByteArray).size ≤ 4611686018427387904 := by rw [hO1, show (⟨#[58]⟩ : ByteArray) = bx [58] from rfl, bx_size, bx_size, List.length_append, List.length_singleton]; omega
    have z3 : O2.size + (bx tx).size ≤ 4611686018427387904 := by rw [hO2, bx_size, bx_size]; simp only [List.length_append, List.length_singleton]; omega
    have k3 : qp O2 (bx tx) = O3 := by rw [hO2, hcat, hO3]
    have fin : O3 = bx (rowW txtS true ((L.map cfS).take (k + 1))) := by rw [hO3, hrow]; simp
    generalize bx tx = TX at *
    cbv
    repeat (first | (with_reducible apply next_at hA; cbv) | (rw [hgt]; cbv) | (rw [gx]; cbv) | (rw [k1]; cbv) | (rw [k2]; cbv) | (rw [k3]; cbv) | (refine call_at hA _ hspx rfl ?_; cbv) | (refine calm_at hA _ hspx ?_; cbv) | (refine fits_at hA z1 ?_; cbv) | (refine fits_at hA z2 ?_; cbv) | (refine fits_at hA z3 ?_; cbv))
    try cbv
    repeat (first | (with_reducible apply next_at hA; cbv) | (rw [hgt]; cbv) | (rw [gx]; cbv) | (rw [k1]; cbv) | (rw [k2]; cbv) | (rw [k3]; cbv) | (refine call_at hA _ hspx rfl ?_; cbv) | (refine calm_at hA _ hspx ?_; cbv) | (refine fits_at hA z1 ?_; cbv) | (refine fits_at hA z2 ?_; cbv) | (refine fits_at hA z3 ?_; cbv))
    try simp (maxSteps := 4000000) only [nc] at *
    refine ⟨(qa .i64 (qb z 1), O3), ⟨k + 1, hz1, h9, fin⟩, hmu, ?_⟩
    cbv
   ·rw [decide_eq_false hk0, if_neg (by decide)] at hrow
    rw [decide_eq_false hk0, if_neg (by decide), List.length_singleton] at hpk
    rw [decide_eq_true (by omega)] at hgt
    obtain ⟨O0, hO0⟩ : ∃ S, S = bx (pre ++ [44]) := ⟨_, rfl⟩
    obtain ⟨O1, hO1⟩ : ∃ S, S = bx (pre ++ [44] ++ xb) := ⟨_, rfl⟩
    obtain ⟨O2, hO2⟩ : ∃ S, S = bx (pre ++ [44] ++ xb ++ [58]) := ⟨_, rfl⟩
    obtain ⟨O3, hO3⟩ : ∃ S, S = bx (pre ++ [44] ++ xb ++ [58] ++ tx) := ⟨_, rfl⟩
    have k0 : qp O ⟨#[44]⟩ = O0 := by rw [hO, show (⟨#[44]⟩ : ByteArray) = bx [44] from rfl, hcat, hO0]
    have k1 : qp O0 xn = O1 := by rw [hO0, hxn, hcat, hO1]
    have k2 : qp O1 ⟨#[58]⟩ = O2 := by rw [hO1, show (⟨#[58]⟩ : ByteArray) = bx [58] from rfl, hcat, hO2]
    have z0 : O.size + (⟨#[44]⟩ : ByteArray).size ≤ 4611686018427387904 := by rw [hO, show (⟨#[44]⟩ : ByteArray) = bx [44] from rfl, bx_size, bx_size, List.length_singleton]; omega
    have z1 : O0.size + xn.size ≤ 4611686018427387904 := by rw [hO0, hxn, bx_size, bx_size]; simp only [List.length_append, List.length_singleton]; omega
    have z2 : O1.size + (⟨#[58]⟩ : ByteArray).size ≤ 4611686018427387904 := by rw [hO1, show (⟨#[58]⟩ : ByteArray) = bx [58] from rfl, bx_size, bx_size]; simp only [List.length_append, List.length_singleton]; omega
    have z3 : O2.size + (bx tx).size ≤ 4611686018427387904 := by rw [hO2, bx_size, bx_size]; simp only [List.length_append, List.length_singleton]; omega
    have k3 : qp O2 (bx tx) = O3 := by rw [hO2, hcat, hO3]
    have fin : O3 = bx (rowW txtS true ((L.map cfS).take (k + 1))) := by rw [hO3, hrow]; simp
    generalize bx tx = TX at *
    cbv
    repeat (first | (with_reducible apply next_at hA; cbv) | (rw [hgt]; cbv) | (rw [gx]; cbv) | (rw [k0]; cbv) | (rw [k1]; cbv) | (rw [k2]; cbv) | (rw [k3]; cbv) | (refine call_at hA _ hspx rfl ?_; cbv) | (refine calm_at hA _ hspx ?_; cbv) | (refine fits_at hA z0 ?_; cbv) | (refine fits_at hA z1 ?_; cbv) | (refine fits_at hA z2 ?_; cbv) | (refine fits_at hA z3 ?_; cbv))
    try cbv
    repeat (first | (with_reducible apply next_at hA; cbv) | (rw [hgt]; cbv) | (rw [gx]; cbv) | (rw [k0]; cbv) | (rw [k1]; cbv) | (rw [k2]; cbv) | (rw [k3]; cbv) | (refine call_at hA _ hspx rfl ?_; cbv) | (refine calm_at hA _ hspx ?_; cbv) | (refine fits_at hA z0 ?_; cbv) | (refine fits_at hA z1 ?_; cbv) | (refine fits_at hA z2 ?_; cbv) | (refine fits_at hA z3 ?_; cbv))
    try simp (maxSteps := 4000000) only [nc] at *
    refine ⟨(qa .i64 (qb z 1), O3), ⟨k + 1, hz1, h9, fin⟩, hmu, ?_⟩
    cbv
  ·rw [decide_eq_false h9] at hlt
   rw [List.take_of_length_le (by rw [List.length_map]; omega)] at hO
   rw [List.length_append] at hlen
   generalize rowW txtS true (L.map cfS) = pre at *
   rw [hlt]
   rcases htl with ho | ho | ho
   ·have q9 : qj to 9 = false := by rw [e9, ho]; rfl
    have q10 : qj to 10 = false := by rw [e9, ho]; rfl
    rw [if_neg (by omega), if_neg (by omega), List.append_nil, ← hO] at hRES
    rw [hRES]
    cbv
    repeat (first | (with_reducible apply next_at hA; cbv) | (rw [q9]; cbv) | (rw [q10]; cbv))
    try cbv
    repeat (first | (with_reducible apply next_at hA; cbv) | (rw [q9]; cbv) | (rw [q10]; cbv))
    try simp (maxSteps := 4000000) only [nc] at *
   ·have q9 : qj to 9 = true := by rw [e9, ho]; rfl
    rw [if_pos ho] at hRES hlen
    have k1 : qp O ⟨#[124, 63]⟩ = RES := by rw [hO, show (⟨#[124, 63]⟩ : ByteArray) = bx [124, 63] from rfl, hcat, hRES]
    have z1 : O.size + (⟨#[124, 63]⟩ : ByteArray).size ≤ 4611686018427387904 := by rw [hO, show (⟨#[124, 63]⟩ : ByteArray) = bx [124, 63] from rfl, bx_size, bx_size]; omega
    cbv
    repeat (first | (with_reducible apply next_at hA; cbv) | (rw [q9]; cbv) | (rw [k1]; cbv) | (refine fits_at hA z1 ?_; cbv))
    try cbv
    repeat (first | (with_reducible apply next_at hA; cbv) | (rw [q9]; cbv) | (rw [k1]; cbv) | (refine fits_at hA z1 ?_; cbv))
    try simp (maxSteps := 4000000) only [nc] at *
   ·have q9 : qj to 9 = false := by rw [e9, ho]; rfl
    have q10 : qj to 10 = true := by rw [e9, ho]; rfl
    rw [if_neg (by omega), if_pos ho] at hRES hlen
    have hi := Num_s tn.toNat tn (Nat.le_refl _) ht0 htn
    obtain ⟨O1, hO1⟩ : ∃ S, S = bx (pre ++ [124, 39]) := ⟨_, rfl⟩
    have k1 : qp O ⟨#[124, 39]⟩ = O1 := by rw [hO, show (⟨#[124, 39]⟩ : ByteArray) = bx [124, 39] from rfl, hcat, hO1]
    have k2 : qp O1 (bx (Lib.itoa tn)) = RES := by rw [hO1, hcat, hRES]; simp
    simp only [List.length_cons] at hlen
    have z1 : O.size + (⟨#[124, 39]⟩ : ByteArray).size ≤ 4611686018427387904 := by rw [hO, show (⟨#[124, 39]⟩ : ByteArray) = bx [124, 39] from rfl, bx_size, bx_size]; simp only [List.length_cons, List.length_nil]; omega
    have z2 : O1.size + (bx (Lib.itoa tn)).size ≤ 4611686018427387904 := by rw [hO1, bx_size, bx_size]; simp only [List.length_append, List.length_cons, List.length_nil]; omega
    generalize bx (Lib.itoa tn) = NT at *
    cbv
    repeat (first | (with_reducible apply next_at hA; cbv) | (rw [q9]; cbv) | (rw [q10]; cbv) | (rw [k1]; cbv) | (rw [k2]; cbv) | (refine call_at hA _ hi rfl ?_; cbv) | (refine calm_at hA _ hi ?_; cbv) | (refine fits_at hA z1 ?_; cbv) | (refine fits_at hA z2 ?_; cbv))
    try cbv
    repeat (first | (with_reducible apply next_at hA; cbv) | (rw [q9]; cbv) | (rw [q10]; cbv) | (rw [k1]; cbv) | (rw [k2]; cbv) | (refine call_at hA _ hi rfl ?_; cbv) | (refine calm_at hA _ hi ?_; cbv) | (refine fits_at hA z1 ?_; cbv) | (refine fits_at hA z2 ?_; cbv))
    try simp (maxSteps := 4000000) only [nc] at *
end Go.Proofs.YtahpnackkmbmgaaGreatDoor.Vm
end

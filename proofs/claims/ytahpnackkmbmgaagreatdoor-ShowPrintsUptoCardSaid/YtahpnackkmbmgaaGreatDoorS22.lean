/- Part 22 of the proof: VPr4, VMark, VAl4, VShP. Conditions: none. -/
import Derived.Test.YtahpnackkmbmgaaGreatDoorS3
import Derived.Test.YtahpnackkmbmgaaGreatDoorS6
import Derived.Test.YtahpnackkmbmgaaGreatDoorS8
import Derived.Test.YtahpnackkmbmgaaGreatDoorS19
import Derived.Test.YtahpnackkmbmgaaGreatDoorS21
set_option linter.all false
set_option linter.unusedVariables false
set_option linter.unusedSimpArgs false
section
namespace Go.Proofs.YtahpnackkmbmgaaGreatDoor.Vm
open Go.RowKit
set_option maxRecDepth 100000
set_option maxHeartbeats 4000000
theorem p4_leaf (nm : ByteArray) (n : Int) (ks : List Ty) (op : Int) (h : op = 1 ∨ op = 2 ∨ op = 3) : Spec 11 [.ag (cT (.mk op nm n ks))] [.one (.sc (.string (bx (if op = 1 then [73, 110, 116] else if op = 2 then [66, 111, 111, 108] else [63]))))] := by
 rw [cT]
 generalize rT ks = K
 rcases h with rfl | rfl | rfl
 ·rw [if_pos rfl]
  show Spec _ _ [.one (.sc (.string ⟨#[73, 110, 116]⟩))]
  refine spec_of Tryz.func11 rfl (by kernel_rfl) (by kernel_rfl) (by kernel_rfl) fun qa qb qc qd qe qf qg qh qi qj qk ql qm qo qp qq qs qt qu qv qw qx qy qz va vc vd ve vf vg vh vj vk vl vm vn vo vp vq vr vt vu hA => ?_
  obtain ⟨e1, e2, e3, e4, e5, e6, e7, e8, e9⟩ := ar_at hA
  have h1 : qj 1 1 = true := e9 _ _
  cbv
  repeat (first | (with_reducible apply next_at hA; cbv) | (rw [h1]; cbv))
  try cbv
  repeat (first | (with_reducible apply next_at hA; cbv) | (rw [h1]; cbv))
  try simp (maxSteps := 4000000) only [nc] at *
 ·rw [if_neg (by decide), if_pos rfl]
  show Spec _ _ [.one (.sc (.string ⟨#[66, 111, 111, 108]⟩))]
  refine spec_of Tryz.func11 rfl (by kernel_rfl) (by kernel_rfl) (by kernel_rfl) fun qa qb qc qd qe qf qg qh qi qj qk ql qm qo qp qq qs qt qu qv qw qx qy qz va vc vd ve vf vg vh vj vk vl vm vn vo vp vq vr vt vu hA => ?_
  obtain ⟨e1, e2, e3, e4, e5, e6, e7, e8, e9⟩ := ar_at hA
  have h1 : qj 2 1 = false := e9 _ _
  have h2 : qj 2 2 = true := e9 _ _
  cbv
  repeat (first | (with_reducible apply next_at hA; cbv) | (rw [h1]; cbv) | (rw [h2]; cbv))
  try cbv
  repeat (first | (with_reducible apply next_at hA; cbv) | (rw [h1]; cbv) | (rw [h2]; cbv))
  try simp (maxSteps := 4000000) only [nc] at *
 ·rw [if_neg (by decide), if_neg (by decide)]
  show Spec _ _ [.one (.sc (.string ⟨#[63]⟩))]
  refine spec_of Tryz.func11 rfl (by kernel_rfl) (by kernel_rfl) (by kernel_rfl) fun qa qb qc qd qe qf qg qh qi qj qk ql qm qo qp qq qs qt qu qv qw qx qy qz va vc vd ve vf vg vh vj vk vl vm vn vo vp vq vr vt vu hA => ?_
  obtain ⟨e1, e2, e3, e4, e5, e6, e7, e8, e9⟩ := ar_at hA
  have h1 : qj 3 1 = false := e9 _ _
  have h2 : qj 3 2 = false := e9 _ _
  have h3 : qj 3 3 = true := e9 _ _
  cbv
  repeat (first | (with_reducible apply next_at hA; cbv) | (rw [h1]; cbv) | (rw [h2]; cbv) | (rw [h3]; cbv))
  try cbv
  repeat (first | (with_reducible apply next_at hA; cbv) | (rw [h1]; cbv) | (rw [h2]; cbv) | (rw [h3]; cbv))
  try simp (maxSteps := 4000000) only [nc] at *
theorem p4_var (nm : ByteArray) (n : Int) (ks : List Ty) (h0 : 0 ≤ n) (h1 : n ≤ 9223372036854775807) : Spec 11 [.ag (cT (.mk 7 nm n ks))] [.one (.sc (.string (bx (39 :: Lib.itoa n))))] := by
 have hi := Num_s n.toNat n (Nat.le_refl _) h0 h1
 have hl := Lib.itoa_length_le n (by omega) h1
 rw [cT]
 generalize rT ks = K
 obtain ⟨RES, hRES⟩ : ∃ S, S = bx (39 :: Lib.itoa n) := ⟨_, rfl⟩
 rw [← hRES]
 have z1 : (⟨#[39]⟩ : ByteArray).size + (bx (Lib.itoa n)).size ≤ 4611686018427387904 := by rw [bx_size, show (⟨#[39]⟩ : ByteArray).size = 1 from rfl]; omega
 refine spec_of Tryz.func11 rfl (by kernel_rfl) (by kernel_rfl) (by kernel_rfl) fun qa qb qc qd qe qf qg qh qi qj qk ql qm qo qp qq qs qt qu qv qw qx qy qz va vc vd ve vf vg vh vj vk vl vm vn vo vp vq vr vt vu hA => ?_
 obtain ⟨e1, e2, e3, e4, e5, e6, e7, e8, e9⟩ := ar_at hA
 obtain ⟨s1, s2, s3, s4, s5, s6, s7⟩ := str_at hA
 have h1 : qj 7 1 = false := e9 _ _
 have h2 : qj 7 2 = false := e9 _ _
 have h3 : qj 7 3 = false := e9 _ _
 have h5 : qj 7 5 = false := e9 _ _
 have h6 : qj 7 6 = false := e9 _ _
 have h7 : qj 7 7 = true := e9 _ _
 have k1 : qp ⟨#[39]⟩ (bx (Lib.itoa n)) = RES := by rw [s4, show (⟨#[39]⟩ : ByteArray) = bx [39] from rfl, bx_cat, hRES]; rfl
 generalize bx (Lib.itoa n) = NT at *
 cbv
 repeat (first | (with_reducible apply next_at hA; cbv) | (rw [h1]; cbv) | (rw [h2]; cbv) | (rw [h3]; cbv) | (rw [h5]; cbv) | (rw [h6]; cbv) | (rw [h7]; cbv) | (rw [k1]; cbv) | (refine call_at hA _ hi rfl ?_; cbv) | (refine calm_at hA _ hi ?_; cbv) | (refine fits_at hA z1 ?_; cbv))
 try cbv
 repeat (first | (with_reducible apply next_at hA; cbv) | (rw [h1]; cbv) | (rw [h2]; cbv) | (rw [h3]; cbv) | (rw [h5]; cbv) | (rw [h6]; cbv) | (rw [h7]; cbv) | (rw [k1]; cbv) | (refine call_at hA _ hi rfl ?_; cbv) | (refine calm_at hA _ hi ?_; cbv) | (refine fits_at hA z1 ?_; cbv))
 try simp (maxSteps := 4000000) only [nc] at *
theorem p4_rec (nm : ByteArray) (n : Int) (a : Ty) (h : Spec 30 [.ag (cT a)] [.one (.sc (.string (rowC a)))]) (hl : (rowT txtS (canonS a)).length ≤ 67108864) : Spec 11 [.ag (cT (.mk 5 nm n [a]))] [.one (.sc (.string (bx (123 :: (rowT txtS (canonS a) ++ [125])))))] := by
 unfold rowC at h
 rw [cT, rT, rT]
 obtain ⟨a0, a1, a2, a3, ha⟩ := cT_four a
 rw [ha] at h ⊢
 obtain ⟨RES, hRES⟩ : ∃ S, S = bx (123 :: (rowT txtS (canonS a) ++ [125])) := ⟨_, rfl⟩
 rw [← hRES]
 obtain ⟨M, hM⟩ : ∃ S, S = bx (123 :: rowT txtS (canonS a)) := ⟨_, rfl⟩
 have z1 : (⟨#[123]⟩ : ByteArray).size + (bx (rowT txtS (canonS a))).size ≤ 4611686018427387904 := by rw [bx_size, show (⟨#[123]⟩ : ByteArray).size = 1 from rfl]; omega
 have z2 : M.size + (⟨#[125]⟩ : ByteArray).size ≤ 4611686018427387904 := by rw [hM, bx_size, show (⟨#[125]⟩ : ByteArray).size = 1 from rfl, List.length_cons]; omega
 obtain ⟨K, hK⟩ : ∃ K, K = [[a0, a1, a2, a3]] := ⟨_, rfl⟩
 rw [← hK]
 refine spec_of Tryz.func11 rfl (by kernel_rfl) (by kernel_rfl) (by kernel_rfl) fun qa qb qc qd qe qf qg qh qi qj qk ql qm qo qp qq qs qt qu qv qw qx qy qz va vc vd ve vf vg vh vj vk vl vm vn vo vp vq vr vt vu hA => ?_
 obtain ⟨e1, e2, e3, e4, e5, e6, e7, e8, e9⟩ := ar_at hA
 obtain ⟨r1, r2, r3, r4⟩ := row_at hA
 obtain ⟨s1, s2, s3, s4, s5, s6, s7⟩ := str_at hA
 have h1 : qj 5 1 = false := e9 _ _
 have h2 : qj 5 2 = false := e9 _ _
 have h3 : qj 5 3 = false := e9 _ _
 have h5 : qj 5 5 = true := e9 _ _
 have k1 : qp ⟨#[123]⟩ (bx (rowT txtS (canonS a))) = M := by rw [s4, show (⟨#[123]⟩ : ByteArray) = bx [123] from rfl, bx_cat, hM]; rfl
 have k2 : qp M ⟨#[125]⟩ = RES := by rw [s4, hM, show (⟨#[125]⟩ : ByteArray) = bx [125] from rfl, bx_cat, hRES]; rfl
 have g0 : qz K 0 = some [a0, a1, a2, a3] := by rw [r2, hK]; rfl
 generalize bx (rowT txtS (canonS a)) = NT at *
 cbv
 repeat (first | (with_reducible apply next_at hA; cbv) | (rw [h1]; cbv) | (rw [h2]; cbv) | (rw [h3]; cbv) | (rw [h5]; cbv) | (rw [g0]; cbv) | (rw [k1]; cbv) | (rw [k2]; cbv) | (refine call_at hA _ h rfl ?_; cbv) | (refine calm_at hA _ h ?_; cbv) | (refine fits_at hA z1 ?_; cbv) | (refine fits_at hA z2 ?_; cbv))
 try cbv
 repeat (first | (with_reducible apply next_at hA; cbv) | (rw [h1]; cbv) | (rw [h2]; cbv) | (rw [h3]; cbv) | (rw [h5]; cbv) | (rw [g0]; cbv) | (rw [k1]; cbv) | (rw [k2]; cbv) | (refine call_at hA _ h rfl ?_; cbv) | (refine calm_at hA _ h ?_; cbv) | (refine fits_at hA z1 ?_; cbv) | (refine fits_at hA z2 ?_; cbv))
 try simp (maxSteps := 4000000) only [nc] at *
theorem p4_vnt (nm : ByteArray) (n : Int) (a : Ty) (h : Spec 30 [.ag (cT a)] [.one (.sc (.string (rowC a)))]) (hl : (rowT txtS (canonS a)).length ≤ 67108864) : Spec 11 [.ag (cT (.mk 6 nm n [a]))] [.one (.sc (.string (bx (60 :: (rowT txtS (canonS a) ++ [62])))))] := by
 unfold rowC at h
 rw [cT, rT, rT]
 obtain ⟨a0, a1, a2, a3, ha⟩ := cT_four a
 rw [ha] at h ⊢
 obtain ⟨RES, hRES⟩ : ∃ S, S = bx (60 :: (rowT txtS (canonS a) ++ [62])) := ⟨_, rfl⟩
 rw [← hRES]
 obtain ⟨M, hM⟩ : ∃ S, S = bx (60 :: rowT txtS (canonS a)) := ⟨_, rfl⟩
 have z1 : (⟨#[60]⟩ : ByteArray).size + (bx (rowT txtS (canonS a))).size ≤ 4611686018427387904 := by rw [bx_size, show (⟨#[60]⟩ : ByteArray).size = 1 from rfl]; omega
 have z2 : M.size + (⟨#[62]⟩ : ByteArray).size ≤ 4611686018427387904 := by rw [hM, bx_size, show (⟨#[62]⟩ : ByteArray).size = 1 from rfl, List.length_cons]; omega
 obtain ⟨K, hK⟩ : ∃ K, K = [[a0, a1, a2, a3]] := ⟨_, rfl⟩
 rw [← hK]
 refine spec_of Tryz.func11 rfl (by kernel_rfl) (by kernel_rfl) (by kernel_rfl) fun qa qb qc qd qe qf qg qh qi qj qk ql qm qo qp qq qs qt qu qv qw qx qy qz va vc vd ve vf vg vh vj vk vl vm vn vo vp vq vr vt vu hA => ?_
 obtain ⟨e1, e2, e3, e4, e5, e6, e7, e8, e9⟩ := ar_at hA
 obtain ⟨r1, r2, r3, r4⟩ := row_at hA
 obtain ⟨s1, s2, s3, s4, s5, s6, s7⟩ := str_at hA
 have h1 : qj 6 1 = false := e9 _ _
 have h2 : qj 6 2 = false := e9 _ _
 have h3 : qj 6 3 = false := e9 _ _
 have h5 : qj 6 5 = false := e9 _ _
 have h6 : qj 6 6 = true := e9 _ _
 have k1 : qp ⟨#[60]⟩ (bx (rowT txtS (canonS a))) = M := by rw [s4, show (⟨#[60]⟩ : ByteArray) = bx [60] from rfl, bx_cat, hM]; rfl
 have k2 : qp M ⟨#[62]⟩ = RES := by rw [s4, hM, show (⟨#[62]⟩ : ByteArray) = bx [62] from rfl, bx_cat, hRES]; rfl
 have g0 : qz K 0 = some [a0, a1, a2, a3] := by rw [r2, hK]; rfl
 generalize bx (rowT txtS (canonS a)) = NT at *
 cbv
 repeat (first | (with_reducible apply next_at hA; cbv) | (rw [h1]; cbv) | (rw [h2]; cbv) | (rw [h3]; cbv) | (rw [h5]; cbv) | (rw [h6]; cbv) | (rw [g0]; cbv) | (rw [k1]; cbv) | (rw [k2]; cbv) | (refine call_at hA _ h rfl ?_; cbv) | (refine calm_at hA _ h ?_; cbv) | (refine fits_at hA z1 ?_; cbv) | (refine fits_at hA z2 ?_; cbv))
 try cbv
 repeat (first | (with_reducible apply next_at hA; cbv) | (rw [h1]; cbv) | (rw [h2]; cbv) | (rw [h3]; cbv) | (rw [h5]; cbv) | (rw [h6]; cbv) | (rw [g0]; cbv) | (rw [k1]; cbv) | (rw [k2]; cbv) | (refine call_at hA _ h rfl ?_; cbv) | (refine calm_at hA _ h ?_; cbv) | (refine fits_at hA z1 ?_; cbv) | (refine fits_at hA z2 ?_; cbv))
 try simp (maxSteps := 4000000) only [nc] at *
theorem p4_fun (nm : ByteArray) (n : Int) (a b : Ty) (x y : List UInt8) (h : Spec 11 [.ag (cT a)] [.one (.sc (.string (bx x)))]) (hh : Spec 11 [.ag (cT b)] [.one (.sc (.string (bx y)))]) (hx : x.length ≤ 67108864) (hy : y.length ≤ 67108864) :
  Spec 11 [.ag (cT (.mk 4 nm n [a, b]))] [.one (.sc (.string (bx ((if a.op = 4 then 40 :: (x ++ [41]) else x) ++ (45 :: 62 :: y)))))] := by
 rw [cT, rT, rT, rT]
 rw [cT_of a] at h ⊢
 obtain ⟨b0, b1, b2, b3, hb⟩ := cT_four b
 rw [hb] at hh ⊢
 obtain ⟨aop, haop⟩ : ∃ o, o = a.op := ⟨_, rfl⟩
 rw [← haop] at h ⊢
 generalize a.name = anm at *
 generalize a.n = an at *
 generalize rT a.kids = aK at *
 obtain ⟨RES, hRES⟩ : ∃ S, S = bx ((if aop = 4 then 40 :: (x ++ [41]) else x) ++ (45 :: 62 :: y)) := ⟨_, rfl⟩
 rw [← hRES]
 obtain ⟨K, hK⟩ : ∃ K, K = [[.sc (.int .u8 aop), .sc (.string anm), .sc (.int .i64 an), .sl 4 aK], [b0, b1, b2, b3]] := ⟨_, rfl⟩
 rw [← hK]
 refine spec_of Tryz.func11 rfl (by kernel_rfl) (by kernel_rfl) (by kernel_rfl) fun qa qb qc qd qe qf qg qh qi qj qk ql qm qo qp qq qs qt qu qv qw qx qy qz va vc vd ve vf vg vh vj vk vl vm vn vo vp vq vr vt vu hA => ?_
 obtain ⟨e1, e2, e3, e4, e5, e6, e7, e8, e9⟩ := ar_at hA
 obtain ⟨r1, r2, r3, r4⟩ := row_at hA
 obtain ⟨s1, s2, s3, s4, s5, s6, s7⟩ := str_at hA
 have hcat : ∀ x y, qp (bx x) (bx y) = bx (x ++ y) := fun x y => by rw [s4, bx_cat]
 have h1 : qj 4 1 = false := e9 _ _
 have h2 : qj 4 2 = false := e9 _ _
 have h3 : qj 4 3 = false := e9 _ _
 have h5 : qj 4 5 = false := e9 _ _
 have h6 : qj 4 6 = false := e9 _ _
 have h7 : qj 4 7 = false := e9 _ _
 have g0 : qz K 0 = some [.sc (.int .u8 aop), .sc (.string anm), .sc (.int .i64 an), .sl 4 aK] := by rw [r2, hK]; rfl
 have g1 : qz K 1 = some [b0, b1, b2, b3] := by rw [r2, hK]; rfl
 by_cases hop : aop = 4
 ·have q4 : qj aop 4 = true := by rw [e9, hop]; rfl
  rw [if_pos hop] at hRES
  obtain ⟨M0, hM0⟩ : ∃ S, S = bx (40 :: x) := ⟨_, rfl⟩
  obtain ⟨M1, hM1⟩ : ∃ S, S = bx (40 :: x ++ [41]) := ⟨_, rfl⟩
  obtain ⟨M2, hM2⟩ : ∃ S, S = bx (40 :: x ++ [41] ++ [45, 62]) := ⟨_, rfl⟩
  have k0 : qp ⟨#[40]⟩ (bx x) = M0 := by rw [show (⟨#[40]⟩ : ByteArray) = bx [40] from rfl, hcat, hM0]; rfl
  have k1 : qp M0 ⟨#[41]⟩ = M1 := by rw [hM0, show (⟨#[41]⟩ : ByteArray) = bx [41] from rfl, hcat, hM1]
  have k2 : qp M1 ⟨#[45, 62]⟩ = M2 := by rw [hM1, show (⟨#[45, 62]⟩ : ByteArray) = bx [45, 62] from rfl, hcat, hM2]
  have k3 : qp M2 (bx y) = RES := by rw [hM2, hcat, hRES]; simp
  have z0 : (⟨#[40]⟩ : ByteArray).size + (bx x).size ≤ 4611686018427387904 := by rw [bx_size, show (⟨#[40]⟩ : ByteArray).size = 1 from rfl]; omega
  have z1 : M0.size + (⟨#[41]⟩ : ByteArray).size ≤ 4611686018427387904 := by rw [hM0, bx_size, show (⟨#[41]⟩ : ByteArray).size = 1 from rfl, List.length_cons]; omega
  have z2 : M1.size + (⟨#[45, 62]⟩ : ByteArray).size ≤ 4611686018427387904 := by rw [hM1, bx_size, show (⟨#[45, 62]⟩ : ByteArray).size = 2 from rfl]; simp only [List.length_append, List.length_cons, List.length_nil]; omega
  have z3 : M2.size + (bx y).size ≤ 4611686018427387904 := by rw [hM2, bx_size, bx_size]; simp only [List.length_append, List.length_cons, List.length_nil]; omega
  generalize bx x = X at *
  generalize bx y = Y at *
  cbv
  repeat (first | (with_reducible apply next_at hA; cbv) | (rw [h1]; cbv) | (rw [h2]; cbv) | (rw [h3]; cbv) | (rw [h5]; cbv) | (rw [h6]; cbv) | (rw [h7]; cbv) | (rw [g0]; cbv) | (rw [g1]; cbv) | (rw [q4]; cbv) | (rw [k0]; cbv) | (rw [k1]; cbv) | (rw [k2]; cbv) | (rw [k3]; cbv) | (refine call_at hA _ h rfl ?_; cbv) | (refine calm_at hA _ h ?_; cbv) | (refine call_at hA _ hh rfl ?_; cbv) | (refine calm_at hA _ hh ?_; cbv) | (refine fits_at hA z0 ?_; cbv) | (refine fits_at hA z1 ?_; cbv) | (refine fits_at hA z2 ?_; cbv) | (refine fits_at hA z3 ?_; cbv))
  try cbv
  repeat (first | (with_reducible apply next_at hA; cbv) | (rw [h1]; cbv) | (rw [h2]; cbv) | (rw [h3]; cbv) | (rw [h5]; cbv) | (rw [h6]; cbv) | (rw [h7]; cbv) | (rw [g0]; cbv) | (rw [g1]; cbv) | (rw [q4]; cbv) | (rw [k0]; cbv) | (rw [k1]; cbv) | (rw [k2]; cbv) | (rw [k3]; cbv) | (refine call_at hA _ h rfl ?_; cbv) | (refine calm_at hA _ h ?_; cbv) | (refine call_at hA _ hh rfl ?_; cbv) | (refine calm_at hA _ hh ?_; cbv) | (refine fits_at hA z0 ?_; cbv) | (refine fits_at hA z1 ?_; cbv) | (refine fits_at hA z2 ?_; cbv) | (refine fits_at hA z3 ?_; cbv))
  try simp (maxSteps := 4000000) only [nc] at *
 ·have q4 : qj aop 4 = false := by rw [e9]; simpa using hop
  rw [if_neg hop] at hRES
  obtain ⟨M2, hM2⟩ : ∃ S, S = bx (x ++ [45, 62]) := ⟨_, rfl⟩
  have k2 : qp (bx x) ⟨#[45, 62]⟩ = M2 := by rw [show (⟨#[45, 62]⟩ : ByteArray) = bx [45, 62] from rfl, hcat, hM2]
  have k3 : qp M2 (bx y) = RES := by rw [hM2, hcat, hRES]; simp
  have z2 : (bx x).size + (⟨#[45, 62]⟩ : ByteArray).size ≤ 4611686018427387904 := by rw [bx_size, show (⟨#[45, 62]⟩ : ByteArray).size = 2 from rfl]; omega
  have z3 : M2.size + (bx y).size ≤ 4611686018427387904 := by rw [hM2, bx_size, bx_size]; simp only [List.length_append, List.length_cons, List.length_nil]; omega
  generalize bx x = X at *
  generalize bx y = Y at *
  cbv
  repeat (first | (with_reducible apply next_at hA; cbv) | (rw [h1]; cbv) | (rw [h2]; cbv) | (rw [h3]; cbv) | (rw [h5]; cbv) | (rw [h6]; cbv) | (rw [h7]; cbv) | (rw [g0]; cbv) | (rw [g1]; cbv) | (rw [q4]; cbv) | (rw [k2]; cbv) | (rw [k3]; cbv) | (refine call_at hA _ h rfl ?_; cbv) | (refine calm_at hA _ h ?_; cbv) | (refine call_at hA _ hh rfl ?_; cbv) | (refine calm_at hA _ hh ?_; cbv) | (refine fits_at hA z2 ?_; cbv) | (refine fits_at hA z3 ?_; cbv))
  try cbv
  repeat (first | (with_reducible apply next_at hA; cbv) | (rw [h1]; cbv) | (rw [h2]; cbv) | (rw [h3]; cbv) | (rw [h5]; cbv) | (rw [h6]; cbv) | (rw [h7]; cbv) | (rw [g0]; cbv) | (rw [g1]; cbv) | (rw [q4]; cbv) | (rw [k2]; cbv) | (rw [k3]; cbv) | (refine call_at hA _ h rfl ?_; cbv) | (refine calm_at hA _ h ?_; cbv) | (refine call_at hA _ hh rfl ?_; cbv) | (refine calm_at hA _ hh ?_; cbv) | (refine fits_at hA z2 ?_; cbv) | (refine fits_at hA z3 ?_; cbv))
  try simp (maxSteps := 4000000) only [nc] at *
theorem kid_tywf {t x : Ty} (h : TyWf t) (hx : x ∈ t.parts) : TyWf x := fun y hy => h y (parts_trans hy hx)
theorem print04_all : ∀ (m : Nat) (t : Ty), t.parts.length ≤ m → m ≤ 1048576 → shapeB wordB t 116 = true → TyWf t → Spec 11 [.ag (cT t)] [.one (.sc (.string (txtB (canonS t))))] := by
 intro m
 induction m with
 | zero => intro t h; have := parts_pos t; omega
 | succ m ih =>
  intro t hm hm2 hs hw
  have hkl := kids_le t
  obtain ⟨h0, hc⟩ := shape_ty hs
  have hn := wf_le hw.self.2.2
  have hlen : ∀ x ∈ t.kids, ∀ c, shapeB wordB x c = true → Mod (canonS x) ∧ (canonS x).parts.length ≤ m := fun x hx c hxs => by
   have h1 := hkl.2 x hx
   refine ⟨mod_shape (canon_shape _ x c (Nat.le_refl _) hxs) fun y hy hv => wf_le (hw.kid hx y (canon_vars _ x c (Nat.le_refl _) hxs y hy hv)).2.2, ?_⟩
   rw [canon_len _ x (Nat.le_refl _) (shape_spineAll hxs)]
   omega
  have ht := Ty.eta t
  rcases hc with ⟨hop, hk⟩ | ⟨hop, a, b, hk, hsa, hsb⟩ | ⟨hop, a, hk, hsa⟩
  ·rw [canon_node (by omega), hk, List.map_nil]
   rcases hop with h | h | h | h
   ·rw [ht, h, hk]; exact p4_leaf _ _ _ 1 (.inl rfl)
   ·rw [ht, h, hk]; exact p4_leaf _ _ _ 2 (.inr (.inl rfl))
   ·rw [ht, h, hk]; exact p4_leaf _ _ _ 3 (.inr (.inr rfl))
   ·rw [ht, h, hk]
    have := p4_var t.name t.n [] h0 hn
    unfold txtB
    rw [show txtS (.mk (Ty.mk 7 t.name t.n []).op (Ty.mk 7 t.name t.n []).name (Ty.mk 7 t.name t.n []).n []) = 39 :: Lib.itoa t.n by rw [txt_eq]; rfl]
    exact this
  ·have h1 := hkl.2 a (by rw [hk]; simp)
   have h2 := hkl.2 b (by rw [hk]; simp)
   have ha := ih a (by omega) (by omega) hsa (hw.kid (by rw [hk]; simp))
   have hb := ih b (by omega) (by omega) hsb (hw.kid (by rw [hk]; simp))
   obtain ⟨ma, la⟩ := hlen a (by rw [hk]; simp) _ hsa
   obtain ⟨mb, lb⟩ := hlen b (by rw [hk]; simp) _ hsb
   have xa := txt_room ma (by omega)
   have xb := txt_room mb (by omega)
   have hp := p4_fun t.name t.n a b (txtS (canonS a)) (txtS (canonS b)) ha hb xa xb
   rw [canon_node (by omega), hk]
   unfold txtB
   rw [show txtS (.mk t.op t.name t.n ([a, b].map canonS)) = fromW txtS (canonS a) ++ (45 :: 62 :: txtS (canonS b)) by rw [hop, txt_eq]; rfl]
   unfold fromW
   rw [canon_op_any (shape_spineAll hsa).self]
   rw [show cT t = cT (.mk 4 t.name t.n [a, b]) from congrArg cT (by rw [← hop, ← hk]; exact ht)]
   exact hp
  ·have h1 := hkl.2 a (by rw [hk]; simp)
   obtain ⟨ma, la⟩ := hlen a (by rw [hk]; simp) _ hsa
   have xa : (rowT txtS (canonS a)).length ≤ 67108864 := by
    have := row_le ma true
    unfold rowT
    omega
   have hr := row_text wordB a hsa (shape_spineAll hsa).self (by omega) (fun x hx => wf_le (hw.kid (by rw [hk]; simp) x hx).2.2) xa fun f hf => by
    have h3 := fields_less _ a (Nat.le_refl _) f hf
    have h4 := fields_mem _ a (Nat.le_refl _) f hf
    exact ih f.2 (by omega) (by omega) ((fields_shape hsa).1 f hf).2 (kid_tywf (hw.kid (by rw [hk]; simp)) h4)
   rw [canon_node (by omega), hk]
   unfold txtB
   rcases hop with h | h
   ·have hp := p4_rec t.name t.n a hr xa
    rw [show txtS (.mk t.op t.name t.n ([a].map canonS)) = 123 :: (rowT txtS (canonS a) ++ [125]) by rw [h, txt_eq]; rfl]
    rw [show cT t = cT (.mk 5 t.name t.n [a]) from congrArg cT (by rw [← h, ← hk]; exact ht)]
    exact hp
   ·have hp := p4_vnt t.name t.n a hr xa
    rw [show txtS (.mk t.op t.name t.n ([a].map canonS)) = 60 :: (rowT txtS (canonS a) ++ [62]) by rw [h, txt_eq]; rfl]
    rw [show cT t = cT (.mk 6 t.name t.n [a]) from congrArg cT (by rw [← h, ← hk]; exact ht)]
    exact hp
theorem Print04_s (t : Ty) (hN : t.parts.length ≤ 1048576) (hw : TyWf t) (hs : shapeB wordB t 116 = true) : Spec 11 [.ag (cT t)] [.one (.sc (.string (txtB (canonS t))))] := print04_all _ t (Nat.le_refl _) hN hs hw
end Go.Proofs.YtahpnackkmbmgaaGreatDoor.Vm
end
section
namespace Go.Proofs.YtahpnackkmbmgaaGreatDoor.Vm
open Go.RowKit
set_option maxRecDepth 100000
set_option maxHeartbeats 4000000
theorem mark_heap {w : World} {b T m : Nat} {cur : Array Value} (h : w.heap[b]? = some (.cells cur T (0, 0))) : (w.freeze ⟨b, m, none⟩ 1).heap[b]? = some (.cells cur T (m, m + 1)) := by
 unfold World.freeze
 rw [if_neg (by decide)]
 simp only [Array.getElem?_modify, if_true, h]
 simp
theorem mark_other {w : World} {b m c : Nat} (hc : c ≠ b) : (w.freeze ⟨b, m, none⟩ 1).heap[c]? = w.heap[c]? := by
 unfold World.freeze
 rw [if_neg (by decide)]
 simp only [Array.getElem?_modify]
 rw [if_neg (Ne.symm hc)]
theorem mark_rest (w : World) (b m : Nat) : (w.freeze ⟨b, m, none⟩ 1).os = w.os ∧ (w.freeze ⟨b, m, none⟩ 1).tape = w.tape ∧ (w.freeze ⟨b, m, none⟩ 1).output = w.output ∧ (w.freeze ⟨b, m, none⟩ 1).heap.size = w.heap.size := by
 unfold World.freeze
 rw [if_neg (by decide)]
 exact ⟨rfl, rfl, rfl, by simp⟩
theorem mark_real {t : Nat} {x : Operand} {d : Option Nat} {s : S} {K : S → Prop} {k e : Nat} {z : Bool} {rows : List (List D)} (ht : tyKnown t = true) (hby : isByte t = true) (he : (ty t).elem = some e) (hx : s.get x = .own k) (hk : getO s.o k = .row z e rows) (hne : rows ≠ [])
  (hK : K (S.put ⟨s.t, setO s.o k .dead⟩ d (.d (.sl (ty e).sz rows)))) : real.ext (.convert t t x) d s K := by
 rintro I0 X w0 a w o Q ho hdst hop ⟨I, g, h⟩
 obtain ⟨I2, h2, hI⟩ := h.freeze k
 have hf : frz1 s.o k = setO s.o k (.row true e rows) := by unfold frz1; rw [hk]
 rw [hf] at h2
 have hk0 := getO_some hk (by simp)
 have hlt : k < s.o.length := (List.getElem?_eq_some_iff.1 hk0).1
 have hk2 : (setO s.o k (.row true e rows))[k]? = some (.row true e rows) := by rw [setO_is, List.getElem?_set_self hlt]
 have hv : AtV I2 w g (a.eval x) (.own k) := by have := h.get x; rw [hx] at this; exact this.mono hI (Keeps.refl _ _)
 have hk3 : getO (setO s.o k (.row true e rows)) k = .row true e rows := by
  have : ∀ (l : List O) (k : Nat) (o : O), l[k]? = some o → getO l k = o := by
   intro l
   induction l with
   | nil => intro k o h; simp at h
   | cons y l ih => intro k o h; cases k with | zero => simp at h; exact h | succ k => exact ih k o (by simpa using h)
  exact this _ _ _ hk2
 have hat : AtD I2 w (a.eval x) (.sl (ty e).sz rows) := toD_at h2 hv (by show (match getO (setO s.o k (.row true e rows)) k with | .row true e rows => some (D.sl (ty e).sz rows) | _ => none) = _; rw [hk3])
 obtain ⟨us, hown, hrl, hdr, hbk⟩ := h2.obj k _ hk2
 have hgv : a.eval x = g k := hv.unown.1.trans (own_gv hown)
 rcases hown.2 with ⟨_, hz⟩ | ⟨b, cap, cur, e0, _, hb, hnc, hcm, hcs, htake⟩
 ·exact absurd (List.eq_nil_of_length_eq_zero hz) hne
 obtain ⟨e', he', hke, hkk⟩ := isByte_at hby
 rw [he] at he'
 obtain rfl : e = e' := Option.some.inj he'
 have hrun : (convert t t (a.eval x)).run Tryz.prog w = .ok (a.eval x) (w.freeze ⟨b, cur.size, none⟩ 1) := by
  have hsh : w.shape? b = some (e, cur.size) := by simp [World.shape?, hb]
  rw [hgv, e0]
  simp [convert, run_underlying (ty_slice ht he), run_underlying (ty_int hke hkk), markStringish, hsh, Result.andThen]
 obtain ⟨f1, f2, f3, f4⟩ := mark_rest w b cur.size
 have hgb : gbl (g k) b := by rw [e0]; rfl
 have hcell : ∀ i, (w.freeze ⟨b, cur.size, none⟩ 1).cell? ⟨b, i, none⟩ = w.cell? ⟨b, i, none⟩ := fun i => by
  rw [cell_get hb]
  unfold World.cell?
  rw [mark_heap hb]
  simp
 have h3 := h2.deadTo (k := k) (o := .row true e rows) hk2 (by simp) (w' := w.freeze ⟨b, cur.size, none⟩ 1) hgb f1 f2 f3 f4 (fun c hc => mark_other hc) hcell
 have hkp : Keeps I2 w (w.freeze ⟨b, cur.size, none⟩ 1) := fun b' n hb' i hi => by
  by_cases eb : b' = b
  ·subst eb; exact hcell i
  ·exact blk_cell (mark_other eb) i
 have hso : (setO s.o k (.row true e rows)).set k .dead = setO s.o k .dead := by rw [setO_is, setO_is, List.set_set]
 rw [hso] at h3
 unfold Oper.wp
 have hex : (execOp a.eval o).run Tryz.prog w = .ok (.value (a.eval x)) (w.freeze ⟨b, cur.size, none⟩ 1) := by
  unfold execOp
  rw [ho]
  simp only [Sem.run_bind, hrun, Result.andThen_ok, Sem.run_pure]
 rw [hex, Oper.upon_value, hdst]
 exact ⟨_, ⟨I2, g, h3.put (.d (hat.mono (fun _ _ h => h) hkp)) _⟩, hK⟩
section
variable {qa : IntKind → Int → Int} {qb : Int → Int → Int} {qc : Int → Int → Int} {qd : Int → Int → Int} {qe : Int → Int → Int} {qf : Int → Int → Int} {qg : BinOp → IntKind → Int → IntKind → Int → Option Int} {qh : Int → Int → Bool} {qi : Int → Int → Bool} {qj : Int → Int → Bool} {qk : Int → Prop → Prop} {ql : List UInt8 → List UInt8 → Bool} {qm : List UInt8 → List UInt8 → Bool} {qo : ByteArray → List UInt8} {qp : ByteArray → ByteArray → ByteArray} {qq : ByteArray → ByteArray → Prop → Prop} {qs : ByteArray → Int} {qt : ByteArray → Int → Option Int} {qu : ByteArray → Int → Int → Option ByteArray} {qv : List (List D) → Option ByteArray} {qw : ByteArray → List (List D)} {qx : Int → Nat → Option Nat} {qy : List (List D) → Int} {qz : List (List D) → Int → Option (List D)} {va : List (List D) → Int → Int → Option (List (List D))} {vc : List (List D) → List (List D) → List (List D)} {vd : List (List D) → Int → List D → List (List D)} {ve : List (List D) → List (List D) → Prop → Prop} {vf : List (R × R) → R → Option R} {vg : List (R × R) → R → R → List (R × R)} {vh : Int → List D → (List (List D) → Prop) → Prop} {vj : Nat → List R → (List R → Prop) → Prop} {vk : Nat → List V → List O → (V → Prop) → Prop} {vl : Nat → List V → S → (V → S → Prop) → Prop} {vm : Nat → List V → List Nat → S → (V → S → Prop) → Prop} {vn : Nat → (Bool → Prop) → Prop} {vo : Nat → (Bool → Prop) → Prop} {vp : Nat → (List V → List O → Prop) → List V → S → Prop} {vq : (S → Prop) → S → Prop} {vr : Op → Option Nat → S → (S → Prop) → Prop} {vt : Array Oper → S → (S → Prop) → Prop} {vu : Code → (S → (X → S → Prop) → Prop) → S → (X → S → Prop) → Prop}
theorem mark_at (hA : Ar.mk qa qb qc qd qe qf qg qh qi qj qk ql qm qo qp qq qs qt qu qv qw qx qy qz va vc vd ve vf vg vh vj vk vl vm vn vo vp vq vr vt vu = real) {t : Nat} {x : Operand} {d : Option Nat} {s : S} {K : S → Prop} (k e : Nat) {z : Bool} {rows : List (List D)} (ht : tyKnown t = true) (hby : isByte t = true) (he : (ty t).elem = some e) (hx : s.get x = .own k) (hk : getO s.o k = .row z e rows) (hne : rows ≠ [])
  (hK : K (S.put ⟨s.t, setO s.o k .dead⟩ d (.d (.sl (ty e).sz rows)))) : vr (.convert t t x) d s K := ext_at hA (mark_real ht hby he hx hk hne hK)
end
end Go.Proofs.YtahpnackkmbmgaaGreatDoor.Vm
end
section
namespace Go.Proofs.YtahpnackkmbmgaaGreatDoor.Vm
open Go.RowKit
set_option maxRecDepth 100000
set_option maxHeartbeats 4000000
def zA4 : ByteArray := ⟨#[97]⟩
def zB4 : ByteArray := ⟨#[98]⟩
def zE4 : ByteArray := ⟨#[]⟩
def ty4 : Ty := .mk 5 zE4 0 [.mk 11 zA4 0 [.mk 4 zE4 0 [.mk 3 zE4 0 [], .mk 2 zE4 0 []], .mk 11 zB4 0 [.mk 1 zE4 0 [], .mk 9 zE4 0 []]]]
theorem d4_is : cT ty4 = d4 := by kernel_rfl
theorem sm4_at (t : Ty) (h1 : Nat.ble t.parts.length 1048576 = true) (h2 : (t.parts.all fun x => Nat.ble x.name.size 1048576) = true) : Sm t :=
 ⟨Nat.le_of_ble_eq_true h1, fun x hx => Nat.le_of_ble_eq_true (List.all_eq_true.1 h2 x hx)⟩
theorem wf4_at (t : Ty) (h : (t.parts.all fun x => Nat.ble x.name.size 1048576 && ((Lit.int .u8 x.op).wf && (Lit.int .i64 x.n).wf)) = true) : TyWf t := fun x hx => by
 have h1 := List.all_eq_true.1 h x hx
 rw [Bool.and_eq_true, Bool.and_eq_true] at h1
 exact ⟨Nat.le_trans (Nat.le_of_ble_eq_true h1.1) (by decide), h1.2.1, h1.2.2⟩
theorem txt4 : txtB (canonS ty4) = ⟨#[123, 97, 58, 63, 45, 62, 66, 111, 111, 108, 44, 98, 58, 73, 110, 116, 124, 63, 125]⟩ := by kernel_rfl
theorem print4 : Spec 9 [.ag d4] [.one (.sc (.string ⟨#[123, 97, 58, 63, 45, 62, 66, 111, 111, 108, 44, 98, 58, 73, 110, 116, 124, 63, 125]⟩)), .one (.sc (.int .u8 0))] := by
 have h1 := Print_s ty4 (sm4_at _ (by kernel_rfl) (by kernel_rfl)) (wf4_at _ (by kernel_rfl)) (by kernel_rfl)
 rw [txt4, d4_is] at h1
 exact h1
theorem alive4_s : Spec 7 [] [.one (.sc (.bool true))] := by
 have h1 := parse_lit
 have h2 := print4
 unfold b4 d4 at h1
 unfold d4 at h2
 refine spec_of Tryz.func7 rfl (by kernel_rfl) (by kernel_rfl) (by kernel_rfl) fun qa qb qc qd qe qf qg qh qi qj qk ql qm qo qp qq qs qt qu qv qw qx qy qz va vc vd ve vf vg vh vj vk vl vm vn vo vp vq vr vt vu hA => ?_
 obtain ⟨e1, e2, e3, e4, e5, e6, e7, e8, e9⟩ := ar_at hA
 obtain ⟨s1, s2, s3, s4, s5, s6, s7⟩ := str_at hA
 cbv
 repeat ((with_reducible apply next_at hA); cbv)
 refine lit_at hA false ?_
 cbv
 refine new_at hA true ?_
 cbv
 refine mark_at hA 0 5 (by kernel_rfl) (by kernel_rfl) rfl rfl rfl (by simp) ?_
 cbv
 have q1 : qj (qa .i64 (qb (qa .i64 0) (qa .i64 0))) 0 = true := by rw [e9, e1, e1, e2]; rfl
 obtain ⟨S, hS⟩ : ∃ S, S = (⟨#[123, 97, 58, 63, 45, 62, 66, 111, 111, 108, 44, 98, 58, 73, 110, 116, 124, 63, 125]⟩ : ByteArray) := ⟨_, rfl⟩
 rw [← hS] at h2
 have q2 : ql (qo S) (qo ⟨#[123, 97, 58, 63, 45, 62, 66, 111, 111, 108, 44, 98, 58, 73, 110, 116, 124, 63, 125]⟩) = true := by rw [s1, hS]; exact beq_self_eq_true _
 cbv
 repeat (first | (with_reducible apply next_at hA; cbv) | (rw [q1]; cbv) | (rw [q2]; cbv) | (refine call_at hA _ h1 rfl ?_; cbv) | (refine calm_at hA _ h1 ?_; cbv) | (refine call_at hA _ h2 rfl ?_; cbv) | (refine calm_at hA _ h2 ?_; cbv))
 try cbv
 repeat (first | (with_reducible apply next_at hA; cbv) | (rw [q1]; cbv) | (rw [q2]; cbv) | (refine call_at hA _ h1 rfl ?_; cbv) | (refine calm_at hA _ h1 ?_; cbv) | (refine call_at hA _ h2 rfl ?_; cbv) | (refine calm_at hA _ h2 ?_; cbv))
 try simp (maxSteps := 4000000) only [nc] at *
end Go.Proofs.YtahpnackkmbmgaaGreatDoor.Vm
end
section
namespace Go.Proofs.YtahpnackkmbmgaaGreatDoor.Vm
open Go.RowKit
set_option maxRecDepth 100000
set_option maxHeartbeats 4000000
theorem many4_s (t : Ty) (hN : t.parts.length ≤ 1048576) : Spec 8 [.ag (cT t)] [.one (.sc (.bool (decide (400 < t.parts.length))))] := by
 have h1 := Parts_s t hN
 have hl : (rT t.parts).length = t.parts.length := rT_len _
 generalize rT t.parts = P at *
 generalize t.parts.length = n at *
 obtain ⟨a0, a1, a2, a3, ha⟩ := cT_four t
 rw [ha] at h1 ⊢
 obtain ⟨b, hb⟩ : ∃ b, b = decide (400 < n) := ⟨_, rfl⟩
 rw [← hb]
 refine spec_of Tryz.func8 rfl (by kernel_rfl) (by kernel_rfl) (by kernel_rfl) fun qa qb qc qd qe qf qg qh qi qj qk ql qm qo qp qq qs qt qu qv qw qx qy qz va vc vd ve vf vg vh vj vk vl vm vn vo vp vq vr vt vu hA => ?_
 obtain ⟨e1, e2, e3, e4, e5, e6, e7, e8, e9⟩ := ar_at hA
 obtain ⟨r1, r2, r3, r4⟩ := row_at hA
 have q : qh 400 (qy P) = b := by rw [e7, r1, hl, hb]; exact decide_eq_decide.2 (by omega)
 cbv
 repeat (first | (with_reducible apply next_at hA; cbv) | (rw [q]; cbv) | (refine call_at hA _ h1 rfl ?_; cbv) | (refine calm_at hA _ h1 ?_; cbv))
 try cbv
 repeat (first | (with_reducible apply next_at hA; cbv) | (rw [q]; cbv) | (refine call_at hA _ h1 rfl ?_; cbv) | (refine calm_at hA _ h1 ?_; cbv))
 try simp (maxSteps := 4000000) only [nc] at *
theorem SP_s (t : Ty) (ht : Sm t) (hw : TyWf t) : Spec 3 [.ag (cT t)] [.one (.sc (.bool true))] := by
 have hal := alive4_s
 have hm := many4_s t ht.1
 have hR := Right_s t ht.1 ht.2
 by_cases h400 : 400 < t.parts.length
 ·rw [decide_eq_true h400] at hm
  obtain ⟨a0, a1, a2, a3, ha⟩ := cT_four t
  rw [ha] at hm ⊢
  refine spec_of Tryz.func3 rfl (by kernel_rfl) (by kernel_rfl) (by kernel_rfl) fun qa qb qc qd qe qf qg qh qi qj qk ql qm qo qp qq qs qt qu qv qw qx qy qz va vc vd ve vf vg vh vj vk vl vm vn vo vp vq vr vt vu hA => ?_
  cbv
  repeat (first | (with_reducible apply next_at hA; cbv) | (refine call_at hA _ hal rfl ?_; cbv) | (refine calm_at hA _ hal ?_; cbv) | (refine call_at hA _ hm rfl ?_; cbv) | (refine calm_at hA _ hm ?_; cbv))
  try cbv
  repeat (first | (with_reducible apply next_at hA; cbv) | (refine call_at hA _ hal rfl ?_; cbv) | (refine calm_at hA _ hal ?_; cbv) | (refine call_at hA _ hm rfl ?_; cbv) | (refine calm_at hA _ hm ?_; cbv))
  try simp (maxSteps := 4000000) only [nc] at *
 ·rw [decide_eq_false h400] at hm
  cases hr : rightB t 116 with
  | false =>
   have hP := Print_no t ht hr
   rw [hr] at hR
   obtain ⟨a0, a1, a2, a3, ha⟩ := cT_four t
   rw [ha] at hm hR hP ⊢
   refine spec_of Tryz.func3 rfl (by kernel_rfl) (by kernel_rfl) (by kernel_rfl) fun qa qb qc qd qe qf qg qh qi qj qk ql qm qo qp qq qs qt qu qv qw qx qy qz va vc vd ve vf vg vh vj vk vl vm vn vo vp vq vr vt vu hA => ?_
   obtain ⟨e1, e2, e3, e4, e5, e6, e7, e8, e9⟩ := ar_at hA
   obtain ⟨s1, s2, s3, s4, s5, s6, s7⟩ := str_at hA
   have q1 : qj (qa .i64 15) 15 = true := by rw [e9, e1]; rfl
   have q2 : ql (qo ⟨#[]⟩) (qo ⟨#[]⟩) = true := by rw [s1]; exact beq_self_eq_true _
   cbv
   repeat (first | (with_reducible apply next_at hA; cbv) | (rw [q1]; cbv) | (rw [q2]; cbv) | (refine call_at hA _ hal rfl ?_; cbv) | (refine calm_at hA _ hal ?_; cbv) | (refine call_at hA _ hm rfl ?_; cbv) | (refine calm_at hA _ hm ?_; cbv) | (refine call_at hA _ hP rfl ?_; cbv) | (refine calm_at hA _ hP ?_; cbv) | (refine call_at hA _ hR rfl ?_; cbv) | (refine calm_at hA _ hR ?_; cbv))
   try cbv
   repeat (first | (with_reducible apply next_at hA; cbv) | (rw [q1]; cbv) | (rw [q2]; cbv) | (refine call_at hA _ hal rfl ?_; cbv) | (refine calm_at hA _ hal ?_; cbv) | (refine call_at hA _ hm rfl ?_; cbv) | (refine calm_at hA _ hm ?_; cbv) | (refine call_at hA _ hP rfl ?_; cbv) | (refine calm_at hA _ hP ?_; cbv) | (refine call_at hA _ hR rfl ?_; cbv) | (refine calm_at hA _ hR ?_; cbv))
   try simp (maxSteps := 4000000) only [nc] at *
  | true =>
   have hP := Print_s t ht hw hr
   have hQ := Print04_s t ht.1 hw (right_shape hr).1
   rw [hr] at hR
   generalize txtB (canonS t) = S at *
   obtain ⟨a0, a1, a2, a3, ha⟩ := cT_four t
   rw [ha] at hm hR hP hQ ⊢
   refine spec_of Tryz.func3 rfl (by kernel_rfl) (by kernel_rfl) (by kernel_rfl) fun qa qb qc qd qe qf qg qh qi qj qk ql qm qo qp qq qs qt qu qv qw qx qy qz va vc vd ve vf vg vh vj vk vl vm vn vo vp vq vr vt vu hA => ?_
   obtain ⟨e1, e2, e3, e4, e5, e6, e7, e8, e9⟩ := ar_at hA
   obtain ⟨s1, s2, s3, s4, s5, s6, s7⟩ := str_at hA
   have q1 : qj (qa .i64 0) 0 = true := by rw [e9, e1]; rfl
   have q2 : ql (qo S) (qo S) = true := by rw [s1]; exact beq_self_eq_true _
   cbv
   repeat (first | (with_reducible apply next_at hA; cbv) | (rw [q1]; cbv) | (rw [q2]; cbv) | (refine call_at hA _ hal rfl ?_; cbv) | (refine calm_at hA _ hal ?_; cbv) | (refine call_at hA _ hm rfl ?_; cbv) | (refine calm_at hA _ hm ?_; cbv) | (refine call_at hA _ hP rfl ?_; cbv) | (refine calm_at hA _ hP ?_; cbv) | (refine call_at hA _ hR rfl ?_; cbv) | (refine calm_at hA _ hR ?_; cbv) | (refine call_at hA _ hQ rfl ?_; cbv) | (refine calm_at hA _ hQ ?_; cbv))
   try cbv
   repeat (first | (with_reducible apply next_at hA; cbv) | (rw [q1]; cbv) | (rw [q2]; cbv) | (refine call_at hA _ hal rfl ?_; cbv) | (refine calm_at hA _ hal ?_; cbv) | (refine call_at hA _ hm rfl ?_; cbv) | (refine calm_at hA _ hm ?_; cbv) | (refine call_at hA _ hP rfl ?_; cbv) | (refine calm_at hA _ hP ?_; cbv) | (refine call_at hA _ hR rfl ?_; cbv) | (refine calm_at hA _ hR ?_; cbv) | (refine call_at hA _ hQ rfl ?_; cbv) | (refine calm_at hA _ hQ ?_; cbv))
   try simp (maxSteps := 4000000) only [nc] at *
set_option maxRecDepth 100000 in
theorem SP_up {r0 : R} {m0 : Nat} (d0 : DeepR Tryz.prog 25 r0 m0) (hm : m0 ≤ 1048576) : Spec 3 [r0] [.one (.sc (.bool true))] := by
 obtain ⟨t, rfl, h1, hw, h2⟩ := open_ty d0
 exact SP_s t ⟨by omega, fun x hx => by have := h2 x hx; omega⟩ hw
end Go.Proofs.YtahpnackkmbmgaaGreatDoor.Vm
end

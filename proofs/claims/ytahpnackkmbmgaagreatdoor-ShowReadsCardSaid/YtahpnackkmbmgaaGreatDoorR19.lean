/- Part 19 of the proof: VZ2. Conditions: none. -/
import Derived.Test.YtahpnackkmbmgaaGreatDoorR18
set_option linter.all false
set_option linter.unusedVariables false
set_option linter.unusedSimpArgs false
section
namespace Go.Proofs.YtahpnackkmbmgaaGreatDoor.Vm
open Go.RowKit
set_option maxRecDepth 100000
set_option maxHeartbeats 4000000
section
section
variable {qa:IntKind → Int → Int} {qb:Int → Int → Int} {qc:Int → Int → Int} {qd:Int → Int → Int} {qe:Int → Int → Int} {qg:Int → Int → Int} {qh:BinOp → IntKind → Int → IntKind → Int → Option Int} {qi:Int → Int → Bool} {qj:Int → Int → Bool} {qk:Int → Int → Bool} {ql:Int → Prop → Prop} {qm:List UInt8 → List UInt8 → Bool} {qn:List UInt8 → List UInt8 → Bool} {qo:ByteArray → List UInt8} {qp:ByteArray → ByteArray → ByteArray} {qq:ByteArray → ByteArray → Prop → Prop} {qt:ByteArray → Int} {qu:ByteArray → Int → Option Int} {qv:ByteArray → Int → Int → Option ByteArray} {qw:List (List D) → Option ByteArray} {qx:ByteArray → List (List D)} {qy:Int → Nat → Option Nat} {qz:List (List D) → Int} {va:List (List D) → Int → Option (List D)} {vc:List (List D) → Int → Int → Option (List (List D))} {vd:List (List D) → List (List D) → List (List D)} {ve:List (List D) → Int → List D → List (List D)} {vf:List (List D) → List (List D) → Prop → Prop} {vg:List (R × R) → R → Option R} {vh:List (R × R) → R → R → List (R × R)} {vj:List D → List D → Bool} {vk:Int → List D → (List (List D) → Prop) → Prop} {vl:Nat → List R → (List R → Prop) → Prop} {vm:Nat → List V → List O → (V → Prop) → Prop} {vn:Nat → List V → S → (V → S → Prop) → Prop} {vo:Nat → List V → List Nat → S → (V → S → Prop) → Prop} {vp:Nat → (Bool → Prop) → Prop} {vq:Nat → (Bool → Prop) → Prop} {vr:Nat → (List V → List O → Prop) → List V → S → Prop} {vt:(S → Prop) → S → Prop} {vu:Op → Option Nat → S → (S → Prop) → Prop} {vv:Array Oper → S → (S → Prop) → Prop} {vw:Code → (S → (X → S → Prop) → Prop) → S → (X → S → Prop) → Prop}
theorem fx_at (hA:Ar.mk qa qb qc qd qe qg qh qi qj qk ql qm qn qo qp qq qt qu qv qw qx qy qz va vc vd ve vf vg vh vj vk vl vm vn vo vp vq vr vt vu vv vw = real):qi 0 (qz ([[.sc (.string gInt)],[.sc (.string gBool)],[.sc (.string gDyn)]]:List (List D))) = true ∧ qi 1 (qz ([[.sc (.string gInt)],[.sc (.string gBool)],[.sc (.string gDyn)]]:List (List D))) = true ∧ qi 2 (qz ([[.sc (.string gInt)],[.sc (.string gBool)],[.sc (.string gDyn)]]:List (List D))) = true ∧ qi 3 (qz ([[.sc (.string gInt)],[.sc (.string gBool)],[.sc (.string gDyn)]]:List (List D))) = false ∧ va ([[.sc (.string gInt)],[.sc (.string gBool)],[.sc (.string gDyn)]]:List (List D)) 0 = some [.sc (.string gInt)] ∧ va ([[.sc (.string gInt)],[.sc (.string gBool)],[.sc (.string gDyn)]]:List (List D)) 1 = some [.sc (.string gBool)] ∧ va ([[.sc (.string gInt)],[.sc (.string gBool)],[.sc (.string gDyn)]]:List (List D)) 2 = some [.sc (.string gDyn)] ∧ qa .i64 (qb 0 1) = 1 ∧ qa .i64 (qb 1 1) = 2 ∧ qa .i64 (qb 2 1) = 3 ∧ qa .u8 1 = 1 ∧ qa .u8 2 = 2 ∧ qa .u8 3 = 3:=by
 obtain ⟨e1,e2,e3,e4,e5,e6,e7,e8,e9⟩:=ar_at hA
 obtain ⟨r1,r2,r3,r4⟩:=row_at hA
 simp only [e1,e2,e7,r1,r2]
 exact ⟨rfl,rfl,rfl,rfl,rfl,rfl,rfl,rfl,rfl,rfl,rfl,rfl,rfl⟩
end
section
variable {T:List (List D)} {a L n n1 c:Int} {t:Ty}
theorem za_0 (ha0:0 ≤ a) (ha:a ≤ 1048576) (h0:SgN T gInt a true):RdZ 39 T a L (lf0 1) (a + 1) 0:=by
 obtain ⟨b,hb⟩:∃ b,b = a + 1:=⟨_,rfl⟩
 rw [← hb]
 unfold lf0
 refine spec_of Tryz.func39 rfl (by kernel_rfl) (by kernel_rfl) (by kernel_rfl) fun qa qb qc qd qe qg qh qi qj qk ql qm qn qo qp qq qt qu qv qw qx qy qz va vc vd ve vf vg vh vj vk vl vm vn vo vp vq vr vt vu vv vw hA=>?_
 obtain ⟨e1,e2,e3,e4,e5,e6,e7,e8,e9⟩:=ar_at hA
 obtain ⟨p0,p1,p2,p3,k0,k1,k2,w1,w2,w3,u1,u2,u3⟩:=fx_at hA
 have g1:qa .i64 (qb a 1) = b:=by rw [e1,e2,IntWalk.i64_in _ (by omega)];exact hb.symm
 iterate 2 (try cbv;repeat ((first | with_reducible apply next_at hA | refine lit_at hA true ?_);cbv))
 try simp (maxSteps:=4000000) only [nc] at *
 refine loop_at hA (γ:=Int) (fun x=>[(10,vi .i64 x)]) (fun x=>[]) (fun x=>x = 0) (fun x=>3 - x.toNat) 0 ?_ ?_ ?_
 ·exact rfl
 ·cbv
 ·intro x hx
  cbv
  have hy:x = 0:=hx
  clear hx
  rw [hy]
  iterate 2 (try cbv;repeat ((first | with_reducible apply next_at hA | rw [p0] | rw [k0] | rw [w1] | rw [u1] | rw [g1] | refine call_at hA _ h0 rfl ?_ | refine calm_at hA _ h0 ?_);cbv))
  try simp (maxSteps:=4000000) only [nc] at *
theorem za_1 (ha0:0 ≤ a) (ha:a ≤ 1048576) (h0:SgN T gInt a false) (h1:SgN T gBool a true):RdZ 39 T a L (lf0 2) (a + 1) 0:=by
 obtain ⟨b,hb⟩:∃ b,b = a + 1:=⟨_,rfl⟩
 rw [← hb]
 unfold lf0
 refine spec_of Tryz.func39 rfl (by kernel_rfl) (by kernel_rfl) (by kernel_rfl) fun qa qb qc qd qe qg qh qi qj qk ql qm qn qo qp qq qt qu qv qw qx qy qz va vc vd ve vf vg vh vj vk vl vm vn vo vp vq vr vt vu vv vw hA=>?_
 obtain ⟨e1,e2,e3,e4,e5,e6,e7,e8,e9⟩:=ar_at hA
 obtain ⟨p0,p1,p2,p3,k0,k1,k2,w1,w2,w3,u1,u2,u3⟩:=fx_at hA
 have g1:qa .i64 (qb a 1) = b:=by rw [e1,e2,IntWalk.i64_in _ (by omega)];exact hb.symm
 iterate 2 (try cbv;repeat ((first | with_reducible apply next_at hA | refine lit_at hA true ?_);cbv))
 try simp (maxSteps:=4000000) only [nc] at *
 refine loop_at hA (γ:=Int) (fun x=>[(10,vi .i64 x)]) (fun x=>[]) (fun x=>x = 0 ∨ x = 1) (fun x=>3 - x.toNat) 0 ?_ ?_ ?_
 ·exact (.inl rfl)
 ·cbv
 ·intro x hx
  cbv
  have hy:x = 0 ∨ x = 1:=hx
  clear hx
  rcases hy with h | h
  ·rw [h]
   iterate 2 (try cbv;repeat ((first | with_reducible apply next_at hA | rw [p0] | rw [k0] | rw [w1] | refine call_at hA _ h0 rfl ?_ | refine calm_at hA _ h0 ?_);cbv))
   try simp (maxSteps:=4000000) only [nc] at *
   exact ⟨1,(.inr rfl),by decide,by cbv⟩
  ·rw [h]
   iterate 2 (try cbv;repeat ((first | with_reducible apply next_at hA | rw [p1] | rw [k1] | rw [w2] | rw [u2] | rw [g1] | refine call_at hA _ h1 rfl ?_ | refine calm_at hA _ h1 ?_);cbv))
   try simp (maxSteps:=4000000) only [nc] at *
theorem za_2 (ha0:0 ≤ a) (ha:a ≤ 1048576) (h0:SgN T gInt a false) (h1:SgN T gBool a false) (h2:SgN T gDyn a true):RdZ 39 T a L (lf0 3) (a + 1) 0:=by
 obtain ⟨b,hb⟩:∃ b,b = a + 1:=⟨_,rfl⟩
 rw [← hb]
 unfold lf0
 refine spec_of Tryz.func39 rfl (by kernel_rfl) (by kernel_rfl) (by kernel_rfl) fun qa qb qc qd qe qg qh qi qj qk ql qm qn qo qp qq qt qu qv qw qx qy qz va vc vd ve vf vg vh vj vk vl vm vn vo vp vq vr vt vu vv vw hA=>?_
 obtain ⟨e1,e2,e3,e4,e5,e6,e7,e8,e9⟩:=ar_at hA
 obtain ⟨p0,p1,p2,p3,k0,k1,k2,w1,w2,w3,u1,u2,u3⟩:=fx_at hA
 have g1:qa .i64 (qb a 1) = b:=by rw [e1,e2,IntWalk.i64_in _ (by omega)];exact hb.symm
 iterate 2 (try cbv;repeat ((first | with_reducible apply next_at hA | refine lit_at hA true ?_);cbv))
 try simp (maxSteps:=4000000) only [nc] at *
 refine loop_at hA (γ:=Int) (fun x=>[(10,vi .i64 x)]) (fun x=>[]) (fun x=>x = 0 ∨ x = 1 ∨ x = 2) (fun x=>3 - x.toNat) 0 ?_ ?_ ?_
 ·exact (.inl rfl)
 ·cbv
 ·intro x hx
  cbv
  have hy:x = 0 ∨ x = 1 ∨ x = 2:=hx
  clear hx
  rcases hy with h | h | h
  ·rw [h]
   iterate 2 (try cbv;repeat ((first | with_reducible apply next_at hA | rw [p0] | rw [k0] | rw [w1] | refine call_at hA _ h0 rfl ?_ | refine calm_at hA _ h0 ?_);cbv))
   try simp (maxSteps:=4000000) only [nc] at *
   exact ⟨1,(.inr (.inl rfl)),by decide,by cbv⟩
  ·rw [h]
   iterate 2 (try cbv;repeat ((first | with_reducible apply next_at hA | rw [p1] | rw [k1] | rw [w2] | refine call_at hA _ h1 rfl ?_ | refine calm_at hA _ h1 ?_);cbv))
   try simp (maxSteps:=4000000) only [nc] at *
   exact ⟨2,(.inr (.inr rfl)),by decide,by cbv⟩
  ·rw [h]
   iterate 2 (try cbv;repeat ((first | with_reducible apply next_at hA | rw [p2] | rw [k2] | rw [w3] | rw [u3] | rw [g1] | refine call_at hA _ h2 rfl ?_ | refine calm_at hA _ h2 ?_);cbv))
   try simp (maxSteps:=4000000) only [nc] at *
theorem za_opene (ha0:0 ≤ a) (ha:a ≤ 1048576) (hL0:0 ≤ L) (hL:L ≤ 1048576) (h0:SgN T gInt a false) (h1:SgN T gBool a false) (h2:SgN T gDyn a false) (h3:SgN T gOpen a true) (hr:RdZ 18 T (a + 1) (L + 1) (cT t) n c) (hc:c ≠ 0) (hc1:2 ≤ c) (hn0:0 ≤ n) (hn:n ≤ 1048576):RdZ 39 T a L (cT t) n c:=by
 obtain ⟨x0,x1,x2,x3,hx⟩:=cT_four t
 rw [hx] at hr ⊢
 obtain ⟨b,hb⟩:∃ z,z = a + 1:=⟨_,rfl⟩
 obtain ⟨M,hM⟩:∃ z,z = L + 1:=⟨_,rfl⟩
 rw [← hb,← hM] at hr
 obtain ⟨m,hm⟩:∃ z,z = n + 1:=⟨_,rfl⟩
 refine spec_of Tryz.func39 rfl (by kernel_rfl) (by kernel_rfl) (by kernel_rfl) fun qa qb qc qd qe qg qh qi qj qk ql qm qn qo qp qq qt qu qv qw qx qy qz va vc vd ve vf vg vh vj vk vl vm vn vo vp vq vr vt vu vv vw hA=>?_
 obtain ⟨e1,e2,e3,e4,e5,e6,e7,e8,e9⟩:=ar_at hA
 obtain ⟨p0,p1,p2,p3,k0,k1,k2,w1,w2,w3,u1,u2,u3⟩:=fx_at hA
 have g1:qa .i64 (qb a 1) = b:=by rw [e1,e2,IntWalk.i64_in _ (by omega)];omega
 have g2:qa .i64 (qb L 1) = M:=by rw [e1,e2,IntWalk.i64_in _ (by omega)];omega
 have g3:qk c 0 = false:=by rw [e9];exact decide_eq_false hc
 have g4:qa .i64 (qb n 1) = m:=by rw [e1,e2,IntWalk.i64_in _ (by omega)];omega
 have g5:qi 1 c = true:=by rw [e7];exact decide_eq_true (by omega)
 have g8:qa .i64 (qc m 1) = n:=by rw [e1,e3,IntWalk.i64_in _ (by omega)];omega
 iterate 2 (try cbv;repeat ((first | with_reducible apply next_at hA | refine lit_at hA true ?_);cbv))
 try simp (maxSteps:=4000000) only [nc] at *
 refine loop_at hA (γ:=Int) (fun x=>[(10,vi .i64 x)]) (fun x=>[]) (fun x=>x = 0 ∨ x = 1 ∨ x = 2 ∨ x = 3) (fun x=>3 - x.toNat) 0 ?_ ?_ ?_
 ·exact (.inl rfl)
 ·cbv
 ·intro x hx
  cbv
  have hy:x = 0 ∨ x = 1 ∨ x = 2 ∨ x = 3:=hx
  clear hx
  rcases hy with h | h | h | h
  ·rw [h]
   iterate 2 (try cbv;repeat ((first | with_reducible apply next_at hA | rw [p0] | rw [k0] | rw [w1] | refine call_at hA _ h0 rfl ?_ | refine calm_at hA _ h0 ?_);cbv))
   try simp (maxSteps:=4000000) only [nc] at *
   exact ⟨1,(.inr (.inl rfl)),by decide,by cbv⟩
  ·rw [h]
   iterate 2 (try cbv;repeat ((first | with_reducible apply next_at hA | rw [p1] | rw [k1] | rw [w2] | refine call_at hA _ h1 rfl ?_ | refine calm_at hA _ h1 ?_);cbv))
   try simp (maxSteps:=4000000) only [nc] at *
   exact ⟨2,(.inr (.inr (.inl rfl))),by decide,by cbv⟩
  ·rw [h]
   iterate 2 (try cbv;repeat ((first | with_reducible apply next_at hA | rw [p2] | rw [k2] | rw [w3] | refine call_at hA _ h2 rfl ?_ | refine calm_at hA _ h2 ?_);cbv))
   try simp (maxSteps:=4000000) only [nc] at *
   exact ⟨3,(.inr (.inr (.inr rfl))),by decide,by cbv⟩
  ·rw [h]
   iterate 2 (try cbv;repeat ((first | with_reducible apply next_at hA | rw [p3] | rw [g1] | rw [g2] | rw [g3] | rw [g4] | rw [g5] | rw [g8] | refine call_at hA _ h0 rfl ?_ | refine calm_at hA _ h0 ?_ | refine call_at hA _ h1 rfl ?_ | refine calm_at hA _ h1 ?_ | refine call_at hA _ h2 rfl ?_ | refine calm_at hA _ h2 ?_ | refine call_at hA _ h3 rfl ?_ | refine calm_at hA _ h3 ?_ | refine call_at hA _ hr rfl ?_ | refine calm_at hA _ hr ?_);cbv))
   try simp (maxSteps:=4000000) only [nc] at *
theorem za_open (ha0:0 ≤ a) (ha:a ≤ 1048576) (hL0:0 ≤ L) (hL:L ≤ 1048576) (h0:SgN T gInt a false) (h1:SgN T gBool a false) (h2:SgN T gDyn a false) (h3:SgN T gOpen a true) (hr:RdZ 18 T (a + 1) (L + 1) (cT t) n 0) (h4:SgN T gShut n true) (hn0:0 ≤ n) (hn:n ≤ 1048576):RdZ 39 T a L (cT t) (n + 1) 0:=by
 obtain ⟨x0,x1,x2,x3,hx⟩:=cT_four t
 rw [hx] at hr ⊢
 obtain ⟨b,hb⟩:∃ z,z = a + 1:=⟨_,rfl⟩
 obtain ⟨M,hM⟩:∃ z,z = L + 1:=⟨_,rfl⟩
 rw [← hb,← hM] at hr
 obtain ⟨m,hm⟩:∃ z,z = n + 1:=⟨_,rfl⟩
 rw [← hm]
 refine spec_of Tryz.func39 rfl (by kernel_rfl) (by kernel_rfl) (by kernel_rfl) fun qa qb qc qd qe qg qh qi qj qk ql qm qn qo qp qq qt qu qv qw qx qy qz va vc vd ve vf vg vh vj vk vl vm vn vo vp vq vr vt vu vv vw hA=>?_
 obtain ⟨e1,e2,e3,e4,e5,e6,e7,e8,e9⟩:=ar_at hA
 obtain ⟨p0,p1,p2,p3,k0,k1,k2,w1,w2,w3,u1,u2,u3⟩:=fx_at hA
 have g1:qa .i64 (qb a 1) = b:=by rw [e1,e2,IntWalk.i64_in _ (by omega)];omega
 have g2:qa .i64 (qb L 1) = M:=by rw [e1,e2,IntWalk.i64_in _ (by omega)];omega
 have g3:qk 0 0 = true:=by rw [e9];rfl
 have g4:qa .i64 (qb n 1) = m:=by rw [e1,e2,IntWalk.i64_in _ (by omega)];omega
 have g5:qi 1 0 = false:=by rw [e7];rfl
 have g8:qa .i64 (qc m 0) = m:=by rw [e1,e3,IntWalk.i64_in _ (by omega)];omega
 iterate 2 (try cbv;repeat ((first | with_reducible apply next_at hA | refine lit_at hA true ?_);cbv))
 try simp (maxSteps:=4000000) only [nc] at *
 refine loop_at hA (γ:=Int) (fun x=>[(10,vi .i64 x)]) (fun x=>[]) (fun x=>x = 0 ∨ x = 1 ∨ x = 2 ∨ x = 3) (fun x=>3 - x.toNat) 0 ?_ ?_ ?_
 ·exact (.inl rfl)
 ·cbv
 ·intro x hx
  cbv
  have hy:x = 0 ∨ x = 1 ∨ x = 2 ∨ x = 3:=hx
  clear hx
  rcases hy with h | h | h | h
  ·rw [h]
   iterate 2 (try cbv;repeat ((first | with_reducible apply next_at hA | rw [p0] | rw [k0] | rw [w1] | refine call_at hA _ h0 rfl ?_ | refine calm_at hA _ h0 ?_);cbv))
   try simp (maxSteps:=4000000) only [nc] at *
   exact ⟨1,(.inr (.inl rfl)),by decide,by cbv⟩
  ·rw [h]
   iterate 2 (try cbv;repeat ((first | with_reducible apply next_at hA | rw [p1] | rw [k1] | rw [w2] | refine call_at hA _ h1 rfl ?_ | refine calm_at hA _ h1 ?_);cbv))
   try simp (maxSteps:=4000000) only [nc] at *
   exact ⟨2,(.inr (.inr (.inl rfl))),by decide,by cbv⟩
  ·rw [h]
   iterate 2 (try cbv;repeat ((first | with_reducible apply next_at hA | rw [p2] | rw [k2] | rw [w3] | refine call_at hA _ h2 rfl ?_ | refine calm_at hA _ h2 ?_);cbv))
   try simp (maxSteps:=4000000) only [nc] at *
   exact ⟨3,(.inr (.inr (.inr rfl))),by decide,by cbv⟩
  ·rw [h]
   iterate 2 (try cbv;repeat ((first | with_reducible apply next_at hA | rw [p3] | rw [g1] | rw [g2] | rw [g3] | rw [g4] | rw [g5] | rw [g8] | refine call_at hA _ h0 rfl ?_ | refine calm_at hA _ h0 ?_ | refine call_at hA _ h1 rfl ?_ | refine calm_at hA _ h1 ?_ | refine call_at hA _ h2 rfl ?_ | refine calm_at hA _ h2 ?_ | refine call_at hA _ h3 rfl ?_ | refine calm_at hA _ h3 ?_ | refine call_at hA _ hr rfl ?_ | refine calm_at hA _ hr ?_ | refine call_at hA _ h4 rfl ?_ | refine calm_at hA _ h4 ?_);cbv))
   try simp (maxSteps:=4000000) only [nc] at *
theorem za_openm (ha0:0 ≤ a) (ha:a ≤ 1048576) (hL0:0 ≤ L) (hL:L ≤ 1048576) (h0:SgN T gInt a false) (h1:SgN T gBool a false) (h2:SgN T gDyn a false) (h3:SgN T gOpen a true) (hr:RdZ 18 T (a + 1) (L + 1) (cT t) n 0) (h4:SgN T gShut n false) (hn0:0 ≤ n) (hn:n ≤ 1048576):RdZ 39 T a L (cT t) n 5:=by
 obtain ⟨x0,x1,x2,x3,hx⟩:=cT_four t
 rw [hx] at hr ⊢
 obtain ⟨b,hb⟩:∃ z,z = a + 1:=⟨_,rfl⟩
 obtain ⟨M,hM⟩:∃ z,z = L + 1:=⟨_,rfl⟩
 rw [← hb,← hM] at hr
 obtain ⟨m,hm⟩:∃ z,z = n + 1:=⟨_,rfl⟩
 refine spec_of Tryz.func39 rfl (by kernel_rfl) (by kernel_rfl) (by kernel_rfl) fun qa qb qc qd qe qg qh qi qj qk ql qm qn qo qp qq qt qu qv qw qx qy qz va vc vd ve vf vg vh vj vk vl vm vn vo vp vq vr vt vu vv vw hA=>?_
 obtain ⟨e1,e2,e3,e4,e5,e6,e7,e8,e9⟩:=ar_at hA
 obtain ⟨p0,p1,p2,p3,k0,k1,k2,w1,w2,w3,u1,u2,u3⟩:=fx_at hA
 have g1:qa .i64 (qb a 1) = b:=by rw [e1,e2,IntWalk.i64_in _ (by omega)];omega
 have g2:qa .i64 (qb L 1) = M:=by rw [e1,e2,IntWalk.i64_in _ (by omega)];omega
 have g3:qk 0 0 = true:=by rw [e9];rfl
 have g4:qa .i64 (qb n 1) = m:=by rw [e1,e2,IntWalk.i64_in _ (by omega)];omega
 have g5:qi 1 5 = true:=by rw [e7];rfl
 have g8:qa .i64 (qc m 1) = n:=by rw [e1,e3,IntWalk.i64_in _ (by omega)];omega
 iterate 2 (try cbv;repeat ((first | with_reducible apply next_at hA | refine lit_at hA true ?_);cbv))
 try simp (maxSteps:=4000000) only [nc] at *
 refine loop_at hA (γ:=Int) (fun x=>[(10,vi .i64 x)]) (fun x=>[]) (fun x=>x = 0 ∨ x = 1 ∨ x = 2 ∨ x = 3) (fun x=>3 - x.toNat) 0 ?_ ?_ ?_
 ·exact (.inl rfl)
 ·cbv
 ·intro x hx
  cbv
  have hy:x = 0 ∨ x = 1 ∨ x = 2 ∨ x = 3:=hx
  clear hx
  rcases hy with h | h | h | h
  ·rw [h]
   iterate 2 (try cbv;repeat ((first | with_reducible apply next_at hA | rw [p0] | rw [k0] | rw [w1] | refine call_at hA _ h0 rfl ?_ | refine calm_at hA _ h0 ?_);cbv))
   try simp (maxSteps:=4000000) only [nc] at *
   exact ⟨1,(.inr (.inl rfl)),by decide,by cbv⟩
  ·rw [h]
   iterate 2 (try cbv;repeat ((first | with_reducible apply next_at hA | rw [p1] | rw [k1] | rw [w2] | refine call_at hA _ h1 rfl ?_ | refine calm_at hA _ h1 ?_);cbv))
   try simp (maxSteps:=4000000) only [nc] at *
   exact ⟨2,(.inr (.inr (.inl rfl))),by decide,by cbv⟩
  ·rw [h]
   iterate 2 (try cbv;repeat ((first | with_reducible apply next_at hA | rw [p2] | rw [k2] | rw [w3] | refine call_at hA _ h2 rfl ?_ | refine calm_at hA _ h2 ?_);cbv))
   try simp (maxSteps:=4000000) only [nc] at *
   exact ⟨3,(.inr (.inr (.inr rfl))),by decide,by cbv⟩
  ·rw [h]
   iterate 2 (try cbv;repeat ((first | with_reducible apply next_at hA | rw [p3] | rw [g1] | rw [g2] | rw [g3] | rw [g4] | rw [g5] | rw [g8] | refine call_at hA _ h0 rfl ?_ | refine calm_at hA _ h0 ?_ | refine call_at hA _ h1 rfl ?_ | refine calm_at hA _ h1 ?_ | refine call_at hA _ h2 rfl ?_ | refine calm_at hA _ h2 ?_ | refine call_at hA _ h3 rfl ?_ | refine calm_at hA _ h3 ?_ | refine call_at hA _ hr rfl ?_ | refine calm_at hA _ hr ?_ | refine call_at hA _ h4 rfl ?_ | refine calm_at hA _ h4 ?_);cbv))
   try simp (maxSteps:=4000000) only [nc] at *
end
end
end Go.Proofs.YtahpnackkmbmgaaGreatDoor.Vm
end

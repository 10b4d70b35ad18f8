/- Part 20 of the proof: VZ3. Conditions: none. -/
import Derived.Test.YtahpnackkmbmgaaGreatDoorR19
set_option linter.all false
set_option linter.unusedVariables false
set_option linter.unusedSimpArgs false
section
namespace Go.Proofs.YtahpnackkmbmgaaGreatDoor.Vm
open Go.RowKit
set_option maxRecDepth 100000
set_option maxHeartbeats 4000000
section
section
variable {T:List (List D)} {a L n n1 c:Int} {t:Ty}
theorem za_none (ha0:0 ≤ a) (ha:a ≤ 1048576) (hL0:0 ≤ L) (hL:L ≤ 1048576) (h0:SgN T gInt a false) (h1:SgN T gBool a false) (h2:SgN T gDyn a false) (h3:SgN T gOpen a false) (h4:SgN T gVnt a false) (h5:SgN T gRec a false):RdZ 39 T a L (lf0 0) a 5:=by
 unfold lf0
 refine spec_of Tryz.func39 rfl (by kernel_rfl) (by kernel_rfl) (by kernel_rfl) fun qa qb qc qd qe qg qh qi qj qk ql qm qn qo qp qq qt qu qv qw qx qy qz va vc vd ve vf vg vh vj vk vl vm vn vo vp vq vr vt vu vv vw hA=>?_
 obtain ⟨e1,e2,e3,e4,e5,e6,e7,e8,e9⟩:=ar_at hA
 obtain ⟨p0,p1,p2,p3,k0,k1,k2,w1,w2,w3,u1,u2,u3⟩:=fx_at hA
 iterate 2 (try cbv;repeat ((first | with_reducible apply next_at hA | refine lit_at hA true ?_);cbv))
 try simp (maxSteps:=4000000) only [nc] at *
 refine loop_at hA (γ:=Int) (fun x=>[(10,vi .i64 x)]) (fun x=>[]) (fun x=>x = 0 ∨ x = 1 ∨ x = 2 ∨ x = 3) (fun x=>3 - x.toNat) 0 ?_ ?_ ?_
 ·exact (.inl rfl)
 ·cbv
 ·intro x hx
  cbv
  have hy:x = 0 ∨ x = 1 ∨ x = 2 ∨ x = 3:=hx
  clear hx
  rcases hy with h | h | h | h
  ·rw [h]
   iterate 2 (try cbv;repeat ((first | with_reducible apply next_at hA | rw [p0] | rw [k0] | rw [w1] | refine call_at hA _ h0 rfl ?_ | refine calm_at hA _ h0 ?_);cbv))
   try simp (maxSteps:=4000000) only [nc] at *
   exact ⟨1,(.inr (.inl rfl)),by decide,by cbv⟩
  ·rw [h]
   iterate 2 (try cbv;repeat ((first | with_reducible apply next_at hA | rw [p1] | rw [k1] | rw [w2] | refine call_at hA _ h1 rfl ?_ | refine calm_at hA _ h1 ?_);cbv))
   try simp (maxSteps:=4000000) only [nc] at *
   exact ⟨2,(.inr (.inr (.inl rfl))),by decide,by cbv⟩
  ·rw [h]
   iterate 2 (try cbv;repeat ((first | with_reducible apply next_at hA | rw [p2] | rw [k2] | rw [w3] | refine call_at hA _ h2 rfl ?_ | refine calm_at hA _ h2 ?_);cbv))
   try simp (maxSteps:=4000000) only [nc] at *
   exact ⟨3,(.inr (.inr (.inr rfl))),by decide,by cbv⟩
  ·rw [h]
   iterate 2 (try cbv;repeat ((first | with_reducible apply next_at hA | rw [p3] | refine call_at hA _ h0 rfl ?_ | refine calm_at hA _ h0 ?_ | refine call_at hA _ h1 rfl ?_ | refine calm_at hA _ h1 ?_ | refine call_at hA _ h2 rfl ?_ | refine calm_at hA _ h2 ?_ | refine call_at hA _ h3 rfl ?_ | refine calm_at hA _ h3 ?_ | refine call_at hA _ h4 rfl ?_ | refine calm_at hA _ h4 ?_ | refine call_at hA _ h5 rfl ?_ | refine calm_at hA _ h5 ?_);cbv))
   try simp (maxSteps:=4000000) only [nc] at *
theorem za_re (ha0:0 ≤ a) (ha:a ≤ 1048576) (hL0:0 ≤ L) (hL:L ≤ 1048576) (h0:SgN T gInt a false) (h1:SgN T gBool a false) (h2:SgN T gDyn a false) (h3:SgN T gOpen a false) (h4:SgN T gVnt a false) (h5:SgN T gRec a true) {R:List (List D)} (hf:FdZ T (a + 1) L R n c) (hc:c ≠ 0):RdZ 39 T a L (lf0 0) n c:=by
 obtain ⟨b,hb⟩:∃ z,z = a + 1:=⟨_,rfl⟩
 rw [← hb] at hf
 unfold lf0
 refine spec_of Tryz.func39 rfl (by kernel_rfl) (by kernel_rfl) (by kernel_rfl) fun qa qb qc qd qe qg qh qi qj qk ql qm qn qo qp qq qt qu qv qw qx qy qz va vc vd ve vf vg vh vj vk vl vm vn vo vp vq vr vt vu vv vw hA=>?_
 obtain ⟨e1,e2,e3,e4,e5,e6,e7,e8,e9⟩:=ar_at hA
 obtain ⟨p0,p1,p2,p3,k0,k1,k2,w1,w2,w3,u1,u2,u3⟩:=fx_at hA
 have g1:qa .i64 (qb a 1) = b:=by rw [e1,e2,IntWalk.i64_in _ (by omega)];omega
 have g2:qk c 0 = false:=by rw [e9];exact decide_eq_false hc
 iterate 2 (try cbv;repeat ((first | with_reducible apply next_at hA | refine lit_at hA true ?_);cbv))
 try simp (maxSteps:=4000000) only [nc] at *
 refine loop_at hA (γ:=Int) (fun x=>[(10,vi .i64 x)]) (fun x=>[]) (fun x=>x = 0 ∨ x = 1 ∨ x = 2 ∨ x = 3) (fun x=>3 - x.toNat) 0 ?_ ?_ ?_
 ·exact (.inl rfl)
 ·cbv
 ·intro x hx
  cbv
  have hy:x = 0 ∨ x = 1 ∨ x = 2 ∨ x = 3:=hx
  clear hx
  rcases hy with h | h | h | h
  ·rw [h]
   iterate 2 (try cbv;repeat ((first | with_reducible apply next_at hA | rw [p0] | rw [k0] | rw [w1] | refine call_at hA _ h0 rfl ?_ | refine calm_at hA _ h0 ?_);cbv))
   try simp (maxSteps:=4000000) only [nc] at *
   exact ⟨1,(.inr (.inl rfl)),by decide,by cbv⟩
  ·rw [h]
   iterate 2 (try cbv;repeat ((first | with_reducible apply next_at hA | rw [p1] | rw [k1] | rw [w2] | refine call_at hA _ h1 rfl ?_ | refine calm_at hA _ h1 ?_);cbv))
   try simp (maxSteps:=4000000) only [nc] at *
   exact ⟨2,(.inr (.inr (.inl rfl))),by decide,by cbv⟩
  ·rw [h]
   iterate 2 (try cbv;repeat ((first | with_reducible apply next_at hA | rw [p2] | rw [k2] | rw [w3] | refine call_at hA _ h2 rfl ?_ | refine calm_at hA _ h2 ?_);cbv))
   try simp (maxSteps:=4000000) only [nc] at *
   exact ⟨3,(.inr (.inr (.inr rfl))),by decide,by cbv⟩
  ·rw [h]
   iterate 2 (try cbv;repeat ((first | with_reducible apply next_at hA | rw [p3] | rw [g1] | rw [g2] | refine call_at hA _ h0 rfl ?_ | refine calm_at hA _ h0 ?_ | refine call_at hA _ h1 rfl ?_ | refine calm_at hA _ h1 ?_ | refine call_at hA _ h2 rfl ?_ | refine calm_at hA _ h2 ?_ | refine call_at hA _ h3 rfl ?_ | refine calm_at hA _ h3 ?_ | refine call_at hA _ h4 rfl ?_ | refine calm_at hA _ h4 ?_ | refine call_at hA _ h5 rfl ?_ | refine calm_at hA _ h5 ?_ | refine call_at hA _ hf rfl ?_ | refine calm_at hA _ hf ?_);cbv))
   try simp (maxSteps:=4000000) only [nc] at *
theorem za_rq (ha0:0 ≤ a) (ha:a ≤ 1048576) (hL0:0 ≤ L) (hL:L ≤ 1048576) (h0:SgN T gInt a false) (h1:SgN T gBool a false) (h2:SgN T gDyn a false) (h3:SgN T gOpen a false) (h4:SgN T gVnt a false) (h5:SgN T gRec a true) {R:List (List D)} (hf:FdZ T (a + 1) L R n 0) (hn0:0 ≤ n) (hn:n ≤ 1048576) (h6:SgN T gBar n true) (h7:SgN T gDyn (n + 1) false):RdZ 39 T a L (lf0 0) (n + 1) 5:=by
 obtain ⟨b,hb⟩:∃ z,z = a + 1:=⟨_,rfl⟩
 rw [← hb] at hf
 obtain ⟨m,hm⟩:∃ z,z = n + 1:=⟨_,rfl⟩
 rw [← hm] at h7 ⊢
 unfold lf0
 refine spec_of Tryz.func39 rfl (by kernel_rfl) (by kernel_rfl) (by kernel_rfl) fun qa qb qc qd qe qg qh qi qj qk ql qm qn qo qp qq qt qu qv qw qx qy qz va vc vd ve vf vg vh vj vk vl vm vn vo vp vq vr vt vu vv vw hA=>?_
 obtain ⟨e1,e2,e3,e4,e5,e6,e7,e8,e9⟩:=ar_at hA
 obtain ⟨p0,p1,p2,p3,k0,k1,k2,w1,w2,w3,u1,u2,u3⟩:=fx_at hA
 have g1:qa .i64 (qb a 1) = b:=by rw [e1,e2,IntWalk.i64_in _ (by omega)];omega
 have g2:qk 0 0 = true:=by rw [e9];rfl
 have g3:qa .i64 (qb n 1) = m:=by rw [e1,e2,IntWalk.i64_in _ (by omega)];omega
 iterate 2 (try cbv;repeat ((first | with_reducible apply next_at hA | refine lit_at hA true ?_);cbv))
 try simp (maxSteps:=4000000) only [nc] at *
 refine loop_at hA (γ:=Int) (fun x=>[(10,vi .i64 x)]) (fun x=>[]) (fun x=>x = 0 ∨ x = 1 ∨ x = 2 ∨ x = 3) (fun x=>3 - x.toNat) 0 ?_ ?_ ?_
 ·exact (.inl rfl)
 ·cbv
 ·intro x hx
  cbv
  have hy:x = 0 ∨ x = 1 ∨ x = 2 ∨ x = 3:=hx
  clear hx
  rcases hy with h | h | h | h
  ·rw [h]
   iterate 2 (try cbv;repeat ((first | with_reducible apply next_at hA | rw [p0] | rw [k0] | rw [w1] | refine call_at hA _ h0 rfl ?_ | refine calm_at hA _ h0 ?_);cbv))
   try simp (maxSteps:=4000000) only [nc] at *
   exact ⟨1,(.inr (.inl rfl)),by decide,by cbv⟩
  ·rw [h]
   iterate 2 (try cbv;repeat ((first | with_reducible apply next_at hA | rw [p1] | rw [k1] | rw [w2] | refine call_at hA _ h1 rfl ?_ | refine calm_at hA _ h1 ?_);cbv))
   try simp (maxSteps:=4000000) only [nc] at *
   exact ⟨2,(.inr (.inr (.inl rfl))),by decide,by cbv⟩
  ·rw [h]
   iterate 2 (try cbv;repeat ((first | with_reducible apply next_at hA | rw [p2] | rw [k2] | rw [w3] | refine call_at hA _ h2 rfl ?_ | refine calm_at hA _ h2 ?_);cbv))
   try simp (maxSteps:=4000000) only [nc] at *
   exact ⟨3,(.inr (.inr (.inr rfl))),by decide,by cbv⟩
  ·rw [h]
   iterate 2 (try cbv;repeat ((first | with_reducible apply next_at hA | rw [p3] | rw [g1] | rw [g2] | rw [g3] | refine call_at hA _ h0 rfl ?_ | refine calm_at hA _ h0 ?_ | refine call_at hA _ h1 rfl ?_ | refine calm_at hA _ h1 ?_ | refine call_at hA _ h2 rfl ?_ | refine calm_at hA _ h2 ?_ | refine call_at hA _ h3 rfl ?_ | refine calm_at hA _ h3 ?_ | refine call_at hA _ h4 rfl ?_ | refine calm_at hA _ h4 ?_ | refine call_at hA _ h5 rfl ?_ | refine calm_at hA _ h5 ?_ | refine call_at hA _ hf rfl ?_ | refine calm_at hA _ hf ?_ | refine call_at hA _ h6 rfl ?_ | refine calm_at hA _ h6 ?_ | refine call_at hA _ h7 rfl ?_ | refine calm_at hA _ h7 ?_);cbv))
   try simp (maxSteps:=4000000) only [nc] at *
theorem za_rm0 (ha0:0 ≤ a) (ha:a ≤ 1048576) (hL0:0 ≤ L) (hL:L ≤ 1048576) (h0:SgN T gInt a false) (h1:SgN T gBool a false) (h2:SgN T gDyn a false) (h3:SgN T gOpen a false) (h4:SgN T gVnt a false) (h5:SgN T gRec a true) {R:List (List D)} (hf:FdZ T (a + 1) L R n 0) (hn0:0 ≤ n) (hn:n ≤ 1048576) (h6:SgN T gBar n false) (h8:SgN T gRecE n false):RdZ 39 T a L (lf0 0) n 5:=by
 obtain ⟨b,hb⟩:∃ z,z = a + 1:=⟨_,rfl⟩
 rw [← hb] at hf
 unfold lf0
 refine spec_of Tryz.func39 rfl (by kernel_rfl) (by kernel_rfl) (by kernel_rfl) fun qa qb qc qd qe qg qh qi qj qk ql qm qn qo qp qq qt qu qv qw qx qy qz va vc vd ve vf vg vh vj vk vl vm vn vo vp vq vr vt vu vv vw hA=>?_
 obtain ⟨e1,e2,e3,e4,e5,e6,e7,e8,e9⟩:=ar_at hA
 obtain ⟨p0,p1,p2,p3,k0,k1,k2,w1,w2,w3,u1,u2,u3⟩:=fx_at hA
 have g1:qa .i64 (qb a 1) = b:=by rw [e1,e2,IntWalk.i64_in _ (by omega)];omega
 have g2:qk 0 0 = true:=by rw [e9];rfl
 iterate 2 (try cbv;repeat ((first | with_reducible apply next_at hA | refine lit_at hA true ?_);cbv))
 try simp (maxSteps:=4000000) only [nc] at *
 refine loop_at hA (γ:=Int) (fun x=>[(10,vi .i64 x)]) (fun x=>[]) (fun x=>x = 0 ∨ x = 1 ∨ x = 2 ∨ x = 3) (fun x=>3 - x.toNat) 0 ?_ ?_ ?_
 ·exact (.inl rfl)
 ·cbv
 ·intro x hx
  cbv
  have hy:x = 0 ∨ x = 1 ∨ x = 2 ∨ x = 3:=hx
  clear hx
  rcases hy with h | h | h | h
  ·rw [h]
   iterate 2 (try cbv;repeat ((first | with_reducible apply next_at hA | rw [p0] | rw [k0] | rw [w1] | refine call_at hA _ h0 rfl ?_ | refine calm_at hA _ h0 ?_);cbv))
   try simp (maxSteps:=4000000) only [nc] at *
   exact ⟨1,(.inr (.inl rfl)),by decide,by cbv⟩
  ·rw [h]
   iterate 2 (try cbv;repeat ((first | with_reducible apply next_at hA | rw [p1] | rw [k1] | rw [w2] | refine call_at hA _ h1 rfl ?_ | refine calm_at hA _ h1 ?_);cbv))
   try simp (maxSteps:=4000000) only [nc] at *
   exact ⟨2,(.inr (.inr (.inl rfl))),by decide,by cbv⟩
  ·rw [h]
   iterate 2 (try cbv;repeat ((first | with_reducible apply next_at hA | rw [p2] | rw [k2] | rw [w3] | refine call_at hA _ h2 rfl ?_ | refine calm_at hA _ h2 ?_);cbv))
   try simp (maxSteps:=4000000) only [nc] at *
   exact ⟨3,(.inr (.inr (.inr rfl))),by decide,by cbv⟩
  ·rw [h]
   iterate 2 (try cbv;repeat ((first | with_reducible apply next_at hA | rw [p3] | rw [g1] | rw [g2] | refine call_at hA _ h0 rfl ?_ | refine calm_at hA _ h0 ?_ | refine call_at hA _ h1 rfl ?_ | refine calm_at hA _ h1 ?_ | refine call_at hA _ h2 rfl ?_ | refine calm_at hA _ h2 ?_ | refine call_at hA _ h3 rfl ?_ | refine calm_at hA _ h3 ?_ | refine call_at hA _ h4 rfl ?_ | refine calm_at hA _ h4 ?_ | refine call_at hA _ h5 rfl ?_ | refine calm_at hA _ h5 ?_ | refine call_at hA _ hf rfl ?_ | refine calm_at hA _ hf ?_ | refine call_at hA _ h6 rfl ?_ | refine calm_at hA _ h6 ?_ | refine call_at hA _ h8 rfl ?_ | refine calm_at hA _ h8 ?_);cbv))
   try simp (maxSteps:=4000000) only [nc] at *
theorem za_rk0 (ha0:0 ≤ a) (ha:a ≤ 1048576) (hL0:0 ≤ L) (hL:L ≤ 1048576) (h0:SgN T gInt a false) (h1:SgN T gBool a false) (h2:SgN T gDyn a false) (h3:SgN T gOpen a false) (h4:SgN T gVnt a false) (h5:SgN T gRec a true) {R:List (List D)} (hf:FdZ T (a + 1) L R n 0) (hn0:0 ≤ n) (hn:n ≤ 1048576) (h6:SgN T gBar n false) (h8:SgN T gRecE n true) (ho:Spec 42 [.one (.sl 5 R),.ag (lf0 8)] [.ag (cT t)]):RdZ 39 T a L (cT (.mk 5 noS 0 [t])) (n + 1) 0:=by
 rw [show cT (.mk 5 noS 0 [t]) = [.sc (.int .u8 5),.sc (.string noS),.sc (.int .i64 0),.sl 4 [cT t]] by rw [cT,rT,rT]]
 obtain ⟨x0,x1,x2,x3,hx⟩:=cT_four t
 rw [hx] at ho ⊢
 unfold lf0 at ho
 obtain ⟨b,hb⟩:∃ z,z = a + 1:=⟨_,rfl⟩
 rw [← hb] at hf
 obtain ⟨f,hf'⟩:∃ z,z = n + 1:=⟨_,rfl⟩
 rw [← hf']
 refine spec_of Tryz.func39 rfl (by kernel_rfl) (by kernel_rfl) (by kernel_rfl) fun qa qb qc qd qe qg qh qi qj qk ql qm qn qo qp qq qt qu qv qw qx qy qz va vc vd ve vf vg vh vj vk vl vm vn vo vp vq vr vt vu vv vw hA=>?_
 obtain ⟨e1,e2,e3,e4,e5,e6,e7,e8,e9⟩:=ar_at hA
 obtain ⟨p0,p1,p2,p3,k0,k1,k2,w1,w2,w3,u1,u2,u3⟩:=fx_at hA
 have g1:qa .i64 (qb a 1) = b:=by rw [e1,e2,IntWalk.i64_in _ (by omega)];omega
 have g2:qk 0 0 = true:=by rw [e9];rfl
 have g9:qa .i64 (qb n 1) = f:=by rw [e1,e2,IntWalk.i64_in _ (by omega)];omega
 iterate 2 (try cbv;repeat ((first | with_reducible apply next_at hA | refine lit_at hA true ?_);cbv))
 try simp (maxSteps:=4000000) only [nc] at *
 refine loop_at hA (γ:=Int) (fun x=>[(10,vi .i64 x)]) (fun x=>[]) (fun x=>x = 0 ∨ x = 1 ∨ x = 2 ∨ x = 3) (fun x=>3 - x.toNat) 0 ?_ ?_ ?_
 ·exact (.inl rfl)
 ·cbv
 ·intro x hx
  cbv
  have hy:x = 0 ∨ x = 1 ∨ x = 2 ∨ x = 3:=hx
  clear hx
  rcases hy with h | h | h | h
  ·rw [h]
   iterate 2 (try cbv;repeat ((first | with_reducible apply next_at hA | rw [p0] | rw [k0] | rw [w1] | refine call_at hA _ h0 rfl ?_ | refine calm_at hA _ h0 ?_);cbv))
   try simp (maxSteps:=4000000) only [nc] at *
   exact ⟨1,(.inr (.inl rfl)),by decide,by cbv⟩
  ·rw [h]
   iterate 2 (try cbv;repeat ((first | with_reducible apply next_at hA | rw [p1] | rw [k1] | rw [w2] | refine call_at hA _ h1 rfl ?_ | refine calm_at hA _ h1 ?_);cbv))
   try simp (maxSteps:=4000000) only [nc] at *
   exact ⟨2,(.inr (.inr (.inl rfl))),by decide,by cbv⟩
  ·rw [h]
   iterate 2 (try cbv;repeat ((first | with_reducible apply next_at hA | rw [p2] | rw [k2] | rw [w3] | refine call_at hA _ h2 rfl ?_ | refine calm_at hA _ h2 ?_);cbv))
   try simp (maxSteps:=4000000) only [nc] at *
   exact ⟨3,(.inr (.inr (.inr rfl))),by decide,by cbv⟩
  ·rw [h]
   iterate 2 (try cbv;repeat ((first | with_reducible apply next_at hA | rw [p3] | rw [g1] | rw [g2] | rw [g9] | refine call_at hA _ h0 rfl ?_ | refine calm_at hA _ h0 ?_ | refine call_at hA _ h1 rfl ?_ | refine calm_at hA _ h1 ?_ | refine call_at hA _ h2 rfl ?_ | refine calm_at hA _ h2 ?_ | refine call_at hA _ h3 rfl ?_ | refine calm_at hA _ h3 ?_ | refine call_at hA _ h4 rfl ?_ | refine calm_at hA _ h4 ?_ | refine call_at hA _ h5 rfl ?_ | refine calm_at hA _ h5 ?_ | refine call_at hA _ hf rfl ?_ | refine calm_at hA _ hf ?_ | refine call_at hA _ h6 rfl ?_ | refine calm_at hA _ h6 ?_ | refine call_at hA _ h8 rfl ?_ | refine calm_at hA _ h8 ?_ | refine call_at hA _ ho rfl ?_ | refine calm_at hA _ ho ?_ | refine lit_at hA true ?_);cbv))
   try simp (maxSteps:=4000000) only [nc] at *
theorem za_rm1 (ha0:0 ≤ a) (ha:a ≤ 1048576) (hL0:0 ≤ L) (hL:L ≤ 1048576) (h0:SgN T gInt a false) (h1:SgN T gBool a false) (h2:SgN T gDyn a false) (h3:SgN T gOpen a false) (h4:SgN T gVnt a false) (h5:SgN T gRec a true) {R:List (List D)} (hf:FdZ T (a + 1) L R n 0) (hn0:0 ≤ n) (hn:n ≤ 1048576) (h6:SgN T gBar n true) (h7:SgN T gDyn (n + 1) true) (h8:SgN T gRecE (n + 2) false):RdZ 39 T a L (lf0 0) (n + 2) 5:=by
 obtain ⟨b,hb⟩:∃ z,z = a + 1:=⟨_,rfl⟩
 rw [← hb] at hf
 obtain ⟨m,hm⟩:∃ z,z = n + 1:=⟨_,rfl⟩
 obtain ⟨m2,hm2⟩:∃ z,z = n + 2:=⟨_,rfl⟩
 rw [← hm] at h7
 rw [← hm2] at h8 ⊢
 unfold lf0
 refine spec_of Tryz.func39 rfl (by kernel_rfl) (by kernel_rfl) (by kernel_rfl) fun qa qb qc qd qe qg qh qi qj qk ql qm qn qo qp qq qt qu qv qw qx qy qz va vc vd ve vf vg vh vj vk vl vm vn vo vp vq vr vt vu vv vw hA=>?_
 obtain ⟨e1,e2,e3,e4,e5,e6,e7,e8,e9⟩:=ar_at hA
 obtain ⟨p0,p1,p2,p3,k0,k1,k2,w1,w2,w3,u1,u2,u3⟩:=fx_at hA
 have g1:qa .i64 (qb a 1) = b:=by rw [e1,e2,IntWalk.i64_in _ (by omega)];omega
 have g2:qk 0 0 = true:=by rw [e9];rfl
 have g3:qa .i64 (qb n 1) = m:=by rw [e1,e2,IntWalk.i64_in _ (by omega)];omega
 have g4:qa .i64 (qb n 2) = m2:=by rw [e1,e2,IntWalk.i64_in _ (by omega)];omega
 iterate 2 (try cbv;repeat ((first | with_reducible apply next_at hA | refine lit_at hA true ?_);cbv))
 try simp (maxSteps:=4000000) only [nc] at *
 refine loop_at hA (γ:=Int) (fun x=>[(10,vi .i64 x)]) (fun x=>[]) (fun x=>x = 0 ∨ x = 1 ∨ x = 2 ∨ x = 3) (fun x=>3 - x.toNat) 0 ?_ ?_ ?_
 ·exact (.inl rfl)
 ·cbv
 ·intro x hx
  cbv
  have hy:x = 0 ∨ x = 1 ∨ x = 2 ∨ x = 3:=hx
  clear hx
  rcases hy with h | h | h | h
  ·rw [h]
   iterate 2 (try cbv;repeat ((first | with_reducible apply next_at hA | rw [p0] | rw [k0] | rw [w1] | refine call_at hA _ h0 rfl ?_ | refine calm_at hA _ h0 ?_);cbv))
   try simp (maxSteps:=4000000) only [nc] at *
   exact ⟨1,(.inr (.inl rfl)),by decide,by cbv⟩
  ·rw [h]
   iterate 2 (try cbv;repeat ((first | with_reducible apply next_at hA | rw [p1] | rw [k1] | rw [w2] | refine call_at hA _ h1 rfl ?_ | refine calm_at hA _ h1 ?_);cbv))
   try simp (maxSteps:=4000000) only [nc] at *
   exact ⟨2,(.inr (.inr (.inl rfl))),by decide,by cbv⟩
  ·rw [h]
   iterate 2 (try cbv;repeat ((first | with_reducible apply next_at hA | rw [p2] | rw [k2] | rw [w3] | refine call_at hA _ h2 rfl ?_ | refine calm_at hA _ h2 ?_);cbv))
   try simp (maxSteps:=4000000) only [nc] at *
   exact ⟨3,(.inr (.inr (.inr rfl))),by decide,by cbv⟩
  ·rw [h]
   iterate 2 (try cbv;repeat ((first | with_reducible apply next_at hA | rw [p3] | rw [g1] | rw [g2] | rw [g3] | rw [g4] | refine call_at hA _ h0 rfl ?_ | refine calm_at hA _ h0 ?_ | refine call_at hA _ h1 rfl ?_ | refine calm_at hA _ h1 ?_ | refine call_at hA _ h2 rfl ?_ | refine calm_at hA _ h2 ?_ | refine call_at hA _ h3 rfl ?_ | refine calm_at hA _ h3 ?_ | refine call_at hA _ h4 rfl ?_ | refine calm_at hA _ h4 ?_ | refine call_at hA _ h5 rfl ?_ | refine calm_at hA _ h5 ?_ | refine call_at hA _ hf rfl ?_ | refine calm_at hA _ hf ?_ | refine call_at hA _ h6 rfl ?_ | refine calm_at hA _ h6 ?_ | refine call_at hA _ h7 rfl ?_ | refine calm_at hA _ h7 ?_ | refine call_at hA _ h8 rfl ?_ | refine calm_at hA _ h8 ?_);cbv))
   try simp (maxSteps:=4000000) only [nc] at *
theorem za_rk1 (ha0:0 ≤ a) (ha:a ≤ 1048576) (hL0:0 ≤ L) (hL:L ≤ 1048576) (h0:SgN T gInt a false) (h1:SgN T gBool a false) (h2:SgN T gDyn a false) (h3:SgN T gOpen a false) (h4:SgN T gVnt a false) (h5:SgN T gRec a true) {R:List (List D)} (hf:FdZ T (a + 1) L R n 0) (hn0:0 ≤ n) (hn:n ≤ 1048576) (h6:SgN T gBar n true) (h7:SgN T gDyn (n + 1) true) (h8:SgN T gRecE (n + 2) true) (ho:Spec 42 [.one (.sl 5 R),.ag (lf0 9)] [.ag (cT t)]):RdZ 39 T a L (cT (.mk 5 noS 0 [t])) ((n + 2) + 1) 0:=by
 rw [show cT (.mk 5 noS 0 [t]) = [.sc (.int .u8 5),.sc (.string noS),.sc (.int .i64 0),.sl 4 [cT t]] by rw [cT,rT,rT]]
 obtain ⟨x0,x1,x2,x3,hx⟩:=cT_four t
 rw [hx] at ho ⊢
 unfold lf0 at ho
 obtain ⟨b,hb⟩:∃ z,z = a + 1:=⟨_,rfl⟩
 rw [← hb] at hf
 obtain ⟨m,hm⟩:∃ z,z = n + 1:=⟨_,rfl⟩
 obtain ⟨m2,hm2⟩:∃ z,z = n + 2:=⟨_,rfl⟩
 obtain ⟨f,hf'⟩:∃ z,z = (n + 2) + 1:=⟨_,rfl⟩
 rw [← hf']
 rw [← hm] at h7
 rw [← hm2] at h8
 refine spec_of Tryz.func39 rfl (by kernel_rfl) (by kernel_rfl) (by kernel_rfl) fun qa qb qc qd qe qg qh qi qj qk ql qm qn qo qp qq qt qu qv qw qx qy qz va vc vd ve vf vg vh vj vk vl vm vn vo vp vq vr vt vu vv vw hA=>?_
 obtain ⟨e1,e2,e3,e4,e5,e6,e7,e8,e9⟩:=ar_at hA
 obtain ⟨p0,p1,p2,p3,k0,k1,k2,w1,w2,w3,u1,u2,u3⟩:=fx_at hA
 have g1:qa .i64 (qb a 1) = b:=by rw [e1,e2,IntWalk.i64_in _ (by omega)];omega
 have g2:qk 0 0 = true:=by rw [e9];rfl
 have g3:qa .i64 (qb n 1) = m:=by rw [e1,e2,IntWalk.i64_in _ (by omega)];omega
 have g4:qa .i64 (qb n 2) = m2:=by rw [e1,e2,IntWalk.i64_in _ (by omega)];omega
 have g9:qa .i64 (qb m2 1) = f:=by rw [e1,e2,IntWalk.i64_in _ (by omega)];omega
 iterate 2 (try cbv;repeat ((first | with_reducible apply next_at hA | refine lit_at hA true ?_);cbv))
 try simp (maxSteps:=4000000) only [nc] at *
 refine loop_at hA (γ:=Int) (fun x=>[(10,vi .i64 x)]) (fun x=>[]) (fun x=>x = 0 ∨ x = 1 ∨ x = 2 ∨ x = 3) (fun x=>3 - x.toNat) 0 ?_ ?_ ?_
 ·exact (.inl rfl)
 ·cbv
 ·intro x hx
  cbv
  have hy:x = 0 ∨ x = 1 ∨ x = 2 ∨ x = 3:=hx
  clear hx
  rcases hy with h | h | h | h
  ·rw [h]
   iterate 2 (try cbv;repeat ((first | with_reducible apply next_at hA | rw [p0] | rw [k0] | rw [w1] | refine call_at hA _ h0 rfl ?_ | refine calm_at hA _ h0 ?_);cbv))
   try simp (maxSteps:=4000000) only [nc] at *
   exact ⟨1,(.inr (.inl rfl)),by decide,by cbv⟩
  ·rw [h]
   iterate 2 (try cbv;repeat ((first | with_reducible apply next_at hA | rw [p1] | rw [k1] | rw [w2] | refine call_at hA _ h1 rfl ?_ | refine calm_at hA _ h1 ?_);cbv))
   try simp (maxSteps:=4000000) only [nc] at *
   exact ⟨2,(.inr (.inr (.inl rfl))),by decide,by cbv⟩
  ·rw [h]
   iterate 2 (try cbv;repeat ((first | with_reducible apply next_at hA | rw [p2] | rw [k2] | rw [w3] | refine call_at hA _ h2 rfl ?_ | refine calm_at hA _ h2 ?_);cbv))
   try simp (maxSteps:=4000000) only [nc] at *
   exact ⟨3,(.inr (.inr (.inr rfl))),by decide,by cbv⟩
  ·rw [h]
   iterate 2 (try cbv;repeat ((first | with_reducible apply next_at hA | rw [p3] | rw [g1] | rw [g2] | rw [g3] | rw [g4] | rw [g9] | refine call_at hA _ h0 rfl ?_ | refine calm_at hA _ h0 ?_ | refine call_at hA _ h1 rfl ?_ | refine calm_at hA _ h1 ?_ | refine call_at hA _ h2 rfl ?_ | refine calm_at hA _ h2 ?_ | refine call_at hA _ h3 rfl ?_ | refine calm_at hA _ h3 ?_ | refine call_at hA _ h4 rfl ?_ | refine calm_at hA _ h4 ?_ | refine call_at hA _ h5 rfl ?_ | refine calm_at hA _ h5 ?_ | refine call_at hA _ hf rfl ?_ | refine calm_at hA _ hf ?_ | refine call_at hA _ h6 rfl ?_ | refine calm_at hA _ h6 ?_ | refine call_at hA _ h7 rfl ?_ | refine calm_at hA _ h7 ?_ | refine call_at hA _ h8 rfl ?_ | refine calm_at hA _ h8 ?_ | refine call_at hA _ ho rfl ?_ | refine calm_at hA _ ho ?_ | refine lit_at hA true ?_);cbv))
   try simp (maxSteps:=4000000) only [nc] at *
theorem za_ve (ha0:0 ≤ a) (ha:a ≤ 1048576) (hL0:0 ≤ L) (hL:L ≤ 1048576) (h0:SgN T gInt a false) (h1:SgN T gBool a false) (h2:SgN T gDyn a false) (h3:SgN T gOpen a false) (h4:SgN T gVnt a true) {R:List (List D)} (hf:FdZ T (a + 1) L R n c) (hc:c ≠ 0):RdZ 39 T a L (lf0 0) n c:=by
 obtain ⟨b,hb⟩:∃ z,z = a + 1:=⟨_,rfl⟩
 rw [← hb] at hf
 unfold lf0
 refine spec_of Tryz.func39 rfl (by kernel_rfl) (by kernel_rfl) (by kernel_rfl) fun qa qb qc qd qe qg qh qi qj qk ql qm qn qo qp qq qt qu qv qw qx qy qz va vc vd ve vf vg vh vj vk vl vm vn vo vp vq vr vt vu vv vw hA=>?_
 obtain ⟨e1,e2,e3,e4,e5,e6,e7,e8,e9⟩:=ar_at hA
 obtain ⟨p0,p1,p2,p3,k0,k1,k2,w1,w2,w3,u1,u2,u3⟩:=fx_at hA
 have g1:qa .i64 (qb a 1) = b:=by rw [e1,e2,IntWalk.i64_in _ (by omega)];omega
 have g2:qk c 0 = false:=by rw [e9];exact decide_eq_false hc
 iterate 2 (try cbv;repeat ((first | with_reducible apply next_at hA | refine lit_at hA true ?_);cbv))
 try simp (maxSteps:=4000000) only [nc] at *
 refine loop_at hA (γ:=Int) (fun x=>[(10,vi .i64 x)]) (fun x=>[]) (fun x=>x = 0 ∨ x = 1 ∨ x = 2 ∨ x = 3) (fun x=>3 - x.toNat) 0 ?_ ?_ ?_
 ·exact (.inl rfl)
 ·cbv
 ·intro x hx
  cbv
  have hy:x = 0 ∨ x = 1 ∨ x = 2 ∨ x = 3:=hx
  clear hx
  rcases hy with h | h | h | h
  ·rw [h]
   iterate 2 (try cbv;repeat ((first | with_reducible apply next_at hA | rw [p0] | rw [k0] | rw [w1] | refine call_at hA _ h0 rfl ?_ | refine calm_at hA _ h0 ?_);cbv))
   try simp (maxSteps:=4000000) only [nc] at *
   exact ⟨1,(.inr (.inl rfl)),by decide,by cbv⟩
  ·rw [h]
   iterate 2 (try cbv;repeat ((first | with_reducible apply next_at hA | rw [p1] | rw [k1] | rw [w2] | refine call_at hA _ h1 rfl ?_ | refine calm_at hA _ h1 ?_);cbv))
   try simp (maxSteps:=4000000) only [nc] at *
   exact ⟨2,(.inr (.inr (.inl rfl))),by decide,by cbv⟩
  ·rw [h]
   iterate 2 (try cbv;repeat ((first | with_reducible apply next_at hA | rw [p2] | rw [k2] | rw [w3] | refine call_at hA _ h2 rfl ?_ | refine calm_at hA _ h2 ?_);cbv))
   try simp (maxSteps:=4000000) only [nc] at *
   exact ⟨3,(.inr (.inr (.inr rfl))),by decide,by cbv⟩
  ·rw [h]
   iterate 2 (try cbv;repeat ((first | with_reducible apply next_at hA | rw [p3] | rw [g1] | rw [g2] | refine call_at hA _ h0 rfl ?_ | refine calm_at hA _ h0 ?_ | refine call_at hA _ h1 rfl ?_ | refine calm_at hA _ h1 ?_ | refine call_at hA _ h2 rfl ?_ | refine calm_at hA _ h2 ?_ | refine call_at hA _ h3 rfl ?_ | refine calm_at hA _ h3 ?_ | refine call_at hA _ h4 rfl ?_ | refine calm_at hA _ h4 ?_ | refine call_at hA _ hf rfl ?_ | refine calm_at hA _ hf ?_);cbv))
   try simp (maxSteps:=4000000) only [nc] at *
theorem za_vq (ha0:0 ≤ a) (ha:a ≤ 1048576) (hL0:0 ≤ L) (hL:L ≤ 1048576) (h0:SgN T gInt a false) (h1:SgN T gBool a false) (h2:SgN T gDyn a false) (h3:SgN T gOpen a false) (h4:SgN T gVnt a true) {R:List (List D)} (hf:FdZ T (a + 1) L R n 0) (hn0:0 ≤ n) (hn:n ≤ 1048576) (h6:SgN T gBar n true) (h7:SgN T gDyn (n + 1) false):RdZ 39 T a L (lf0 0) (n + 1) 5:=by
 obtain ⟨b,hb⟩:∃ z,z = a + 1:=⟨_,rfl⟩
 rw [← hb] at hf
 obtain ⟨m,hm⟩:∃ z,z = n + 1:=⟨_,rfl⟩
 rw [← hm] at h7 ⊢
 unfold lf0
 refine spec_of Tryz.func39 rfl (by kernel_rfl) (by kernel_rfl) (by kernel_rfl) fun qa qb qc qd qe qg qh qi qj qk ql qm qn qo qp qq qt qu qv qw qx qy qz va vc vd ve vf vg vh vj vk vl vm vn vo vp vq vr vt vu vv vw hA=>?_
 obtain ⟨e1,e2,e3,e4,e5,e6,e7,e8,e9⟩:=ar_at hA
 obtain ⟨p0,p1,p2,p3,k0,k1,k2,w1,w2,w3,u1,u2,u3⟩:=fx_at hA
 have g1:qa .i64 (qb a 1) = b:=by rw [e1,e2,IntWalk.i64_in _ (by omega)];omega
 have g2:qk 0 0 = true:=by rw [e9];rfl
 have g3:qa .i64 (qb n 1) = m:=by rw [e1,e2,IntWalk.i64_in _ (by omega)];omega
 iterate 2 (try cbv;repeat ((first | with_reducible apply next_at hA | refine lit_at hA true ?_);cbv))
 try simp (maxSteps:=4000000) only [nc] at *
 refine loop_at hA (γ:=Int) (fun x=>[(10,vi .i64 x)]) (fun x=>[]) (fun x=>x = 0 ∨ x = 1 ∨ x = 2 ∨ x = 3) (fun x=>3 - x.toNat) 0 ?_ ?_ ?_
 ·exact (.inl rfl)
 ·cbv
 ·intro x hx
  cbv
  have hy:x = 0 ∨ x = 1 ∨ x = 2 ∨ x = 3:=hx
  clear hx
  rcases hy with h | h | h | h
  ·rw [h]
   iterate 2 (try cbv;repeat ((first | with_reducible apply next_at hA | rw [p0] | rw [k0] | rw [w1] | refine call_at hA _ h0 rfl ?_ | refine calm_at hA _ h0 ?_);cbv))
   try simp (maxSteps:=4000000) only [nc] at *
   exact ⟨1,(.inr (.inl rfl)),by decide,by cbv⟩
  ·rw [h]
   iterate 2 (try cbv;repeat ((first | with_reducible apply next_at hA | rw [p1] | rw [k1] | rw [w2] | refine call_at hA _ h1 rfl ?_ | refine calm_at hA _ h1 ?_);cbv))
   try simp (maxSteps:=4000000) only [nc] at *
   exact ⟨2,(.inr (.inr (.inl rfl))),by decide,by cbv⟩
  ·rw [h]
   iterate 2 (try cbv;repeat ((first | with_reducible apply next_at hA | rw [p2] | rw [k2] | rw [w3] | refine call_at hA _ h2 rfl ?_ | refine calm_at hA _ h2 ?_);cbv))
   try simp (maxSteps:=4000000) only [nc] at *
   exact ⟨3,(.inr (.inr (.inr rfl))),by decide,by cbv⟩
  ·rw [h]
   iterate 2 (try cbv;repeat ((first | with_reducible apply next_at hA | rw [p3] | rw [g1] | rw [g2] | rw [g3] | refine call_at hA _ h0 rfl ?_ | refine calm_at hA _ h0 ?_ | refine call_at hA _ h1 rfl ?_ | refine calm_at hA _ h1 ?_ | refine call_at hA _ h2 rfl ?_ | refine calm_at hA _ h2 ?_ | refine call_at hA _ h3 rfl ?_ | refine calm_at hA _ h3 ?_ | refine call_at hA _ h4 rfl ?_ | refine calm_at hA _ h4 ?_ | refine call_at hA _ hf rfl ?_ | refine calm_at hA _ hf ?_ | refine call_at hA _ h6 rfl ?_ | refine calm_at hA _ h6 ?_ | refine call_at hA _ h7 rfl ?_ | refine calm_at hA _ h7 ?_);cbv))
   try simp (maxSteps:=4000000) only [nc] at *
theorem za_vm0 (ha0:0 ≤ a) (ha:a ≤ 1048576) (hL0:0 ≤ L) (hL:L ≤ 1048576) (h0:SgN T gInt a false) (h1:SgN T gBool a false) (h2:SgN T gDyn a false) (h3:SgN T gOpen a false) (h4:SgN T gVnt a true) {R:List (List D)} (hf:FdZ T (a + 1) L R n 0) (hn0:0 ≤ n) (hn:n ≤ 1048576) (h6:SgN T gBar n false) (h8:SgN T gVntE n false):RdZ 39 T a L (lf0 0) n 5:=by
 obtain ⟨b,hb⟩:∃ z,z = a + 1:=⟨_,rfl⟩
 rw [← hb] at hf
 unfold lf0
 refine spec_of Tryz.func39 rfl (by kernel_rfl) (by kernel_rfl) (by kernel_rfl) fun qa qb qc qd qe qg qh qi qj qk ql qm qn qo qp qq qt qu qv qw qx qy qz va vc vd ve vf vg vh vj vk vl vm vn vo vp vq vr vt vu vv vw hA=>?_
 obtain ⟨e1,e2,e3,e4,e5,e6,e7,e8,e9⟩:=ar_at hA
 obtain ⟨p0,p1,p2,p3,k0,k1,k2,w1,w2,w3,u1,u2,u3⟩:=fx_at hA
 have g1:qa .i64 (qb a 1) = b:=by rw [e1,e2,IntWalk.i64_in _ (by omega)];omega
 have g2:qk 0 0 = true:=by rw [e9];rfl
 iterate 2 (try cbv;repeat ((first | with_reducible apply next_at hA | refine lit_at hA true ?_);cbv))
 try simp (maxSteps:=4000000) only [nc] at *
 refine loop_at hA (γ:=Int) (fun x=>[(10,vi .i64 x)]) (fun x=>[]) (fun x=>x = 0 ∨ x = 1 ∨ x = 2 ∨ x = 3) (fun x=>3 - x.toNat) 0 ?_ ?_ ?_
 ·exact (.inl rfl)
 ·cbv
 ·intro x hx
  cbv
  have hy:x = 0 ∨ x = 1 ∨ x = 2 ∨ x = 3:=hx
  clear hx
  rcases hy with h | h | h | h
  ·rw [h]
   iterate 2 (try cbv;repeat ((first | with_reducible apply next_at hA | rw [p0] | rw [k0] | rw [w1] | refine call_at hA _ h0 rfl ?_ | refine calm_at hA _ h0 ?_);cbv))
   try simp (maxSteps:=4000000) only [nc] at *
   exact ⟨1,(.inr (.inl rfl)),by decide,by cbv⟩
  ·rw [h]
   iterate 2 (try cbv;repeat ((first | with_reducible apply next_at hA | rw [p1] | rw [k1] | rw [w2] | refine call_at hA _ h1 rfl ?_ | refine calm_at hA _ h1 ?_);cbv))
   try simp (maxSteps:=4000000) only [nc] at *
   exact ⟨2,(.inr (.inr (.inl rfl))),by decide,by cbv⟩
  ·rw [h]
   iterate 2 (try cbv;repeat ((first | with_reducible apply next_at hA | rw [p2] | rw [k2] | rw [w3] | refine call_at hA _ h2 rfl ?_ | refine calm_at hA _ h2 ?_);cbv))
   try simp (maxSteps:=4000000) only [nc] at *
   exact ⟨3,(.inr (.inr (.inr rfl))),by decide,by cbv⟩
  ·rw [h]
   iterate 2 (try cbv;repeat ((first | with_reducible apply next_at hA | rw [p3] | rw [g1] | rw [g2] | refine call_at hA _ h0 rfl ?_ | refine calm_at hA _ h0 ?_ | refine call_at hA _ h1 rfl ?_ | refine calm_at hA _ h1 ?_ | refine call_at hA _ h2 rfl ?_ | refine calm_at hA _ h2 ?_ | refine call_at hA _ h3 rfl ?_ | refine calm_at hA _ h3 ?_ | refine call_at hA _ h4 rfl ?_ | refine calm_at hA _ h4 ?_ | refine call_at hA _ hf rfl ?_ | refine calm_at hA _ hf ?_ | refine call_at hA _ h6 rfl ?_ | refine calm_at hA _ h6 ?_ | refine call_at hA _ h8 rfl ?_ | refine calm_at hA _ h8 ?_);cbv))
   try simp (maxSteps:=4000000) only [nc] at *
theorem za_vk0 (ha0:0 ≤ a) (ha:a ≤ 1048576) (hL0:0 ≤ L) (hL:L ≤ 1048576) (h0:SgN T gInt a false) (h1:SgN T gBool a false) (h2:SgN T gDyn a false) (h3:SgN T gOpen a false) (h4:SgN T gVnt a true) {R:List (List D)} (hf:FdZ T (a + 1) L R n 0) (hn0:0 ≤ n) (hn:n ≤ 1048576) (h6:SgN T gBar n false) (h8:SgN T gVntE n true) (ho:Spec 42 [.one (.sl 5 R),.ag (lf0 8)] [.ag (cT t)]):RdZ 39 T a L (cT (.mk 6 noS 0 [t])) (n + 1) 0:=by
 rw [show cT (.mk 6 noS 0 [t]) = [.sc (.int .u8 6),.sc (.string noS),.sc (.int .i64 0),.sl 4 [cT t]] by rw [cT,rT,rT]]
 obtain ⟨x0,x1,x2,x3,hx⟩:=cT_four t
 rw [hx] at ho ⊢
 unfold lf0 at ho
 obtain ⟨b,hb⟩:∃ z,z = a + 1:=⟨_,rfl⟩
 rw [← hb] at hf
 obtain ⟨f,hf'⟩:∃ z,z = n + 1:=⟨_,rfl⟩
 rw [← hf']
 refine spec_of Tryz.func39 rfl (by kernel_rfl) (by kernel_rfl) (by kernel_rfl) fun qa qb qc qd qe qg qh qi qj qk ql qm qn qo qp qq qt qu qv qw qx qy qz va vc vd ve vf vg vh vj vk vl vm vn vo vp vq vr vt vu vv vw hA=>?_
 obtain ⟨e1,e2,e3,e4,e5,e6,e7,e8,e9⟩:=ar_at hA
 obtain ⟨p0,p1,p2,p3,k0,k1,k2,w1,w2,w3,u1,u2,u3⟩:=fx_at hA
 have g1:qa .i64 (qb a 1) = b:=by rw [e1,e2,IntWalk.i64_in _ (by omega)];omega
 have g2:qk 0 0 = true:=by rw [e9];rfl
 have g9:qa .i64 (qb n 1) = f:=by rw [e1,e2,IntWalk.i64_in _ (by omega)];omega
 iterate 2 (try cbv;repeat ((first | with_reducible apply next_at hA | refine lit_at hA true ?_);cbv))
 try simp (maxSteps:=4000000) only [nc] at *
 refine loop_at hA (γ:=Int) (fun x=>[(10,vi .i64 x)]) (fun x=>[]) (fun x=>x = 0 ∨ x = 1 ∨ x = 2 ∨ x = 3) (fun x=>3 - x.toNat) 0 ?_ ?_ ?_
 ·exact (.inl rfl)
 ·cbv
 ·intro x hx
  cbv
  have hy:x = 0 ∨ x = 1 ∨ x = 2 ∨ x = 3:=hx
  clear hx
  rcases hy with h | h | h | h
  ·rw [h]
   iterate 2 (try cbv;repeat ((first | with_reducible apply next_at hA | rw [p0] | rw [k0] | rw [w1] | refine call_at hA _ h0 rfl ?_ | refine calm_at hA _ h0 ?_);cbv))
   try simp (maxSteps:=4000000) only [nc] at *
   exact ⟨1,(.inr (.inl rfl)),by decide,by cbv⟩
  ·rw [h]
   iterate 2 (try cbv;repeat ((first | with_reducible apply next_at hA | rw [p1] | rw [k1] | rw [w2] | refine call_at hA _ h1 rfl ?_ | refine calm_at hA _ h1 ?_);cbv))
   try simp (maxSteps:=4000000) only [nc] at *
   exact ⟨2,(.inr (.inr (.inl rfl))),by decide,by cbv⟩
  ·rw [h]
   iterate 2 (try cbv;repeat ((first | with_reducible apply next_at hA | rw [p2] | rw [k2] | rw [w3] | refine call_at hA _ h2 rfl ?_ | refine calm_at hA _ h2 ?_);cbv))
   try simp (maxSteps:=4000000) only [nc] at *
   exact ⟨3,(.inr (.inr (.inr rfl))),by decide,by cbv⟩
  ·rw [h]
   iterate 2 (try cbv;repeat ((first | with_reducible apply next_at hA | rw [p3] | rw [g1] | rw [g2] | rw [g9] | refine call_at hA _ h0 rfl ?_ | refine calm_at hA _ h0 ?_ | refine call_at hA _ h1 rfl ?_ | refine calm_at hA _ h1 ?_ | refine call_at hA _ h2 rfl ?_ | refine calm_at hA _ h2 ?_ | refine call_at hA _ h3 rfl ?_ | refine calm_at hA _ h3 ?_ | refine call_at hA _ h4 rfl ?_ | refine calm_at hA _ h4 ?_ | refine call_at hA _ hf rfl ?_ | refine calm_at hA _ hf ?_ | refine call_at hA _ h6 rfl ?_ | refine calm_at hA _ h6 ?_ | refine call_at hA _ h8 rfl ?_ | refine calm_at hA _ h8 ?_ | refine call_at hA _ ho rfl ?_ | refine calm_at hA _ ho ?_ | refine lit_at hA true ?_);cbv))
   try simp (maxSteps:=4000000) only [nc] at *
theorem za_vm1 (ha0:0 ≤ a) (ha:a ≤ 1048576) (hL0:0 ≤ L) (hL:L ≤ 1048576) (h0:SgN T gInt a false) (h1:SgN T gBool a false) (h2:SgN T gDyn a false) (h3:SgN T gOpen a false) (h4:SgN T gVnt a true) {R:List (List D)} (hf:FdZ T (a + 1) L R n 0) (hn0:0 ≤ n) (hn:n ≤ 1048576) (h6:SgN T gBar n true) (h7:SgN T gDyn (n + 1) true) (h8:SgN T gVntE (n + 2) false):RdZ 39 T a L (lf0 0) (n + 2) 5:=by
 obtain ⟨b,hb⟩:∃ z,z = a + 1:=⟨_,rfl⟩
 rw [← hb] at hf
 obtain ⟨m,hm⟩:∃ z,z = n + 1:=⟨_,rfl⟩
 obtain ⟨m2,hm2⟩:∃ z,z = n + 2:=⟨_,rfl⟩
 rw [← hm] at h7
 rw [← hm2] at h8 ⊢
 unfold lf0
 refine spec_of Tryz.func39 rfl (by kernel_rfl) (by kernel_rfl) (by kernel_rfl) fun qa qb qc qd qe qg qh qi qj qk ql qm qn qo qp qq qt qu qv qw qx qy qz va vc vd ve vf vg vh vj vk vl vm vn vo vp vq vr vt vu vv vw hA=>?_
 obtain ⟨e1,e2,e3,e4,e5,e6,e7,e8,e9⟩:=ar_at hA
 obtain ⟨p0,p1,p2,p3,k0,k1,k2,w1,w2,w3,u1,u2,u3⟩:=fx_at hA
 have g1:qa .i64 (qb a 1) = b:=by rw [e1,e2,IntWalk.i64_in _ (by omega)];omega
 have g2:qk 0 0 = true:=by rw [e9];rfl
 have g3:qa .i64 (qb n 1) = m:=by rw [e1,e2,IntWalk.i64_in _ (by omega)];omega
 have g4:qa .i64 (qb n 2) = m2:=by rw [e1,e2,IntWalk.i64_in _ (by omega)];omega
 iterate 2 (try cbv;repeat ((first | with_reducible apply next_at hA | refine lit_at hA true ?_);cbv))
 try simp (maxSteps:=4000000) only [nc] at *
 refine loop_at hA (γ:=Int) (fun x=>[(10,vi .i64 x)]) (fun x=>[]) (fun x=>x = 0 ∨ x = 1 ∨ x = 2 ∨ x = 3) (fun x=>3 - x.toNat) 0 ?_ ?_ ?_
 ·exact (.inl rfl)
 ·cbv
 ·intro x hx
  cbv
  have hy:x = 0 ∨ x = 1 ∨ x = 2 ∨ x = 3:=hx
  clear hx
  rcases hy with h | h | h | h
  ·rw [h]
   iterate 2 (try cbv;repeat ((first | with_reducible apply next_at hA | rw [p0] | rw [k0] | rw [w1] | refine call_at hA _ h0 rfl ?_ | refine calm_at hA _ h0 ?_);cbv))
   try simp (maxSteps:=4000000) only [nc] at *
   exact ⟨1,(.inr (.inl rfl)),by decide,by cbv⟩
  ·rw [h]
   iterate 2 (try cbv;repeat ((first | with_reducible apply next_at hA | rw [p1] | rw [k1] | rw [w2] | refine call_at hA _ h1 rfl ?_ | refine calm_at hA _ h1 ?_);cbv))
   try simp (maxSteps:=4000000) only [nc] at *
   exact ⟨2,(.inr (.inr (.inl rfl))),by decide,by cbv⟩
  ·rw [h]
   iterate 2 (try cbv;repeat ((first | with_reducible apply next_at hA | rw [p2] | rw [k2] | rw [w3] | refine call_at hA _ h2 rfl ?_ | refine calm_at hA _ h2 ?_);cbv))
   try simp (maxSteps:=4000000) only [nc] at *
   exact ⟨3,(.inr (.inr (.inr rfl))),by decide,by cbv⟩
  ·rw [h]
   iterate 2 (try cbv;repeat ((first | with_reducible apply next_at hA | rw [p3] | rw [g1] | rw [g2] | rw [g3] | rw [g4] | refine call_at hA _ h0 rfl ?_ | refine calm_at hA _ h0 ?_ | refine call_at hA _ h1 rfl ?_ | refine calm_at hA _ h1 ?_ | refine call_at hA _ h2 rfl ?_ | refine calm_at hA _ h2 ?_ | refine call_at hA _ h3 rfl ?_ | refine calm_at hA _ h3 ?_ | refine call_at hA _ h4 rfl ?_ | refine calm_at hA _ h4 ?_ | refine call_at hA _ hf rfl ?_ | refine calm_at hA _ hf ?_ | refine call_at hA _ h6 rfl ?_ | refine calm_at hA _ h6 ?_ | refine call_at hA _ h7 rfl ?_ | refine calm_at hA _ h7 ?_ | refine call_at hA _ h8 rfl ?_ | refine calm_at hA _ h8 ?_);cbv))
   try simp (maxSteps:=4000000) only [nc] at *
theorem za_vk1 (ha0:0 ≤ a) (ha:a ≤ 1048576) (hL0:0 ≤ L) (hL:L ≤ 1048576) (h0:SgN T gInt a false) (h1:SgN T gBool a false) (h2:SgN T gDyn a false) (h3:SgN T gOpen a false) (h4:SgN T gVnt a true) {R:List (List D)} (hf:FdZ T (a + 1) L R n 0) (hn0:0 ≤ n) (hn:n ≤ 1048576) (h6:SgN T gBar n true) (h7:SgN T gDyn (n + 1) true) (h8:SgN T gVntE (n + 2) true) (ho:Spec 42 [.one (.sl 5 R),.ag (lf0 9)] [.ag (cT t)]):RdZ 39 T a L (cT (.mk 6 noS 0 [t])) ((n + 2) + 1) 0:=by
 rw [show cT (.mk 6 noS 0 [t]) = [.sc (.int .u8 6),.sc (.string noS),.sc (.int .i64 0),.sl 4 [cT t]] by rw [cT,rT,rT]]
 obtain ⟨x0,x1,x2,x3,hx⟩:=cT_four t
 rw [hx] at ho ⊢
 unfold lf0 at ho
 obtain ⟨b,hb⟩:∃ z,z = a + 1:=⟨_,rfl⟩
 rw [← hb] at hf
 obtain ⟨m,hm⟩:∃ z,z = n + 1:=⟨_,rfl⟩
 obtain ⟨m2,hm2⟩:∃ z,z = n + 2:=⟨_,rfl⟩
 obtain ⟨f,hf'⟩:∃ z,z = (n + 2) + 1:=⟨_,rfl⟩
 rw [← hf']
 rw [← hm] at h7
 rw [← hm2] at h8
 refine spec_of Tryz.func39 rfl (by kernel_rfl) (by kernel_rfl) (by kernel_rfl) fun qa qb qc qd qe qg qh qi qj qk ql qm qn qo qp qq qt qu qv qw qx qy qz va vc vd ve vf vg vh vj vk vl vm vn vo vp vq vr vt vu vv vw hA=>?_
 obtain ⟨e1,e2,e3,e4,e5,e6,e7,e8,e9⟩:=ar_at hA
 obtain ⟨p0,p1,p2,p3,k0,k1,k2,w1,w2,w3,u1,u2,u3⟩:=fx_at hA
 have g1:qa .i64 (qb a 1) = b:=by rw [e1,e2,IntWalk.i64_in _ (by omega)];omega
 have g2:qk 0 0 = true:=by rw [e9];rfl
 have g3:qa .i64 (qb n 1) = m:=by rw [e1,e2,IntWalk.i64_in _ (by omega)];omega
 have g4:qa .i64 (qb n 2) = m2:=by rw [e1,e2,IntWalk.i64_in _ (by omega)];omega
 have g9:qa .i64 (qb m2 1) = f:=by rw [e1,e2,IntWalk.i64_in _ (by omega)];omega
 iterate 2 (try cbv;repeat ((first | with_reducible apply next_at hA | refine lit_at hA true ?_);cbv))
 try simp (maxSteps:=4000000) only [nc] at *
 refine loop_at hA (γ:=Int) (fun x=>[(10,vi .i64 x)]) (fun x=>[]) (fun x=>x = 0 ∨ x = 1 ∨ x = 2 ∨ x = 3) (fun x=>3 - x.toNat) 0 ?_ ?_ ?_
 ·exact (.inl rfl)
 ·cbv
 ·intro x hx
  cbv
  have hy:x = 0 ∨ x = 1 ∨ x = 2 ∨ x = 3:=hx
  clear hx
  rcases hy with h | h | h | h
  ·rw [h]
   iterate 2 (try cbv;repeat ((first | with_reducible apply next_at hA | rw [p0] | rw [k0] | rw [w1] | refine call_at hA _ h0 rfl ?_ | refine calm_at hA _ h0 ?_);cbv))
   try simp (maxSteps:=4000000) only [nc] at *
   exact ⟨1,(.inr (.inl rfl)),by decide,by cbv⟩
  ·rw [h]
   iterate 2 (try cbv;repeat ((first | with_reducible apply next_at hA | rw [p1] | rw [k1] | rw [w2] | refine call_at hA _ h1 rfl ?_ | refine calm_at hA _ h1 ?_);cbv))
   try simp (maxSteps:=4000000) only [nc] at *
   exact ⟨2,(.inr (.inr (.inl rfl))),by decide,by cbv⟩
  ·rw [h]
   iterate 2 (try cbv;repeat ((first | with_reducible apply next_at hA | rw [p2] | rw [k2] | rw [w3] | refine call_at hA _ h2 rfl ?_ | refine calm_at hA _ h2 ?_);cbv))
   try simp (maxSteps:=4000000) only [nc] at *
   exact ⟨3,(.inr (.inr (.inr rfl))),by decide,by cbv⟩
  ·rw [h]
   iterate 2 (try cbv;repeat ((first | with_reducible apply next_at hA | rw [p3] | rw [g1] | rw [g2] | rw [g3] | rw [g4] | rw [g9] | refine call_at hA _ h0 rfl ?_ | refine calm_at hA _ h0 ?_ | refine call_at hA _ h1 rfl ?_ | refine calm_at hA _ h1 ?_ | refine call_at hA _ h2 rfl ?_ | refine calm_at hA _ h2 ?_ | refine call_at hA _ h3 rfl ?_ | refine calm_at hA _ h3 ?_ | refine call_at hA _ h4 rfl ?_ | refine calm_at hA _ h4 ?_ | refine call_at hA _ hf rfl ?_ | refine calm_at hA _ hf ?_ | refine call_at hA _ h6 rfl ?_ | refine calm_at hA _ h6 ?_ | refine call_at hA _ h7 rfl ?_ | refine calm_at hA _ h7 ?_ | refine call_at hA _ h8 rfl ?_ | refine calm_at hA _ h8 ?_ | refine call_at hA _ ho rfl ?_ | refine calm_at hA _ ho ?_ | refine lit_at hA true ?_);cbv))
   try simp (maxSteps:=4000000) only [nc] at *
end
end
end Go.Proofs.YtahpnackkmbmgaaGreatDoor.Vm
end

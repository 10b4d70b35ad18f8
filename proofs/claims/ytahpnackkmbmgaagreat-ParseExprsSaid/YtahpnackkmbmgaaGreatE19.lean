/- Part 19 of the proof. Conditions: none. -/
import Derived.Test.YtahpnackkmbmgaaGreatE4
import Derived.Test.YtahpnackkmbmgaaGreatE14
import Derived.Test.YtahpnackkmbmgaaGreatE0
set_option linter.all false
set_option linter.unusedVariables false
set_option linter.unusedSimpArgs false
section
namespace Go.Proofs.YtahpnackkmbmgaaGreat.Vm
open Go.RowKit
set_option maxRecDepth 100000
set_option maxHeartbeats 4000000
section
section
variable {qa:_} {qb:_} {qc:_} {qd:_} {qe:_} {qg:_} {qh:_} {qi:_} {qj:_} {qk:_} {ql:_} {qm:_} {qo:_} {qp:_} {qq:_} {qt:_} {qu:_} {qv:_} {qw:_} {qx:_} {qy:_} {qz:_} {va:_} {vc:_} {vd:_} {ve:_} {vf:_} {vg:_} {vh:_} {vj:_} {vk:_} {vl:_} {vm:_} {vn:_} {vo:_} {vp:_} {vq:_} {vr:_} {vt:_} {vu:_} {vv:_} {vw:_} {vx:_} (hA:Ar.mk qa qb qc qd qe qg qh qi qj qk ql qm qo qp qq qt qu qv qw qx qy qz va vc vd ve vf vg vh vj vk vl vm vn vo vp vq vr vt vu vv vw vx=f7)
include hA
theorem b7V:qi 0 (va ([[.sc (.string T4)],[.sc (.string G7)],[.sc (.string J7)]]:List (List D)))=true∧qi 1 (va ([[.sc (.string T4)],[.sc (.string G7)],[.sc (.string J7)]]:List (List D)))=true∧qi 2 (va ([[.sc (.string T4)],[.sc (.string G7)],[.sc (.string J7)]]:List (List D)))=true∧qi 3 (va ([[.sc (.string T4)],[.sc (.string G7)],[.sc (.string J7)]]:List (List D)))=false∧vc ([[.sc (.string T4)],[.sc (.string G7)],[.sc (.string J7)]]:List (List D)) 0=some [.sc (.string T4)]∧vc ([[.sc (.string T4)],[.sc (.string G7)],[.sc (.string J7)]]:List (List D)) 1=some [.sc (.string G7)]∧vc ([[.sc (.string T4)],[.sc (.string G7)],[.sc (.string J7)]]:List (List D)) 2=some [.sc (.string J7)]∧qa .i64 (qb 0 1)=1∧qa .i64 (qb 1 1)=2∧qa .i64 (qb 2 1)=3∧qa .u8 1=1∧qa .u8 2=2∧qa .u8 3=3:=by
 obtain ⟨e1,e2,e3,e4,e5,e6,e7,e8,e9⟩:=j7 hA
 obtain ⟨r1,r2,r3,r4⟩:=A8 hA
 simp only [e1,e2,e7,r1,r2]
 exact ⟨rfl,rfl,rfl,rfl,rfl,rfl,rfl,rfl,rfl,rfl,rfl,rfl,rfl⟩
end
theorem a5a {p:Prop} (h:p:=by
  obtain ⟨p0,p1,p2,p3,k0,k1,k2,w1,w2,w3,u1,u2,u3⟩:=b7V hA
  try cbv;refine gr ?_;try simp only [nc] at *
  refine j9 hA (γ:=Int) (fun x=>[(10,vi .i64 x)]) (fun x=>[]) (fun x=>x=0∨x=1∨x=2∨x=3) (fun x=>3 - x.toNat) 0 ?_ ?_ ?_
  ·exact (.inl rfl)
  ·cbv
  ·intro x hx
   cbv
   have hy:x=0∨x=1∨x=2∨x=3:=hx
   clear hx
   rcases hy with h|h|h|h
   ·rw [h]
    iterate 2 (try cbv;repeat ((first|with_reducible apply f8 hA|rw [p0]|rw [k0]|rw [w1]|refine f9 hA _ h0 rfl ?_|refine i7 hA _ h0 ?_);cbv))
    try simp (maxSteps:=4000000) only [nc] at *
    exact ⟨1,(.inr (.inl rfl)),by decide,by cbv⟩
   ·rw [h]
    iterate 2 (try cbv;repeat ((first|with_reducible apply f8 hA|rw [p1]|rw [k1]|rw [w2]|refine f9 hA _ h1 rfl ?_|refine i7 hA _ h1 ?_);cbv))
    try simp (maxSteps:=4000000) only [nc] at *
    exact ⟨2,(.inr (.inr (.inl rfl))),by decide,by cbv⟩
   ·rw [h]
    iterate 2 (try cbv;repeat ((first|with_reducible apply f8 hA|rw [p2]|rw [k2]|rw [w3]|refine f9 hA _ h2 rfl ?_|refine i7 hA _ h2 ?_);cbv))
    try simp (maxSteps:=4000000) only [nc] at *
    exact ⟨3,(.inr (.inr (.inr rfl))),by decide,by cbv⟩
   ·rw [h]
    have q0:=p3
    exact I5):p:=h
section
variable {T:List (List D)} {a L n n1 c:Int} {t:Ty}
theorem d2f (ha0:0≤a) (ha:a≤1048576) (h0:F7 T T4 a true):RdZ 124 T a L (lf0 1) (a+1) 0:=by
 obtain ⟨b,hb⟩:∃b,b=a+1:=⟨_,rfl⟩
 rw [←hb]
 unfold lf0
 refine N2 Tryz.func124 rfl ?_;intro qa qb;intros;rename_i hA
 obtain ⟨e1,e2,e3,e4,e5,e6,e7,e8,e9⟩:=j7 hA
 obtain ⟨p0,p1,p2,p3,k0,k1,k2,w1,w2,w3,u1,u2,u3⟩:=b7V hA
 have g1:qa .i64 (qb a 1)=b:=by rw [e1,e2,IntWalk.i64_in _ (by omega)];exact hb.symm
 try cbv;refine gr ?_;try simp only [nc] at *
 refine j9 hA (γ:=Int) (fun x=>[(10,vi .i64 x)]) (fun x=>[]) (fun x=>x=0) (fun x=>3 - x.toNat) 0 ?_ ?_ ?_
 ·exact rfl
 ·cbv
 ·intro x hx
  cbv
  have hy:x=0:=hx
  clear hx
  rw [hy]
  iterate 2 (try cbv;repeat ((first|with_reducible apply f8 hA|rw [p0]|rw [k0]|rw [w1]|rw [u1]|rw [g1]|refine f9 hA _ h0 rfl ?_|refine i7 hA _ h0 ?_);cbv))
theorem d2g (ha0:0≤a) (ha:a≤1048576) (h0:F7 T T4 a false) (h1:F7 T G7 a true):RdZ 124 T a L (lf0 2) (a+1) 0:=by
 obtain ⟨b,hb⟩:∃b,b=a+1:=⟨_,rfl⟩
 rw [←hb]
 unfold lf0
 refine N2 Tryz.func124 rfl ?_;intro qa qb;intros;rename_i hA
 obtain ⟨e1,e2,e3,e4,e5,e6,e7,e8,e9⟩:=j7 hA
 obtain ⟨p0,p1,p2,p3,k0,k1,k2,w1,w2,w3,u1,u2,u3⟩:=b7V hA
 have g1:qa .i64 (qb a 1)=b:=by rw [e1,e2,IntWalk.i64_in _ (by omega)];exact hb.symm
 try cbv;refine gr ?_;try simp only [nc] at *
 refine j9 hA (γ:=Int) (fun x=>[(10,vi .i64 x)]) (fun x=>[]) (fun x=>x=0∨x=1) (fun x=>3 - x.toNat) 0 ?_ ?_ ?_
 ·exact (.inl rfl)
 ·cbv
 ·intro x hx
  cbv
  have hy:x=0∨x=1:=hx
  clear hx
  rcases hy with h|h
  ·rw [h]
   iterate 2 (try cbv;repeat ((first|with_reducible apply f8 hA|rw [p0]|rw [k0]|rw [w1]|refine f9 hA _ h0 rfl ?_|refine i7 hA _ h0 ?_);cbv))
   try simp (maxSteps:=4000000) only [nc] at *
   exact ⟨1,(.inr rfl),by decide,by cbv⟩
  ·rw [h]
   iterate 2 (try cbv;repeat ((first|with_reducible apply f8 hA|rw [p1]|rw [k1]|rw [w2]|rw [u2]|rw [g1]|refine f9 hA _ h1 rfl ?_|refine i7 hA _ h1 ?_);cbv))
theorem d2h (ha0:0≤a) (ha:a≤1048576) (h0:F7 T T4 a false) (h1:F7 T G7 a false) (h2:F7 T J7 a true):RdZ 124 T a L (lf0 3) (a+1) 0:=by
 obtain ⟨b,hb⟩:∃b,b=a+1:=⟨_,rfl⟩
 rw [←hb]
 unfold lf0
 refine N2 Tryz.func124 rfl ?_;intro qa qb;intros;rename_i hA
 obtain ⟨e1,e2,e3,e4,e5,e6,e7,e8,e9⟩:=j7 hA
 obtain ⟨p0,p1,p2,p3,k0,k1,k2,w1,w2,w3,u1,u2,u3⟩:=b7V hA
 have g1:qa .i64 (qb a 1)=b:=by rw [e1,e2,IntWalk.i64_in _ (by omega)];exact hb.symm
 try cbv;refine gr ?_;try simp only [nc] at *
 refine j9 hA (γ:=Int) (fun x=>[(10,vi .i64 x)]) (fun x=>[]) (fun x=>x=0∨x=1∨x=2) (fun x=>3 - x.toNat) 0 ?_ ?_ ?_
 ·exact (.inl rfl)
 ·cbv
 ·intro x hx
  cbv
  have hy:x=0∨x=1∨x=2:=hx
  clear hx
  rcases hy with h|h|h
  ·rw [h]
   iterate 2 (try cbv;repeat ((first|with_reducible apply f8 hA|rw [p0]|rw [k0]|rw [w1]|refine f9 hA _ h0 rfl ?_|refine i7 hA _ h0 ?_);cbv))
   try simp (maxSteps:=4000000) only [nc] at *
   exact ⟨1,(.inr (.inl rfl)),by decide,by cbv⟩
  ·rw [h]
   iterate 2 (try cbv;repeat ((first|with_reducible apply f8 hA|rw [p1]|rw [k1]|rw [w2]|refine f9 hA _ h1 rfl ?_|refine i7 hA _ h1 ?_);cbv))
   try simp (maxSteps:=4000000) only [nc] at *
   exact ⟨2,(.inr (.inr rfl)),by decide,by cbv⟩
  ·rw [h]
   iterate 2 (try cbv;repeat ((first|with_reducible apply f8 hA|rw [p2]|rw [k2]|rw [w3]|rw [u3]|rw [g1]|refine f9 hA _ h2 rfl ?_|refine i7 hA _ h2 ?_);cbv))
theorem c2P (ha0:0≤a) (ha:a≤1048576) (hL0:0≤L) (hL:L≤1048576) (h0:F7 T T4 a false) (h1:F7 T G7 a false) (h2:F7 T J7 a false) (h3:F7 T U5 a true) (h9:RdZ 109 T (a+1) (L+1) (cT t) n c) (hc:c≠0) (hc1:2≤c) (hn0:0≤n) (hn:n≤1048576):RdZ 124 T a L (cT t) n c:=by
 obtain ⟨x0,x1,x2,x3,hx⟩:=l8 t
 rw [hx] at h9 ⊢
 obtain ⟨b,hb⟩:∃z,z=a+1:=⟨_,rfl⟩
 obtain ⟨M,hM⟩:∃z,z=L+1:=⟨_,rfl⟩
 rw [←hb,←hM] at h9
 obtain ⟨m,hm⟩:∃z,z=n+1:=⟨_,rfl⟩
 refine N2 Tryz.func124 rfl ?_;intro qa qb qc _ _ _ _ qi _ qk;intros;rename_i hA
 obtain ⟨e1,e2,e3,e4,e5,e6,e7,e8,e9⟩:=j7 hA
 have q1:qa .i64 (qb a 1)=b:=ew hA (by rw [IntWalk.i64_in _ (by omega)];omega)
 have q2:qa .i64 (qb L 1)=M:=ew hA (by rw [IntWalk.i64_in _ (by omega)];omega)
 have q3:qk c 0=false:=by rw [e9];exact d2U hc
 have q4:qa .i64 (qb n 1)=m:=ew hA (by rw [IntWalk.i64_in _ (by omega)];omega)
 have q5:qi 1 c=true:=by rw [e7];exact d3a (by omega)
 have q6:qa .i64 (qc m 1)=n:=by rw [e1,e3,IntWalk.i64_in _ (by omega)];omega
 exact a5a
theorem c5a (ha0:0≤a) (ha:a≤1048576) (hL0:0≤L) (hL:L≤1048576) (h0:F7 T T4 a false) (h1:F7 T G7 a false) (h2:F7 T J7 a false) (h3:F7 T U5 a true) (h9:RdZ 109 T (a+1) (L+1) (cT t) n 0) (h4:F7 T a5k n true) (hn0:0≤n) (hn:n≤1048576):RdZ 124 T a L (cT t) (n+1) 0:=by
 obtain ⟨x0,x1,x2,x3,hx⟩:=l8 t
 rw [hx] at h9 ⊢
 obtain ⟨b,hb⟩:∃z,z=a+1:=⟨_,rfl⟩
 obtain ⟨M,hM⟩:∃z,z=L+1:=⟨_,rfl⟩
 rw [←hb,←hM] at h9
 obtain ⟨m,hm⟩:∃z,z=n+1:=⟨_,rfl⟩
 rw [←hm]
 refine N2 Tryz.func124 rfl ?_;intro qa qb qc _ _ _ _ qi _ qk;intros;rename_i hA
 obtain ⟨e1,e2,e3,e4,e5,e6,e7,e8,e9⟩:=j7 hA
 have q1:qa .i64 (qb a 1)=b:=ew hA (by rw [IntWalk.i64_in _ (by omega)];omega)
 have q2:qa .i64 (qb L 1)=M:=ew hA (by rw [IntWalk.i64_in _ (by omega)];omega)
 have q3:qk 0 0=true:=by rw [e9];rfl
 have q4:qa .i64 (qb n 1)=m:=ew hA (by rw [IntWalk.i64_in _ (by omega)];omega)
 have q5:qi 1 0=false:=by rw [e7];rfl
 have q6:qa .i64 (qc m 0)=m:=by rw [e1,e3,IntWalk.i64_in _ (by omega)];omega
 exact a5a
theorem c2Q (ha0:0≤a) (ha:a≤1048576) (hL0:0≤L) (hL:L≤1048576) (h0:F7 T T4 a false) (h1:F7 T G7 a false) (h2:F7 T J7 a false) (h3:F7 T U5 a true) (h9:RdZ 109 T (a+1) (L+1) (cT t) n 0) (h4:F7 T a5k n false) (hn0:0≤n) (hn:n≤1048576):RdZ 124 T a L (cT t) n 5:=by
 obtain ⟨x0,x1,x2,x3,hx⟩:=l8 t
 rw [hx] at h9 ⊢
 obtain ⟨b,hb⟩:∃z,z=a+1:=⟨_,rfl⟩
 obtain ⟨M,hM⟩:∃z,z=L+1:=⟨_,rfl⟩
 rw [←hb,←hM] at h9
 obtain ⟨m,hm⟩:∃z,z=n+1:=⟨_,rfl⟩
 refine N2 Tryz.func124 rfl ?_;intro qa qb qc _ _ _ _ qi _ qk;intros;rename_i hA
 obtain ⟨e1,e2,e3,e4,e5,e6,e7,e8,e9⟩:=j7 hA
 have q1:qa .i64 (qb a 1)=b:=ew hA (by rw [IntWalk.i64_in _ (by omega)];omega)
 have q2:qa .i64 (qb L 1)=M:=ew hA (by rw [IntWalk.i64_in _ (by omega)];omega)
 have q3:qk 0 0=true:=by rw [e9];rfl
 have q4:qa .i64 (qb n 1)=m:=ew hA (by rw [IntWalk.i64_in _ (by omega)];omega)
 have q5:qi 1 5=true:=by rw [e7];rfl
 have q6:qa .i64 (qc m 1)=n:=by rw [e1,e3,IntWalk.i64_in _ (by omega)];omega
 exact a5a
end
end
end Go.Proofs.YtahpnackkmbmgaaGreat.Vm
end

/- Part 20 of the proof. Conditions: none. -/
import Derived.Test.YtahpnackkmbmgaaGreatE19
import Derived.Test.YtahpnackkmbmgaaGreatE0
set_option linter.all false
set_option linter.unusedVariables false
set_option linter.unusedSimpArgs false
section
namespace Go.Proofs.YtahpnackkmbmgaaGreat.Vm
open Go.RowKit
set_option maxRecDepth 100000
set_option maxHeartbeats 4000000
section
section
variable {T:List (List D)} {a L n n1 c:Int} {t:Ty}
theorem c5b (ha0:0≤a) (ha:a≤1048576) (hL0:0≤L) (hL:L≤1048576) (h0:F7 T T4 a false) (h1:F7 T G7 a false) (h2:F7 T J7 a false) (h3:F7 T U5 a false) (h4:F7 T a3h a false) (h5:F7 T a5E a false):RdZ 124 T a L (lf0 0) a 5:=by
 unfold lf0
 refine N2 Tryz.func124 rfl ?_;intros;rename_i hA
 obtain ⟨e1,e2,e3,e4,e5,e6,e7,e8,e9⟩:=j7 hA
 exact a5a
theorem d06 (ha0:0≤a) (ha:a≤1048576) (hL0:0≤L) (hL:L≤1048576) (h0:F7 T T4 a false) (h1:F7 T G7 a false) (h2:F7 T J7 a false) (h3:F7 T U5 a false) (h4:F7 T a3h a false) (h5:F7 T a5E a true) {R:List (List D)} (h10:FdZ T (a+1) L R n c) (hc:c≠0):RdZ 124 T a L (lf0 0) n c:=by
 obtain ⟨b,hb⟩:∃z,z=a+1:=⟨_,rfl⟩
 rw [←hb] at h10
 unfold lf0
 refine N2 Tryz.func124 rfl ?_;intro qa qb _ _ _ _ _ _ _ qk;intros;rename_i hA
 obtain ⟨e1,e2,e3,e4,e5,e6,e7,e8,e9⟩:=j7 hA
 have q1:qa .i64 (qb a 1)=b:=ew hA (by rw [IntWalk.i64_in _ (by omega)];omega)
 have q2:qk c 0=false:=by rw [e9];exact d2U hc
 exact a5a
theorem d07 (ha0:0≤a) (ha:a≤1048576) (hL0:0≤L) (hL:L≤1048576) (h0:F7 T T4 a false) (h1:F7 T G7 a false) (h2:F7 T J7 a false) (h3:F7 T U5 a false) (h4:F7 T a3h a false) (h5:F7 T a5E a true) {R:List (List D)} (h10:FdZ T (a+1) L R n 0) (hn0:0≤n) (hn:n≤1048576) (h6:F7 T a1T n true) (h7:F7 T J7 (n+1) false):RdZ 124 T a L (lf0 0) (n+1) 5:=by
 obtain ⟨b,hb⟩:∃z,z=a+1:=⟨_,rfl⟩
 rw [←hb] at h10
 obtain ⟨m,hm⟩:∃z,z=n+1:=⟨_,rfl⟩
 rw [←hm] at h7 ⊢
 unfold lf0
 refine N2 Tryz.func124 rfl ?_;intro qa qb;intros;rename_i hA
 obtain ⟨e1,e2,e3,e4,e5,e6,e7,e8,e9⟩:=j7 hA
 have q1:qa .i64 (qb a 1)=b:=ew hA (by rw [IntWalk.i64_in _ (by omega)];omega)
 have q3:qa .i64 (qb n 1)=m:=ew hA (by rw [IntWalk.i64_in _ (by omega)];omega)
 exact a5a
theorem c7P (ha0:0≤a) (ha:a≤1048576) (hL0:0≤L) (hL:L≤1048576) (h0:F7 T T4 a false) (h1:F7 T G7 a false) (h2:F7 T J7 a false) (h3:F7 T U5 a false) (h4:F7 T a3h a false) (h5:F7 T a5E a true) {R:List (List D)} (h10:FdZ T (a+1) L R n 0) (hn0:0≤n) (hn:n≤1048576) (h6:F7 T a1T n false) (h8:F7 T a63 n false):RdZ 124 T a L (lf0 0) n 5:=by
 obtain ⟨b,hb⟩:∃z,z=a+1:=⟨_,rfl⟩
 rw [←hb] at h10
 unfold lf0
 refine N2 Tryz.func124 rfl ?_;intro qa qb;intros;rename_i hA
 obtain ⟨e1,e2,e3,e4,e5,e6,e7,e8,e9⟩:=j7 hA
 have q1:qa .i64 (qb a 1)=b:=ew hA (by rw [IntWalk.i64_in _ (by omega)];omega)
 exact a5a
theorem c7Q (ha0:0≤a) (ha:a≤1048576) (hL0:0≤L) (hL:L≤1048576) (h0:F7 T T4 a false) (h1:F7 T G7 a false) (h2:F7 T J7 a false) (h3:F7 T U5 a false) (h4:F7 T a3h a false) (h5:F7 T a5E a true) {R:List (List D)} (h10:FdZ T (a+1) L R n 0) (hn0:0≤n) (hn:n≤1048576) (h6:F7 T a1T n false) (h8:F7 T a63 n true) (h11:o9 116 [.one (.sl 5 R),.ag (lf0 8)] [.ag (cT t)]):RdZ 124 T a L (cT (.mk 5 F8 0 [t])) (n+1) 0:=by
 rw [show cT (.mk 5 F8 0 [t])=[.sc (.int .u8 5),.sc (.string F8),.sc (.int .i64 0),.sl 4 [cT t]] by rw [cT,rT,rT]]
 obtain ⟨x0,x1,x2,x3,hx⟩:=l8 t
 rw [hx] at h11 ⊢
 unfold lf0 at h11
 obtain ⟨b,hb⟩:∃z,z=a+1:=⟨_,rfl⟩
 rw [←hb] at h10
 obtain ⟨f,hg'⟩:∃z,z=n+1:=⟨_,rfl⟩
 rw [←hg']
 refine N2 Tryz.func124 rfl ?_;intro qa qb;intros;rename_i hA
 obtain ⟨e1,e2,e3,e4,e5,e6,e7,e8,e9⟩:=j7 hA
 have q1:qa .i64 (qb a 1)=b:=ew hA (by rw [IntWalk.i64_in _ (by omega)];omega)
 have q7:qa .i64 (qb n 1)=f:=ew hA (by rw [IntWalk.i64_in _ (by omega)];omega)
 exact a5a
theorem c7R (ha0:0≤a) (ha:a≤1048576) (hL0:0≤L) (hL:L≤1048576) (h0:F7 T T4 a false) (h1:F7 T G7 a false) (h2:F7 T J7 a false) (h3:F7 T U5 a false) (h4:F7 T a3h a false) (h5:F7 T a5E a true) {R:List (List D)} (h10:FdZ T (a+1) L R n 0) (hn0:0≤n) (hn:n≤1048576) (h6:F7 T a1T n true) (h7:F7 T J7 (n+1) true) (h8:F7 T a63 (n+2) false):RdZ 124 T a L (lf0 0) (n+2) 5:=by
 obtain ⟨b,hb⟩:∃z,z=a+1:=⟨_,rfl⟩
 rw [←hb] at h10
 obtain ⟨m,hm⟩:∃z,z=n+1:=⟨_,rfl⟩
 obtain ⟨m2,hm2⟩:∃z,z=n+2:=⟨_,rfl⟩
 rw [←hm] at h7
 rw [←hm2] at h8 ⊢
 unfold lf0
 refine N2 Tryz.func124 rfl ?_;intro qa qb;intros;rename_i hA
 obtain ⟨e1,e2,e3,e4,e5,e6,e7,e8,e9⟩:=j7 hA
 have q1:qa .i64 (qb a 1)=b:=ew hA (by rw [IntWalk.i64_in _ (by omega)];omega)
 have q3:qa .i64 (qb n 1)=m:=ew hA (by rw [IntWalk.i64_in _ (by omega)];omega)
 have q4:qa .i64 (qb n 2)=m2:=ew hA (by rw [IntWalk.i64_in _ (by omega)];omega)
 exact a5a
theorem c7S (ha0:0≤a) (ha:a≤1048576) (hL0:0≤L) (hL:L≤1048576) (h0:F7 T T4 a false) (h1:F7 T G7 a false) (h2:F7 T J7 a false) (h3:F7 T U5 a false) (h4:F7 T a3h a false) (h5:F7 T a5E a true) {R:List (List D)} (h10:FdZ T (a+1) L R n 0) (hn0:0≤n) (hn:n≤1048576) (h6:F7 T a1T n true) (h7:F7 T J7 (n+1) true) (h8:F7 T a63 (n+2) true) (h11:o9 116 [.one (.sl 5 R),.ag (lf0 9)] [.ag (cT t)]):RdZ 124 T a L (cT (.mk 5 F8 0 [t])) ((n+2)+1) 0:=by
 rw [show cT (.mk 5 F8 0 [t])=[.sc (.int .u8 5),.sc (.string F8),.sc (.int .i64 0),.sl 4 [cT t]] by rw [cT,rT,rT]]
 obtain ⟨x0,x1,x2,x3,hx⟩:=l8 t
 rw [hx] at h11 ⊢
 unfold lf0 at h11
 obtain ⟨b,hb⟩:∃z,z=a+1:=⟨_,rfl⟩
 rw [←hb] at h10
 obtain ⟨m,hm⟩:∃z,z=n+1:=⟨_,rfl⟩
 obtain ⟨m2,hm2⟩:∃z,z=n+2:=⟨_,rfl⟩
 obtain ⟨f,hg'⟩:∃z,z=(n+2)+1:=⟨_,rfl⟩
 rw [←hg']
 rw [←hm] at h7
 rw [←hm2] at h8
 refine N2 Tryz.func124 rfl ?_;intro qa qb;intros;rename_i hA
 obtain ⟨e1,e2,e3,e4,e5,e6,e7,e8,e9⟩:=j7 hA
 have q1:qa .i64 (qb a 1)=b:=ew hA (by rw [IntWalk.i64_in _ (by omega)];omega)
 have q3:qa .i64 (qb n 1)=m:=ew hA (by rw [IntWalk.i64_in _ (by omega)];omega)
 have q4:qa .i64 (qb n 2)=m2:=ew hA (by rw [IntWalk.i64_in _ (by omega)];omega)
 have q7:qa .i64 (qb m2 1)=f:=ew hA (by rw [IntWalk.i64_in _ (by omega)];omega)
 exact a5a
theorem d08 (ha0:0≤a) (ha:a≤1048576) (hL0:0≤L) (hL:L≤1048576) (h0:F7 T T4 a false) (h1:F7 T G7 a false) (h2:F7 T J7 a false) (h3:F7 T U5 a false) (h4:F7 T a3h a true) {R:List (List D)} (h10:FdZ T (a+1) L R n c) (hc:c≠0):RdZ 124 T a L (lf0 0) n c:=by
 obtain ⟨b,hb⟩:∃z,z=a+1:=⟨_,rfl⟩
 rw [←hb] at h10
 unfold lf0
 refine N2 Tryz.func124 rfl ?_;intro qa qb _ _ _ _ _ _ _ qk;intros;rename_i hA
 obtain ⟨e1,e2,e3,e4,e5,e6,e7,e8,e9⟩:=j7 hA
 have q1:qa .i64 (qb a 1)=b:=ew hA (by rw [IntWalk.i64_in _ (by omega)];omega)
 have q2:qk c 0=false:=by rw [e9];exact d2U hc
 exact a5a
theorem d09 (ha0:0≤a) (ha:a≤1048576) (hL0:0≤L) (hL:L≤1048576) (h0:F7 T T4 a false) (h1:F7 T G7 a false) (h2:F7 T J7 a false) (h3:F7 T U5 a false) (h4:F7 T a3h a true) {R:List (List D)} (h10:FdZ T (a+1) L R n 0) (hn0:0≤n) (hn:n≤1048576) (h6:F7 T a1T n true) (h7:F7 T J7 (n+1) false):RdZ 124 T a L (lf0 0) (n+1) 5:=by
 obtain ⟨b,hb⟩:∃z,z=a+1:=⟨_,rfl⟩
 rw [←hb] at h10
 obtain ⟨m,hm⟩:∃z,z=n+1:=⟨_,rfl⟩
 rw [←hm] at h7 ⊢
 unfold lf0
 refine N2 Tryz.func124 rfl ?_;intro qa qb;intros;rename_i hA
 obtain ⟨e1,e2,e3,e4,e5,e6,e7,e8,e9⟩:=j7 hA
 have q1:qa .i64 (qb a 1)=b:=ew hA (by rw [IntWalk.i64_in _ (by omega)];omega)
 have q3:qa .i64 (qb n 1)=m:=ew hA (by rw [IntWalk.i64_in _ (by omega)];omega)
 exact a5a
theorem c7T (ha0:0≤a) (ha:a≤1048576) (hL0:0≤L) (hL:L≤1048576) (h0:F7 T T4 a false) (h1:F7 T G7 a false) (h2:F7 T J7 a false) (h3:F7 T U5 a false) (h4:F7 T a3h a true) {R:List (List D)} (h10:FdZ T (a+1) L R n 0) (hn0:0≤n) (hn:n≤1048576) (h6:F7 T a1T n false) (h8:F7 T a64 n false):RdZ 124 T a L (lf0 0) n 5:=by
 obtain ⟨b,hb⟩:∃z,z=a+1:=⟨_,rfl⟩
 rw [←hb] at h10
 unfold lf0
 refine N2 Tryz.func124 rfl ?_;intro qa qb;intros;rename_i hA
 obtain ⟨e1,e2,e3,e4,e5,e6,e7,e8,e9⟩:=j7 hA
 have q1:qa .i64 (qb a 1)=b:=ew hA (by rw [IntWalk.i64_in _ (by omega)];omega)
 exact a5a
theorem c7U (ha0:0≤a) (ha:a≤1048576) (hL0:0≤L) (hL:L≤1048576) (h0:F7 T T4 a false) (h1:F7 T G7 a false) (h2:F7 T J7 a false) (h3:F7 T U5 a false) (h4:F7 T a3h a true) {R:List (List D)} (h10:FdZ T (a+1) L R n 0) (hn0:0≤n) (hn:n≤1048576) (h6:F7 T a1T n false) (h8:F7 T a64 n true) (h11:o9 116 [.one (.sl 5 R),.ag (lf0 8)] [.ag (cT t)]):RdZ 124 T a L (cT (.mk 6 F8 0 [t])) (n+1) 0:=by
 rw [show cT (.mk 6 F8 0 [t])=[.sc (.int .u8 6),.sc (.string F8),.sc (.int .i64 0),.sl 4 [cT t]] by rw [cT,rT,rT]]
 obtain ⟨x0,x1,x2,x3,hx⟩:=l8 t
 rw [hx] at h11 ⊢
 unfold lf0 at h11
 obtain ⟨b,hb⟩:∃z,z=a+1:=⟨_,rfl⟩
 rw [←hb] at h10
 obtain ⟨f,hg'⟩:∃z,z=n+1:=⟨_,rfl⟩
 rw [←hg']
 refine N2 Tryz.func124 rfl ?_;intro qa qb;intros;rename_i hA
 obtain ⟨e1,e2,e3,e4,e5,e6,e7,e8,e9⟩:=j7 hA
 have q1:qa .i64 (qb a 1)=b:=ew hA (by rw [IntWalk.i64_in _ (by omega)];omega)
 have q7:qa .i64 (qb n 1)=f:=ew hA (by rw [IntWalk.i64_in _ (by omega)];omega)
 exact a5a
theorem c7V (ha0:0≤a) (ha:a≤1048576) (hL0:0≤L) (hL:L≤1048576) (h0:F7 T T4 a false) (h1:F7 T G7 a false) (h2:F7 T J7 a false) (h3:F7 T U5 a false) (h4:F7 T a3h a true) {R:List (List D)} (h10:FdZ T (a+1) L R n 0) (hn0:0≤n) (hn:n≤1048576) (h6:F7 T a1T n true) (h7:F7 T J7 (n+1) true) (h8:F7 T a64 (n+2) false):RdZ 124 T a L (lf0 0) (n+2) 5:=by
 obtain ⟨b,hb⟩:∃z,z=a+1:=⟨_,rfl⟩
 rw [←hb] at h10
 obtain ⟨m,hm⟩:∃z,z=n+1:=⟨_,rfl⟩
 obtain ⟨m2,hm2⟩:∃z,z=n+2:=⟨_,rfl⟩
 rw [←hm] at h7
 rw [←hm2] at h8 ⊢
 unfold lf0
 refine N2 Tryz.func124 rfl ?_;intro qa qb;intros;rename_i hA
 obtain ⟨e1,e2,e3,e4,e5,e6,e7,e8,e9⟩:=j7 hA
 have q1:qa .i64 (qb a 1)=b:=ew hA (by rw [IntWalk.i64_in _ (by omega)];omega)
 have q3:qa .i64 (qb n 1)=m:=ew hA (by rw [IntWalk.i64_in _ (by omega)];omega)
 have q4:qa .i64 (qb n 2)=m2:=ew hA (by rw [IntWalk.i64_in _ (by omega)];omega)
 exact a5a
theorem c7W (ha0:0≤a) (ha:a≤1048576) (hL0:0≤L) (hL:L≤1048576) (h0:F7 T T4 a false) (h1:F7 T G7 a false) (h2:F7 T J7 a false) (h3:F7 T U5 a false) (h4:F7 T a3h a true) {R:List (List D)} (h10:FdZ T (a+1) L R n 0) (hn0:0≤n) (hn:n≤1048576) (h6:F7 T a1T n true) (h7:F7 T J7 (n+1) true) (h8:F7 T a64 (n+2) true) (h11:o9 116 [.one (.sl 5 R),.ag (lf0 9)] [.ag (cT t)]):RdZ 124 T a L (cT (.mk 6 F8 0 [t])) ((n+2)+1) 0:=by
 rw [show cT (.mk 6 F8 0 [t])=[.sc (.int .u8 6),.sc (.string F8),.sc (.int .i64 0),.sl 4 [cT t]] by rw [cT,rT,rT]]
 obtain ⟨x0,x1,x2,x3,hx⟩:=l8 t
 rw [hx] at h11 ⊢
 unfold lf0 at h11
 obtain ⟨b,hb⟩:∃z,z=a+1:=⟨_,rfl⟩
 rw [←hb] at h10
 obtain ⟨m,hm⟩:∃z,z=n+1:=⟨_,rfl⟩
 obtain ⟨m2,hm2⟩:∃z,z=n+2:=⟨_,rfl⟩
 obtain ⟨f,hg'⟩:∃z,z=(n+2)+1:=⟨_,rfl⟩
 rw [←hg']
 rw [←hm] at h7
 rw [←hm2] at h8
 refine N2 Tryz.func124 rfl ?_;intro qa qb;intros;rename_i hA
 obtain ⟨e1,e2,e3,e4,e5,e6,e7,e8,e9⟩:=j7 hA
 have q1:qa .i64 (qb a 1)=b:=ew hA (by rw [IntWalk.i64_in _ (by omega)];omega)
 have q3:qa .i64 (qb n 1)=m:=ew hA (by rw [IntWalk.i64_in _ (by omega)];omega)
 have q4:qa .i64 (qb n 2)=m2:=ew hA (by rw [IntWalk.i64_in _ (by omega)];omega)
 have q7:qa .i64 (qb m2 1)=f:=ew hA (by rw [IntWalk.i64_in _ (by omega)];omega)
 exact a5a
end
end
end Go.Proofs.YtahpnackkmbmgaaGreat.Vm
end

/- Part 22 of the proof. Conditions: none. -/
import Derived.Test.YtlofmibkljoapaaDoorN18
import Derived.Test.YtlofmibkljoapaaDoorN20
import Derived.Test.YtlofmibkljoapaaDoorN21
import Derived.Test.YtlofmibkljoapaaDoorN0
set_option linter.all false
set_option linter.unusedVariables false
set_option linter.unusedSimpArgs false
section
namespace Go.Proofs.YtlofmibkljoapaaDoor.Vm
open Go.RowKit
set_option maxRecDepth 100000
set_option maxHeartbeats 8000000
theorem a5s:r8 Tryd.prog (Tryd.f3.body.getD .skip)=true:=M8 (by kernel_rfl)
theorem b3B {a b:Ty} (ha:j1 a 116=true) (hb:j1 b 116=true):((a1o (C3 a)).toList == (a1o (C3 b)).toList)=((G7 a b).isSome && (G7 b a).isSome):=by
 rw[c58,c4v,c3D,<-c0c ha hb]
 constructor
 ·intro h;rw[ByteArray.toList_eq,ByteArray.toList_eq] at h;replace h:(d8 (C3 a)).toArray.toList=(d8 (C3 b)).toArray.toList:=h;rw[List.toList_toArray,List.toList_toArray] at h;exact c0j (j4 (a0i ha).1).1 (j4 (a0i hb).1).1 h
 ·intro h;rw[h]
theorem b8T (a b:Ty) (ha:Sm a) (hb:Sm b) (h:200<a.parts.length\/200<b.parts.length):l6 3 [.ag (cT a),.ag (cT b)] [.one (.sc (.bool true))]:=by
 have hal:=b0D;have hma:=a6c a ha.1;have hmb:=a6c b hb.1;obtain⟨g0,g1,g2,g3,hgg⟩:=c9 a;obtain⟨s0,s1,s2,s3,hss⟩:=c9 b;rw[hgg] at hma ⊢;rw[hss] at hmb ⊢
 by_cases h1:200<a.parts.length
 ·rw[c3K h1] at hma;refine a1v Tryd.func3 rfl (by kernel_rfl) a5s (by kernel_rfl) λqa qb qc qd qe qf qg qh qi qj qk ql qm qo qp qq qs qt qu qv qw qx qy qz vc vd ve vf vg vh vj vk vl vp vq vr vt vu vv vw vx vy vz hA=>?_
  iterate 2 (try cbv;repeat ((first|with_reducible apply b6 hA|refine c5 hA _ hal rfl ?_|refine c7 hA _ hal ?_|refine c5 hA _ hma rfl ?_|refine c7 hA _ hma ?_);cbv))
 ·rw[c3I h1] at hma;rw[c3K (h.resolve_left h1)] at hmb;refine a1v Tryd.func3 rfl (by kernel_rfl) a5s (by kernel_rfl) λqa qb qc qd qe qf qg qh qi qj qk ql qm qo qp qq qs qt qu qv qw qx qy qz vc vd ve vf vg vh vj vk vl vp vq vr vt vu vv vw vx vy vz hA=>?_
  iterate 2 (try cbv;repeat ((first|with_reducible apply b6 hA|refine c5 hA _ hal rfl ?_|refine c7 hA _ hal ?_|refine c5 hA _ hma rfl ?_|refine c7 hA _ hma ?_|refine c5 hA _ hmb rfl ?_|refine c7 hA _ hmb ?_);cbv))
theorem b8U (a b:Ty) (ha:Sm a) (hb:Sm b) (h1:¬200<a.parts.length) (h2:¬200<b.parts.length) (hr:j1 a 116=false):l6 3 [.ag (cT a),.ag (cT b)] [.one (.sc (.bool true))]:=by
 have hal:=b0D;have hma:=a6c a ha.1;have hmb:=a6c b hb.1;have hP:=a9z a ha hr;have hF:=c2M a ha hr;have hR:=a9W a ha.1 ha.2;rw[hr] at hR;rw[c3I h1] at hma;rw[c3I h2] at hmb;obtain⟨g0,g1,g2,g3,hgg⟩:=c9 a;obtain⟨s0,s1,s2,s3,hss⟩:=c9 b;rw[hgg] at hma hP hF hR ⊢;rw[hss] at hmb ⊢;refine a1v Tryd.func3 rfl (by kernel_rfl) a5s (by kernel_rfl) ?_;intro qa _ _ _ _ _ _ _ _ qj _ ql _ qo;intros;rename_i hA;obtain⟨e1,e2,e3,e4,e5,e6,e7,e8,e9⟩:=j3 hA;have t1:=(w7 hA).1;have q1:qj (qa .i64 15) 15=true:=by rw[e9,e1];rfl
 have q2:ql (qo ⟨#[]⟩) (qo ⟨#[]⟩)=true:=by rw[t1];exact c4M _
 have q3:qj 0 0=true:=by rw[e9];rfl
 iterate 2 (try cbv;repeat ((first|with_reducible apply b6 hA|rw[q1]|rw[q2]|rw[q3]|refine c5 hA _ hal rfl ?_|refine c7 hA _ hal ?_|refine c5 hA _ hma rfl ?_|refine c7 hA _ hma ?_|refine c5 hA _ hmb rfl ?_|refine c7 hA _ hmb ?_|refine c5 hA _ hP rfl ?_|refine c7 hA _ hP ?_|refine c5 hA _ hF rfl ?_|refine c7 hA _ hF ?_|refine c5 hA _ hR rfl ?_|refine c7 hA _ hR ?_);cbv))
theorem b8V (a b:Ty) (ha:Sm a) (hb:Sm b) (h1:¬200<a.parts.length) (h2:¬200<b.parts.length) (hra:j1 a 116=true):l6 3 [.ag (cT a),.ag (cT b)] [.one (.sc (.bool true))]:=by
 have hal:=b0D;have hma:=a6c a ha.1;have hmb:=a6c b hb.1;have hP:=a8t a ha hra;have hF:=c3l a ha hra;have hR:=a9W a ha.1 ha.2;have hQ:=b63 a ha hra
 have hG:=c2K (a1o (C3 a)) (by
  obtain⟨n1,n2,n3⟩:=a0i hra;obtain⟨n4,n5⟩:=b07 ha hra;have hM:=a6g n1 n5;rw[n2] at hM;have:=a3p hM n4.1;show (d8 (C3 a)).toArray.size<=_;simp only[c5o]
  omega)
 have hRb:=a9W b hb.1 hb.2;have hI:=a8h a b ha hb;have hJ:=a8h b a hb ha;have hPb:=λh=>a8t b hb h
 have hsame:=λh=>b3B hra (b:=b) h
 rw[hra] at hR;rw[c3I h1] at hma;rw[c3I h2] at hmb;generalize (G7 a b).isSome=i1 at *;generalize (G7 b a).isSome=i2 at *;generalize fpS (I5 (a1o (C3 a)))=fp at *;generalize a1o (C3 a)=S at *;generalize a1o (C3 b)=U at *;obtain⟨g0,g1,g2,g3,hgg⟩:=c9 a;obtain⟨s0,s1,s2,s3,hss⟩:=c9 b;rw[hgg] at hma hP hF hR hQ hI hJ ⊢;rw[hss] at hmb hRb hPb hI hJ ⊢;cases hrb:j1 b 116 with
 | false =>
  rw[hrb] at hRb;clear hPb hsame;refine a1v Tryd.func3 rfl (by kernel_rfl) a5s (by kernel_rfl) λqa qb qc qd qe qf qg qh qi qj qk ql qm qo qp qq qs qt qu qv qw qx qy qz vc vd ve vf vg vh vj vk vl vp vq vr vt vu vv vw vx vy vz hA=>?_
  obtain⟨e1,e2,e3,e4,e5,e6,e7,e8,e9⟩:=j3 hA;have t1:=(w7 hA).1;have q1:qj (qa .i64 (qb (qa .i64 0) (qa .i64 0))) 0=true:=by rw[e9,e1,e1,e2];rfl
  have q2:ql (qo S) (qo S)=true:=by rw[t1];exact c4M _
  have q3:qj fp fp=true:=by rw[e9];exact c4M _
  iterate 2 (try cbv;repeat ((first|with_reducible apply b6 hA|rw[q1]|rw[q2]|rw[q3]|refine c5 hA _ hal rfl ?_|refine c7 hA _ hal ?_|refine c5 hA _ hma rfl ?_|refine c7 hA _ hma ?_|refine c5 hA _ hmb rfl ?_|refine c7 hA _ hmb ?_|refine c5 hA _ hP rfl ?_|refine c7 hA _ hP ?_|refine c5 hA _ hF rfl ?_|refine c7 hA _ hF ?_|refine c5 hA _ hR rfl ?_|refine c7 hA _ hR ?_|refine c5 hA _ hQ rfl ?_|refine c7 hA _ hQ ?_|refine c5 hA _ hG rfl ?_|refine c7 hA _ hG ?_|refine c5 hA _ hRb rfl ?_|refine c7 hA _ hRb ?_);cbv))
 | true =>
  rw[hrb] at hRb;replace hPb:=hPb hrb;replace hsame:=hsame hrb;refine a1v Tryd.func3 rfl (by kernel_rfl) a5s (by kernel_rfl) λqa qb qc qd qe qf qg qh qi qj qk ql qm qo qp qq qs qt qu qv qw qx qy qz vc vd ve vf vg vh vj vk vl vp vq vr vt vu vv vw vx vy vz hA=>?_
  obtain⟨e1,e2,e3,e4,e5,e6,e7,e8,e9⟩:=j3 hA;obtain⟨t1,-,t3,-⟩:=w7 hA;have q1:qj (qa .i64 (qb (qa .i64 0) (qa .i64 0))) 0=true:=by rw[e9,e1,e1,e2];rfl
  have q2:ql (qo S) (qo S)=true:=by rw[t1];exact c4M _
  have q3:qj fp fp=true:=by rw[e9];exact c4M _
  have q4:qj (qa .i64 0) 0=true:=by rw[e9,e1];rfl
  have q5:ql (qo S) (qo U)=(i1 && i2):=by rw[t1,t3,t3,hsame]
  clear hsame;cases i1 <;> cases i2
  all_goals
   simp only[Bool.and_false,Bool.and_true,Bool.false_and,c4O] at q5
   iterate 2 (try cbv;repeat ((first|with_reducible apply b6 hA|rw[q1]|rw[q2]|rw[q3]|rw[q4]|rw[q5]|refine c5 hA _ hal rfl ?_|refine c7 hA _ hal ?_|refine c5 hA _ hma rfl ?_|refine c7 hA _ hma ?_|refine c5 hA _ hmb rfl ?_|refine c7 hA _ hmb ?_|refine c5 hA _ hP rfl ?_|refine c7 hA _ hP ?_|refine c5 hA _ hF rfl ?_|refine c7 hA _ hF ?_|refine c5 hA _ hR rfl ?_|refine c7 hA _ hR ?_|refine c5 hA _ hQ rfl ?_|refine c7 hA _ hQ ?_|refine c5 hA _ hG rfl ?_|refine c7 hA _ hG ?_|refine c5 hA _ hRb rfl ?_|refine c7 hA _ hRb ?_|refine c5 hA _ hPb rfl ?_|refine c7 hA _ hPb ?_|refine c5 hA _ hI rfl ?_|refine c7 hA _ hI ?_|refine c5 hA _ hJ rfl ?_|refine c7 hA _ hJ ?_);cbv))
theorem c3p (a b:Ty) (ha:Sm a) (hb:Sm b):l6 3 [.ag (cT a),.ag (cT b)] [.one (.sc (.bool true))]:=by
 by_cases h1:200<a.parts.length
 ·exact b8T a b ha hb (.inl h1)
 ·by_cases h2:200<b.parts.length
  ·exact b8T a b ha hb (.inr h2)
  ·cases hr:j1 a 116 with
   | true=>exact b8V a b ha hb h1 h2 hr
   | false=>exact b8U a b ha hb h1 h2 hr
set_option maxRecDepth 100000 in
theorem XP_up {r0 r1:R} {m0 m1:Nat} (d0:a1n Tryd.prog 25 r0 m0) (d1:a1n Tryd.prog 25 r1 m1) (hm:m0+m1<=1048576):l6 3 [r0,r1] [.one (.sc (.bool true))]:=by
 obtain⟨a,rfl,h1,_,h2⟩:=b5k d0;obtain⟨b,rfl,h3,_,h4⟩:=b5k d1;exact c3p a b ⟨by omega,λx hx=>by have:=h2 x hx;omega⟩ ⟨by omega,λx hx=>by have:=h4 x hx;omega⟩
end Go.Proofs.YtlofmibkljoapaaDoor.Vm
end

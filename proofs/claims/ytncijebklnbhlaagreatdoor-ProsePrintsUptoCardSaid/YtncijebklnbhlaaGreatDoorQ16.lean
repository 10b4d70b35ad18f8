/- Part 16 of the proof. Conditions: none. -/
import Derived.Test.YtncijebklnbhlaaGreatDoorQ8
import Derived.Test.YtncijebklnbhlaaGreatDoorQ9
import Derived.Test.YtncijebklnbhlaaGreatDoorQ13
import Derived.Test.YtncijebklnbhlaaGreatDoorQ15
set_option linter.all false
set_option linter.unusedVariables false
set_option linter.unusedSimpArgs false
section
namespace Go.Proofs.YtncijebklnbhlaaGreatDoor.Vm
open Go.RowKit
set_option maxRecDepth 100000
set_option maxHeartbeats 4000000
def bx (l:List UInt8):ByteArray:=⟨l.toArray⟩
theorem a13 (l m:List UInt8):bx l++bx m=bx (l++m):=by
 unfold bx
 apply ByteArray.ext
 apply Array.ext'
 simp
theorem s8 (l:List UInt8):(bx l).size=l.length:=rfl
theorem b99 (s:ByteArray):bx (H3 s)=s:=by
 unfold bx H3
 apply ByteArray.ext
 apply Array.ext'
 simp
theorem a1e {n:Int} (h0:0<=n) (h:n<10):Lib.itoa n=[UInt8.ofNat (48+n.toNat)]:=by
 unfold Lib.itoa;rw[if_neg (by omega),Lib.decDigits_one (by omega)]
theorem a8d {n:Int} (h0:0<=n) (h:¬n<10):Lib.itoa n=Lib.itoa (n / 10)++Lib.itoa (n % 10):=by
 rw[a1e (n:=n % 10) (by omega) (by omega)];unfold Lib.itoa;rw[if_neg (by omega),if_neg (by omega),Lib.decDigits,dif_neg (by omega)]
 congr 2
 ·omega
 ·congr 2
  omega
theorem b8u:∀(m:Nat) (n:Int),n.toNat<=m->0<=n->n<=9223372036854775807->j5 35 [.one (.sc (.int .i64 n))] [.one (.sc (.string (bx (Lib.itoa n))))]:=by
 intro m
 induction m using Nat.strongRecOn with
 | ind m ih =>
  intro n hm h0 h1
  by_cases h:n<10
  ·rw[a1e h0 h];obtain⟨S,hS⟩:∃S,S=bx [UInt8.ofNat (48+n.toNat)]:=⟨_,rfl⟩;rw[<-hS];refine C2 Tryz.func35 rfl λqa qb qc qd qe qf qg qh qi qj qk ql qm qo qp qq qt qu qv qw qx qy qz va vc vd ve vf vg vh vj vk vl vm vn vo vp vq vr vt vu vv vw hA=>?_
   obtain⟨e1,e2,e3,e4,e5,e6,e7,e8,e9⟩:=l7 hA;obtain⟨b1,b2⟩:=a8G hA;have hlt:qh n 10=true:=by rw[e7];exact decide_eq_true h
   have hT:qw [[.sc (.int .u8 (qa .u8 (qa .i64 (qb 48 n))))]]=some S:=by
    rw[b1,e1,e1,e2,IntWalk.i64_in _ (by omega),show IntKind.wrap .u8 (48+n)=48+n by simp[IntKind.wrap,IntKind.signed,IntKind.bits];omega,hS];show some (⟨⟨[UInt8.ofNat (48+n).toNat]⟩⟩:ByteArray)=some ⟨⟨[UInt8.ofNat (48+n.toNat)]⟩⟩;rw[show (48+n).toNat=48+n.toNat by omega]
   iterate 2 (try cbv;repeat ((first|with_reducible apply j2 hA|rw[hlt]|rw[hT]|refine y7 hA true ?_);cbv))
  ·have i1:=ih (n / 10).toNat (by omega) (n / 10) (Nat.le_refl _) (by omega) (by omega);have i2:=ih (n % 10).toNat (by omega) (n % 10) (Nat.le_refl _) (by omega) (by omega);have l1:=Lib.itoa_length_le (n / 10) (by omega) (by omega);have l2:=Lib.itoa_length_le (n % 10) (by omega) (by omega);rw[a8d h0 h,<-a13];have hfit:(bx (Lib.itoa (n / 10))).size+(bx (Lib.itoa (n % 10))).size<=4611686018427387904:=by rw[s8,s8];omega
   generalize bx (Lib.itoa (n / 10))=A at *;generalize bx (Lib.itoa (n % 10))=B at *;obtain⟨S,hS⟩:∃S,S=A++B:=⟨_,rfl⟩;rw[<-hS];obtain⟨q,hq⟩:∃q,q=n / 10:=⟨_,rfl⟩;obtain⟨r,hr⟩:∃r,r=n % 10:=⟨_,rfl⟩;rw[<-hq] at i1;rw[<-hr] at i2;clear ih;refine C2 Tryz.func35 rfl λqa qb qc qd qe qf qg qh qi qj qk ql qm qo qp qq qt qu qv qw qx qy qz va vc vd ve vf vg vh vj vk vl vm vn vo vp vq vr vt vu vv vw hA=>?_
   obtain⟨e1,e2,e3,e4,e5,e6,e7,e8,e9⟩:=l7 hA;obtain⟨s1,s2,s3,s4,s5,s6,s7⟩:=o8 hA;have hlt:qh n 10=false:=by rw[e7];exact decide_eq_false h
   have hQ:qa .i64 (qe n 10)=q:=by rw[e1,e5,hq,Int.tdiv_eq_ediv_of_nonneg h0,IntWalk.i64_in _ (by omega)]
   have hR:qf n 10=r:=by rw[e6,hr,Int.tmod_eq_emod_of_nonneg h0]
   have hC:qp A B=S:=by rw[s4,hS]
   iterate 2 (try cbv;repeat ((first|with_reducible apply j2 hA|rw[hlt]|rw[hQ]|rw[hR]|rw[hC]|refine j3 hA _ i1 rfl ?_|refine j4 hA _ i1 ?_|refine j3 hA _ i2 rfl ?_|refine j4 hA _ i2 ?_|refine b8l hA (by decide) ?_|refine n9 hA hfit ?_);cbv))
section
theorem b3S {n:Int} (h0:0<=n) (h:¬n<10):Lib.itoa n=Lib.itoa (n / 10)++[UInt8.ofNat (48+(n % 10).toNat)]:=by
 rw[a8d h0 h,a1e (n:=n % 10) (by omega) (by omega)]
theorem b5U:∀(m:Nat) (n:Int),n.toNat<=m->0<=n->n<=9223372036854775807->j5 15 [.one (.sc (.int .i64 n))] [.one (.sc (.string (bx (Lib.itoa n))))]:=by
 intro m
 induction m using Nat.strongRecOn with
 | ind m ih =>
  intro n hm h0 h1
  by_cases h:n<10
  ·rw[a1e h0 h];obtain⟨S,hS⟩:∃S,S=bx [UInt8.ofNat (48+n.toNat)]:=⟨_,rfl⟩;rw[<-hS];refine C2 Tryz.func15 rfl λqa qb qc qd qe qf qg qh qi qj qk ql qm qo qp qq qt qu qv qw qx qy qz va vc vd ve vf vg vh vj vk vl vm vn vo vp vq vr vt vu vv vw hA=>?_
   obtain⟨e1,e2,e3,e4,e5,e6,e7,e8,e9⟩:=l7 hA;obtain⟨b1,b2⟩:=a8G hA;have hlt:qh n 10=true:=by rw[e7];exact decide_eq_true h
   have hT:qw [[.sc (.int .u8 (qa .u8 (qa .i64 (qb 48 n))))]]=some S:=by
    rw[b1,e1,e1,e2,IntWalk.i64_in _ (by omega),show IntKind.wrap .u8 (48+n)=48+n by simp[IntKind.wrap,IntKind.signed,IntKind.bits];omega,hS];show some (⟨⟨[UInt8.ofNat (48+n).toNat]⟩⟩:ByteArray)=some ⟨⟨[UInt8.ofNat (48+n.toNat)]⟩⟩;rw[show (48+n).toNat=48+n.toNat by omega]
   iterate 2 (try cbv;repeat ((first|with_reducible apply j2 hA|rw[hlt]|rw[hT]|refine y7 hA true ?_);cbv))
  ·have i1:=ih (n / 10).toNat (by omega) (n / 10) (Nat.le_refl _) (by omega) (by omega);have l1:=Lib.itoa_length_le (n / 10) (by omega) (by omega);rw[b3S h0 h,<-a13];obtain⟨B,hB⟩:∃B,B=bx [UInt8.ofNat (48+(n % 10).toNat)]:=⟨_,rfl⟩;rw[<-hB];have hfit:(bx (Lib.itoa (n / 10))).size+B.size<=4611686018427387904:=by rw[hB,s8,s8,List.length_cons,List.length_nil];omega
   generalize bx (Lib.itoa (n / 10))=A at *;obtain⟨S,hS⟩:∃S,S=A++B:=⟨_,rfl⟩;rw[<-hS];obtain⟨q,hq⟩:∃q,q=n / 10:=⟨_,rfl⟩;obtain⟨r,hr⟩:∃r,r=n % 10:=⟨_,rfl⟩;rw[<-hq] at i1;rw[<-hr] at hB;clear ih;refine C2 Tryz.func15 rfl λqa qb qc qd qe qf qg qh qi qj qk ql qm qo qp qq qt qu qv qw qx qy qz va vc vd ve vf vg vh vj vk vl vm vn vo vp vq vr vt vu vv vw hA=>?_
   obtain⟨e1,e2,e3,e4,e5,e6,e7,e8,e9⟩:=l7 hA;obtain⟨b1,b2⟩:=a8G hA;obtain⟨s1,s2,s3,s4,s5,s6,s7⟩:=o8 hA;have hlt:qh n 10=false:=by rw[e7];exact decide_eq_false h
   have hQ:qa .i64 (qe n 10)=q:=by rw[e1,e5,hq,Int.tdiv_eq_ediv_of_nonneg h0,IntWalk.i64_in _ (by omega)]
   have hR:qf n 10=r:=by rw[e6,hr,Int.tmod_eq_emod_of_nonneg h0]
   have hC:qp A B=S:=by rw[s4,hS]
   have hT:qw [[.sc (.int .u8 (qa .u8 (qa .i64 (qb 48 r))))]]=some B:=by
    rw[b1,e1,e1,e2,IntWalk.i64_in _ (by omega),show IntKind.wrap .u8 (48+r)=48+r by simp[IntKind.wrap,IntKind.signed,IntKind.bits];omega,hB];show some (⟨⟨[UInt8.ofNat (48+r).toNat]⟩⟩:ByteArray)=some ⟨⟨[UInt8.ofNat (48+r.toNat)]⟩⟩;rw[show (48+r).toNat=48+r.toNat by omega]
   iterate 2 (all_goals try cbv;repeat' (first|with_reducible apply And.intro|((first|with_reducible apply j2 hA|rw[hlt]|rw[hQ]|rw[hR]|rw[hC]|rw[hT]|refine j3 hA _ i1 rfl ?_|refine j4 hA _ i1 ?_|refine b2F hA [0,1,3,4,5,6,8,9] (by kernel_rfl) ?_|refine b8l hA (by decide) ?_|refine n9 hA hfit ?_|refine y7 hA true ?_);cbv)))
def b7H (nm:ByteArray):Prop:=nm≠⟨⟨[60]⟩⟩/\nm≠⟨⟨[61,61]⟩⟩/\nm≠⟨⟨[43]⟩⟩/\nm≠⟨⟨[45]⟩⟩
section
variable {qa:_} {qb:_} {qc:_} {qd:_} {qe:_} {qf:_} {qg:_} {qh:_} {qi:_} {qj:_} {qk:_} {ql:_} {qm:_} {qo:_} {qp:_} {qq:_} {qt:_} {qu:_} {qv:_} {qw:_} {qx:_} {qy:_} {qz:_} {va:_} {vc:_} {vd:_} {ve:_} {vf:_} {vg:_} {vh:_} {vj:_} {vk:_} {vl:_} {vm:_} {vn:_} {vo:_} {vp:_} {vq:_} {vr:_} {vt:_} {vu:_} {vv:_} {vw:_} (hA:Ar.mk qa qb qc qd qe qf qg qh qi qj qk ql qm qo qp qq qt qu qv qw qx qy qz va vc vd ve vf vg vh vj vk vl vm vn vo vp vq vr vt vu vv vw=j1)
include hA
theorem a19 {x y:ByteArray} (h:x≠y):ql (qo x) (qo y)=false:=by
 obtain⟨s1,s2,s3,s4,s5,s6,s7⟩:=o8 hA;rw[s1,s3,s3,ByteArray.toList_eq,ByteArray.toList_eq];exact beq_false_of_ne λe=>h (a3K e)
end
section
variable {op n:Int} {nm ar X U F:ByteArray} {has:Bool} {d2 d3 d4 d5 d6 d7 d8 d9 x5 x6 x7 x8:D} {K:List (List D)} {b c:Nat->D}
theorem b5V (hn:op=40\/b7H nm):j5 18 [.ag [.sc (.int .u8 op),.sc (.string nm),d2,d3,d4,d5,d6,d7,d8,d9]] [.one (.sc (.int .i64 (rkM op nm)))]:=by
 by_cases h40:op=40
 ·subst h40;clear hn;obtain⟨r,hr⟩:∃r,r=rkM 40 nm:=⟨_,rfl⟩;rw[<-hr];unfold rkM at hr;rw[if_neg (by decide),if_pos rfl] at hr;refine C2 Tryz.func18 rfl λqa qb qc qd qe qf qg qh qi qj qk ql qm qo qp qq qt qu qv qw qx qy qz va vc vd ve vf vg vh vj vk vl vm vn vo vp vq vr vt vu vv vw hA=>?_
  have q0:=(l7 hA).2.2.2.2.2.2.2.2
  by_cases h1:nm=⟨⟨[60]⟩⟩
  ·rw[if_pos (.inl h1)] at hr;rw[hr,h1];have q1:=esr (x:=⟨⟨[60]⟩⟩) hA;cbv;exact fr
  have q1:=a19 hA h1
  by_cases h2:nm=⟨⟨[61,61]⟩⟩
  ·rw[if_pos (.inr h2)] at hr;rw[hr];rw[h2] at q1 ⊢;have q2:=esr (x:=⟨⟨[61,61]⟩⟩) hA;cbv;exact fr
  have q2:=a19 hA h2;rw[if_neg (by rintro (h|h);exact h1 h;exact h2 h)] at hr
  by_cases h3:nm=⟨⟨[43]⟩⟩
  ·rw[if_pos (.inl h3)] at hr;rw[hr];rw[h3] at q1 q2 ⊢;have q3:=esr (x:=⟨⟨[43]⟩⟩) hA;cbv;exact fr
  have q3:=a19 hA h3
  by_cases h4:nm=⟨⟨[45]⟩⟩
  ·rw[if_pos (.inr h4)] at hr;rw[hr];rw[h4] at q1 q2 q3 ⊢;have q4:=esr (x:=⟨⟨[45]⟩⟩) hA;cbv;exact fr
  have q4:=a19 hA h4;rw[if_neg (by rintro (h|h);exact h3 h;exact h4 h)] at hr;rw[hr];cbv;exact fr
 ·obtain⟨n1,n2,n3,n4⟩:=hn.resolve_left h40
  by_cases h:op=35\/op=36\/op=38\/op=39\/op=37\/op=46\/op=47\/op=43\/op=44
  ·obtain⟨r,hr⟩:∃r,r=rkM op nm:=⟨_,rfl⟩;rw[<-hr];unfold rkM at hr;rw[if_neg h40] at hr
   rcases h with rfl|rfl|rfl|rfl|rfl|rfl|rfl|rfl|rfl
   all_goals
    rw[show r=_ from hr];refine C2 Tryz.func18 rfl λqa qb qc qd qe qf qg qh qi qj qk ql qm qo qp qq qt qu qv qw qx qy qz va vc vd ve vf vg vh vj vk vl vm vn vo vp vq vr vt vu vv vw hA=>?_
    have q0:=(l7 hA).2.2.2.2.2.2.2.2;have q1:=a19 hA n1;have q2:=a19 hA n2;have q3:=a19 hA n3;have q4:=a19 hA n4;cbv;exact fr
  ·rw[show rkM op nm=6 by unfold rkM;rw[if_neg (by omega),if_neg h40,if_neg (by omega),if_neg (by omega),if_neg (by omega)]];refine C2 Tryz.func18 rfl λqa qb qc qd qe qf qg qh qi qj qk ql qm qo qp qq qt qu qv qw qx qy qz va vc vd ve vf vg vh vj vk vl vm vn vo vp vq vr vt vu vv vw hA=>?_
   have q0:=eb hA (beq_false_of_ne (show op≠35 by omega));have q1:=eb hA (beq_false_of_ne (show op≠36 by omega));have q2:=eb hA (beq_false_of_ne (show op≠38 by omega));have q3:=eb hA (beq_false_of_ne (show op≠39 by omega));have q4:=eb hA (beq_false_of_ne (show op≠40 by omega));have q5:=eb hA (beq_false_of_ne (show op≠37 by omega));have q6:=eb hA (beq_false_of_ne (show op≠46 by omega));have q7:=eb hA (beq_false_of_ne (show op≠47 by omega));have q8:=eb hA (beq_false_of_ne (show op≠43 by omega));have q9:=eb hA (beq_false_of_ne (show op≠44 by omega));have p0:=a19 hA n1;have p1:=a19 hA n2;have p2:=a19 hA n3;have p3:=a19 hA n4;cbv;exact fr
theorem b9A {r:Int} (hn:op=40\/b7H nm) (h0:j5 8 [.ag [.sc (.int .u8 op),.sc (.string nm),d2,d3,d4,d5,d6,d7,d8,d9]] [.one (.sc (.string X))]) (h1:Fz X):j5 17 [.ag [.sc (.int .u8 op),.sc (.string nm),d2,d3,d4,d5,d6,d7,d8,d9],.one (.sc (.int .i64 r))] [.one (.sc (.string (atB (rkM op nm) r X)))]:=by
 unfold Fz at *;have k0:=b5V (d2:=d2) (d3:=d3) (d4:=d4) (d5:=d5) (d6:=d6) (d7:=d7) (d8:=d8) (d9:=d9) hn;generalize rkM op nm=k at *;obtain⟨R,hR⟩:∃R:ByteArray,R=atB k r X:=⟨_,rfl⟩;rw[<-hR];unfold atB at hR;clear hn
 by_cases hk:k<r
 ·rw[if_pos hk] at hR;refine C2 Tryz.func17 rfl λqa qb qc qd qe qf qg qh qi qj qk ql qm qo qp qq qt qu qv qw qx qy qz va vc vd ve vf vg vh vj vk vl vm vn vo vp vq vr vt vu vv vw hA=>?_
  obtain⟨s1,s2,s3,s4,s5,s6,s7⟩:=o8 hA;obtain⟨e1,e2,e3,e4,e5,e6,e7,e8,e9⟩:=l7 hA;have q0:qh k r=true:=by rw[e7];exact decide_eq_true hk
  iterate 2 (try cbv;repeat ((first|with_reducible apply j2 hA|rw[q0]|refine j3 hA _ h0 rfl ?_|refine j4 hA _ h0 ?_|refine j3 hA _ k0 rfl ?_|refine j4 hA _ k0 ?_|(refine n9 hA (by simp only[s4,ByteArray.size_append,U0,List.length_cons,List.length_nil];omega) ?_));cbv))
  try simp (maxSteps:=4000000) only [nc] at *
  exact a2g (by rw[hR];simp only[s4])
 ·rw[if_neg hk] at hR;rw[hR];refine C2 Tryz.func17 rfl λqa qb qc qd qe qf qg qh qi qj qk ql qm qo qp qq qt qu qv qw qx qy qz va vc vd ve vf vg vh vj vk vl vm vn vo vp vq vr vt vu vv vw hA=>?_
  obtain⟨e1,e2,e3,e4,e5,e6,e7,e8,e9⟩:=l7 hA;have q0:qh k r=false:=by rw[e7];exact decide_eq_false hk
  cbv;exact fr
theorem b08 (h0:has=true->j5 20 [.ag [x5,x6,x7,x8]] [.one (.sc (.string X))]) (h1:Fz ar) (h2:Fz X):j5 16 [.ag (nC op nm ar n has x5 x6 x7 x8 K)] [.one (.sc (.string (a7l has ar X)))]:=by
 unfold Fz at *;obtain⟨R,hR⟩:∃R,R=a7l has ar X:=⟨_,rfl⟩;rw[<-hR];unfold a7l at hR;cases has
 ·rw[if_neg (by decide)] at hR;rw[hR];clear h0;refine C2 Tryz.func16 rfl λqa qb qc qd qe qf qg qh qi qj qk ql qm qo qp qq qt qu qv qw qx qy qz va vc vd ve vf vg vh vj vk vl vm vn vo vp vq vr vt vu vv vw hA=>?_
  cbv;exact fr
 ·rw[if_pos rfl] at hR;replace h0:=h0 rfl;refine C2 Tryz.func16 rfl λqa qb qc qd qe qf qg qh qi qj qk ql qm qo qp qq qt qu qv qw qx qy qz va vc vd ve vf vg vh vj vk vl vm vn vo vp vq vr vt vu vv vw hA=>?_
  obtain⟨s1,s2,s3,s4,s5,s6,s7⟩:=o8 hA
  iterate 2 (try cbv;repeat ((first|with_reducible apply j2 hA|refine j3 hA _ h0 rfl ?_|refine j4 hA _ h0 ?_|(refine n9 hA (by simp only[s4,ByteArray.size_append,U0,List.length_cons,List.length_nil];omega) ?_));cbv))
  try simp (maxSteps:=4000000) only [nc] at *
  exact a2g (by rw[hR];simp only[s4])
theorem b9B (k0:K[0]?=some (tC b)) (k1:K[1]?=some [.sc (.int .u8 42),c 1,c 2,c 3,c 4,c 5,c 6,c 7,c 8,c 9]) (h0:j5 8 [.ag (tC b)] [.one (.sc (.string X))]) (z0:Fz X) (zn:Fz nm) (h1:j5 19 [.ag [.sc (.int .u8 42),c 1,c 2,c 3,c 4,c 5,c 6,c 7,c 8,c 9]] [.one (.sc (.string F))]) (z1:Fz F) :
  j5 19 [.ag (nC op nm ar n has x5 x6 x7 x8 K)] [.one (.sc (.string (nm++⟨⟨[32,61,32]⟩⟩++X++⟨⟨[44,32]⟩⟩++F)))]:=wt Tryz.func19 rfl
theorem b9C (k0:K[0]?=some (tC b)) (k1:K[1]?=some [.sc (.int .u8 41),c 1,c 2,c 3,c 4,c 5,c 6,c 7,c 8,c 9]) (h0:j5 8 [.ag (tC b)] [.one (.sc (.string X))]) (z0:Fz X) (zn:Fz nm) :
  j5 19 [.ag (nC op nm ar n has x5 x6 x7 x8 K)] [.one (.sc (.string (nm++⟨⟨[32,61,32]⟩⟩++X)))]:=wt Tryz.func19 rfl
theorem b9D {o:Int} (ho:o≠42/\o≠41) (k0:K[0]?=some (tC b)) (k1:K[1]?=some [.sc (.int .u8 o),c 1,c 2,c 3,c 4,c 5,c 6,c 7,c 8,c 9]) (h0:j5 8 [.ag (tC b)] [.one (.sc (.string X))]) (z0:Fz X) (zn:Fz nm) (h1:j5 8 [.ag [.sc (.int .u8 o),c 1,c 2,c 3,c 4,c 5,c 6,c 7,c 8,c 9]] [.one (.sc (.string U))]) (z1:Fz U) :
  j5 19 [.ag (nC op nm ar n has x5 x6 x7 x8 K)] [.one (.sc (.string (nm++⟨⟨[32,61,32]⟩⟩++X++⟨⟨[32,124,32]⟩⟩++U)))]:=by
 unfold Fz at *;obtain⟨R,hR⟩:∃R:ByteArray,R=nm++⟨⟨[32,61,32]⟩⟩++X++⟨⟨[32,124,32]⟩⟩++U:=⟨_,rfl⟩;rw[<-hR];refine C2 Tryz.func19 rfl ?_;intros;rename_i hA;have s4:=(o8 hA).2.2.2.1;have g0:=gk0 hA k0;have g1:=gk1 hA k1;have q1:=eb hA (beq_false_of_ne ho.1);have q2:=eb hA (beq_false_of_ne ho.2)
 iterate 2 (try cbv;repeat ((first|with_reducible apply j2 hA|rw[g0]|rw[g1]|rw[q1]|rw[q2]|refine j3 hA _ h0 rfl ?_|refine j4 hA _ h0 ?_|refine j3 hA _ h1 rfl ?_|refine j4 hA _ h1 ?_|(refine n9 hA (by simp only[s4,ByteArray.size_append,U0,List.length_cons,List.length_nil];omega) ?_));cbv))
 try simp (maxSteps:=4000000) only [nc] at *
 exact a2g (by rw[hR];simp only[s4])
end
end
section
theorem a1f (sep:ByteArray):E8 [] sep=⟨⟨[]⟩⟩:=rfl
theorem a6X (sep p:ByteArray):∀(q:ByteArray) (ps:List ByteArray),E8 ((q::ps)++[p]) sep=E8 (q::ps) sep++sep++p
 | q,[]=>by rw[List.singleton_append,L5,M8,M8]
 | q,r::ps=>by
  have:=a6X sep p r ps;rw[List.cons_append] at this;rw[List.cons_append,List.cons_append,L5,this,L5,ByteArray.append_assoc,ByteArray.append_assoc,ByteArray.append_assoc,ByteArray.append_assoc,ByteArray.append_assoc]
theorem b1R (sep p:ByteArray) {ps:List ByteArray} {k:Nat} (hp:ps[k]?=some p):E8 (ps.take (k+1)) sep=if k=0 then p else E8 (ps.take k) sep++sep++p:=by
 rw[a1c hp]
 by_cases h:k=0
 ·rw[if_pos h,h,List.take_zero,List.nil_append,M8]
 ·rw[if_neg h];cases hq:ps.take k with
  | nil =>
   have h1:=congrArg List.length hq;rw[List.length_take,List.length_nil] at h1;have h2:=(List.getElem?_eq_some_iff.1 hp).1;omega
  | cons q l=>exact a6X sep p q l
theorem b09 (sep:ByteArray):∀(l:List ByteArray) (k:Nat),(E8 (l.take k) sep).size<=(E8 l sep).size
 | [],k=>by rw[List.take_nil];exact Nat.le_refl _
 | [p],0=>by rw[List.take_zero,a1f];exact Nat.zero_le _
 | [p],k+1=>by rw[List.take_succ_cons,List.take_nil];exact Nat.le_refl _
 | p::q::l,0=>by rw[List.take_zero,a1f];exact Nat.zero_le _
 | p::q::l,1=>by
  rw[List.take_succ_cons,List.take_zero,M8,L5,ByteArray.size_append,ByteArray.size_append];omega
 | p::q::l,k+2=>by
  have:=b09 sep (q::l) (k+1);rw[List.take_succ_cons] at this;rw[List.take_succ_cons,List.take_succ_cons,L5,L5,ByteArray.size_append,ByteArray.size_append,ByteArray.size_append,ByteArray.size_append];omega
section
variable {op n:Int} {nm ar A B:ByteArray} {has:Bool} {x5 x6 x7 x8:D} {K:List (List D)} {b c:Nat->D}
theorem c2f {l r:Int} (hn:rkM 40 nm=l) (hr:r=if l=0 then 1 else l) (k0:K[0]?=some (tC b)) (k1:K[1]?=some (tC c)) (h0:j5 17 [.ag (tC b),.one (.sc (.int .i64 r))] [.one (.sc (.string A))]) (h1:j5 17 [.ag (tC c),.one (.sc (.int .i64 (l+1)))] [.one (.sc (.string B))]) (z0:Fz A) (z1:Fz B) (zn:Fz nm) :
  j5 8 [.ag (nC 40 nm ar n has x5 x6 x7 x8 K)] [.one (.sc (.string (A++⟨⟨[32]⟩⟩++nm++⟨⟨[32]⟩⟩++B)))]:=by
 unfold Fz at *;have h2:=b5V (op:=40) (nm:=nm) (d2:=.sc (.string ar)) (d3:=.sc (.int .i64 n)) (d4:=.sc (.bool has)) (d5:=x5) (d6:=x6) (d7:=x7) (d8:=x8) (d9:=.sl 10 K) (.inl rfl)
 have hl:l=0\/l=1\/l=2:=by
  rw[<-hn];unfold rkM;rw[if_neg (by decide),if_pos rfl]
  split
  ·exact .inl rfl
  ·split
   ·exact .inr (.inl rfl)
   ·exact .inr (.inr rfl)
 rw[hn] at h2;clear hn;obtain⟨R,hR⟩:∃R:ByteArray,R=A++⟨⟨[32]⟩⟩++nm++⟨⟨[32]⟩⟩++B:=⟨_,rfl⟩;rw[<-hR];obtain⟨z,hz⟩:∃z,z=l+1:=⟨_,rfl⟩;rw[<-hz] at h1
 rcases hl with rfl|rfl|rfl
 ·have hr:r=1:=hr;subst hr;refine C2 Tryz.func8 rfl λqa qb qc qd qe qf qg qh qi qj qk ql qm qo qp qq qt qu qv qw qx qy qz va vc vd ve vf vg vh vj vk vl vm vn vo vp vq vr vt vu vv vw hA=>?_
  have s4:=(o8 hA).2.2.2.1;obtain⟨e1,e2,e3,e4,e5,e6,e7,e8,e9⟩:=l7 hA;have g0:=gk0 hA k0;have g1:=gk1 hA k1;have q1:=λa b=>e9 a b
  have q2:qh 1 0=false:=e7 _ _;have q3:qa .i64 (qb 0 1)=z:=by rw[e1,e2,hz];rfl
  iterate 2 (try cbv;repeat ((first|with_reducible apply j2 hA|rw[g0]|rw[g1]|rw[q1]|rw[q2]|rw[q3]|refine j3 hA _ h0 rfl ?_|refine j4 hA _ h0 ?_|refine j3 hA _ h1 rfl ?_|refine j4 hA _ h1 ?_|refine j3 hA _ h2 rfl ?_|refine j4 hA _ h2 ?_|(refine n9 hA (by simp only[s4,ByteArray.size_append,U0,List.length_cons,List.length_nil];omega) ?_));cbv))
  try simp (maxSteps:=4000000) only [nc] at *
  exact a2g (by rw[hR];simp only[s4])
 ·have hr:r=1:=hr;subst hr;refine C2 Tryz.func8 rfl λqa qb qc qd qe qf qg qh qi qj qk ql qm qo qp qq qt qu qv qw qx qy qz va vc vd ve vf vg vh vj vk vl vm vn vo vp vq vr vt vu vv vw hA=>?_
  have s4:=(o8 hA).2.2.2.1;obtain⟨e1,e2,e3,e4,e5,e6,e7,e8,e9⟩:=l7 hA;have g0:=gk0 hA k0;have g1:=gk1 hA k1;have q1:=λa b=>e9 a b
  have q2:qh 1 1=false:=e7 _ _;have q3:qa .i64 (qb 1 1)=z:=by rw[e1,e2,hz];rfl
  iterate 2 (try cbv;repeat ((first|with_reducible apply j2 hA|rw[g0]|rw[g1]|rw[q1]|rw[q2]|rw[q3]|refine j3 hA _ h0 rfl ?_|refine j4 hA _ h0 ?_|refine j3 hA _ h1 rfl ?_|refine j4 hA _ h1 ?_|refine j3 hA _ h2 rfl ?_|refine j4 hA _ h2 ?_|(refine n9 hA (by simp only[s4,ByteArray.size_append,U0,List.length_cons,List.length_nil];omega) ?_));cbv))
  try simp (maxSteps:=4000000) only [nc] at *
  exact a2g (by rw[hR];simp only[s4])
 ·have hr:r=2:=hr;subst hr;refine C2 Tryz.func8 rfl λqa qb qc qd qe qf qg qh qi qj qk ql qm qo qp qq qt qu qv qw qx qy qz va vc vd ve vf vg vh vj vk vl vm vn vo vp vq vr vt vu vv vw hA=>?_
  have s4:=(o8 hA).2.2.2.1;obtain⟨e1,e2,e3,e4,e5,e6,e7,e8,e9⟩:=l7 hA;have g0:=gk0 hA k0;have g1:=gk1 hA k1;have q1:=λa b=>e9 a b
  have q2:qh 1 2=true:=e7 _ _;have q3:qa .i64 (qb 2 1)=z:=by rw[e1,e2,hz];rfl
  iterate 2 (try cbv;repeat ((first|with_reducible apply j2 hA|rw[g0]|rw[g1]|rw[q1]|rw[q2]|rw[q3]|refine j3 hA _ h0 rfl ?_|refine j4 hA _ h0 ?_|refine j3 hA _ h1 rfl ?_|refine j4 hA _ h1 ?_|refine j3 hA _ h2 rfl ?_|refine j4 hA _ h2 ?_|(refine n9 hA (by simp only[s4,ByteArray.size_append,U0,List.length_cons,List.length_nil];omega) ?_));cbv))
  try simp (maxSteps:=4000000) only [nc] at *
  exact a2g (by rw[hR];simp only[s4])
theorem c2g {X:ByteArray} {k0:Tm} {ks:List Tm} {an:Ty} {ps:List ByteArray} (hX:Fz X/\j5 8 [.ag (cM k0)] [.one (.sc (.string X))]) (hpl:ps.length=ks.length) (hpa:∀(i:Nat) (k:Tm) (s:ByteArray),ks[i]?=some k->ps[i]?=some s->Fz s/\j5 8 [.ag (cM k)] [.one (.sc (.string s))]) (hlen:ks.length<=1048575) (hj:Fz (E8 ps ⟨⟨[59,32]⟩⟩)) :
  j5 8 [.ag (cM (.mk 48 nm ar n has an (k0::ks)))] [.one (.sc (.string (b07 X ps)))]:=by
 unfold Fz at hj;obtain⟨R,hR⟩:∃R,R=b07 X ps:=⟨_,rfl⟩;rw[<-hR];unfold b07 at hR;obtain⟨hXz,hXs⟩:=hX;unfold Fz at hXz;obtain⟨d0,d1,d2,d3,d4,d5,d6,d7,d8,d9,hd⟩:=W9 k0;rw[hd] at hXs;obtain⟨y0,y1,y2,y3,hy⟩:=l6 an;rw[cM,hy];obtain⟨K,hK⟩:∃K,K=rM (k0::ks):=⟨_,rfl⟩;rw[<-hK];have hKl:K.length=ks.length+1:=by rw[hK,a2i,List.length_cons]
 have hK0:K[0]?=some [d0,d1,d2,d3,d4,d5,d6,d7,d8,d9]:=by rw[hK,B4 (t:=k0) rfl,hd]
 obtain⟨C0,hC0⟩:∃C:ByteArray,C=⟨⟨[99,97,115,101,32]⟩⟩++X++⟨⟨[32,111,102,32]⟩⟩:=⟨_,rfl⟩;rw[<-hC0] at hR;have hCz:C0.size<=1099511627800:=by rw[hC0];simp only[ByteArray.size_append,U0,List.length_cons,List.length_nil];omega
 obtain⟨inv,hv⟩:∃inv:Int×ByteArray->Prop,inv=λx=>∃k:Nat,x.1=((k+1:Nat):Int)/\k<=ks.length/\x.2=C0++E8 (ps.take k) ⟨⟨[59,32]⟩⟩:=⟨_,rfl⟩
 have hi0:inv (1,C0):=by
  rw[hv];refine⟨0,rfl,Nat.zero_le _,?_⟩;rw[List.take_zero,a1f];exact ByteArray.append_empty.symm
 have hjt:=λk=>b09 ⟨⟨[59,32]⟩⟩ ps k
 refine C2 Tryz.func8 rfl ?_;intro qa qb _ _ _ _ _ qh _ _ _ _ _ _ qp _ _ _ _ _ _ _ qz va;intros;rename_i hA;obtain⟨e1,e2,e3,e4,e5,e6,e7,e8,e9⟩:=l7 hA;obtain⟨r1,r2,r3,r4⟩:=n8 hA;obtain⟨s1,s2,s3,s4,s5,s6,s7⟩:=o8 hA;have g0:=gk0 hA hK0;have q1:=λa b=>e9 a b
 have q2:qp (qp ⟨⟨[99,97,115,101,32]⟩⟩ X) ⟨⟨[32,111,102,32]⟩⟩=C0:=by rw[s4,s4,hC0]
 iterate 2 (try cbv;repeat ((first|with_reducible apply j2 hA|rw[g0]|rw[q1]|rw[q2]|refine j3 hA _ hXs rfl ?_|refine j4 hA _ hXs ?_|(refine n9 hA (by simp only[s4,ByteArray.size_append,U0,List.length_cons,List.length_nil];omega) ?_));cbv))
 try simp (maxSteps:=4000000) only [nc] at *
 refine o5 hA (γ:=Int×ByteArray) (λx=>[(4,vi .i64 x.1),(3,vs x.2)]) (λx=>[]) inv (λx=>ks.length+1 - x.1.toNat) (1,C0) hi0 ?_ ?_
 ·cbv
 ·intro x hinv;obtain⟨z,S⟩:=x;cbv;refine gn ?_;rw[hv] at hinv;obtain⟨k,hz,hk,hS⟩:=hinv;replace hz:z=((k+1:Nat):Int):=hz;replace hS:S=C0++E8 (ps.take k) ⟨⟨[59,32]⟩⟩:=hS;have hSz:S.size<=2199023255600:=by rw[hS,ByteArray.size_append];have:=hjt k;omega
  have hlt:qh z (qz K)=decide (k<ks.length):=by rw[e7,r1,hKl,hz];exact decide_eq_decide.2 (Int.ofNat_lt.trans Nat.add_lt_add_iff_right)
  by_cases h9:k<ks.length
  ·rw[decide_eq_true h9] at hlt;obtain⟨x,hx⟩:∃x,ks[k]?=some x:=⟨_,List.getElem?_eq_getElem h9⟩;obtain⟨s,hs⟩:∃s,ps[k]?=some s:=⟨_,List.getElem?_eq_getElem (by rw[hpl];exact h9)⟩;obtain⟨hsz,hsp⟩:=hpa k x s hx hs;have hxk:(k0::ks)[k+1]?=some x:=hx;obtain⟨w0,w1,w2,w3,w4,w5,w6,w7,w8,w9,hw⟩:=W9 x;have gx:va K z=some [w0,w1,w2,w3,w4,w5,w6,w7,w8,w9]:=by rw[r2,hz,if_pos (by omega),show (((k+1:Nat):Int)).toNat=k+1 by omega,hK,B4 hxk,hw]
   rw[hw] at hsp;have hz1:qa .i64 (qb z 1)=((k+1+1:Nat):Int):=by rw[e1,e2,hz,IntWalk.i64_in _ (by clear hSz hCz hXz;omega)];omega
   have hm:ks.length+1 - (qa .i64 (qb z 1)).toNat<ks.length+1 - z.toNat:=by rw[hz1,hz];omega
   have hjk:=b1R ⟨⟨[59,32]⟩⟩ s hs;clear hpa hK hK0 hR hKl
   by_cases hk0:k=0
   ·rw[if_pos hk0] at hjk;have q3:qh 1 z=false:=by rw[e7,hz,hk0];rfl
    have hi:inv (qa .i64 (qb z 1),qp S s):=by
     rw[hv];refine⟨k+1,hz1,h9,?_⟩;show qp S s=_;rw[s4,hjk,hS,hk0,List.take_zero,a1f,show C0++(⟨⟨[]⟩⟩:ByteArray)=C0 from ByteArray.append_empty]
    rw[hlt]
    iterate 2 (try cbv;repeat ((first|with_reducible apply j2 hA|rw[gx]|rw[q3]|refine j3 hA _ hsp rfl ?_|refine j4 hA _ hsp ?_|refine n9 hA (by omega) ?_);cbv))
    try simp (maxSteps:=4000000) only [nc] at *
    refine⟨(qa .i64 (qb z 1),qp S s),hi,hm,?_⟩;cbv
   ·rw[if_neg hk0] at hjk;have q3:qh 1 z=true:=by rw[e7,hz];exact decide_eq_true (by omega)
    have hi:inv (qa .i64 (qb z 1),qp (qp S ⟨⟨[59,32]⟩⟩) s):=by
     rw[hv];refine⟨k+1,hz1,h9,?_⟩;show qp (qp S _) s=_;rw[s4,s4,hjk,hS];simp only[ByteArray.append_assoc]
    rw[hlt]
    iterate 2 (try cbv;repeat ((first|with_reducible apply j2 hA|rw[gx]|rw[q3]|refine j3 hA _ hsp rfl ?_|refine j4 hA _ hsp ?_|(refine n9 hA (by simp only[s4,ByteArray.size_append,U0,List.length_cons,List.length_nil];omega) ?_));cbv))
    try simp (maxSteps:=4000000) only [nc] at *
    refine⟨(qa .i64 (qb z 1),qp (qp S ⟨⟨[59,32]⟩⟩) s),hi,hm,?_⟩;cbv
  ·rw[decide_eq_false h9] at hlt;rw[List.take_of_length_le (by omega)] at hS;have hll:qz K=((ks.length+1:Nat):Int):=by rw[r1,hKl]
   rw[hlt];clear hpa hK hK0
   by_cases hp0:ps=[]
   ·rw[if_pos hp0] at hR;have q3:qh 1 (qz K)=false:=by rw[hll,e7];exact decide_eq_false (by rw[hp0,List.length_nil] at hpl;omega)
    have hSC:S=C0:=by rw[hS,hp0,a1f];exact ByteArray.append_empty
    iterate 2 (try cbv;repeat ((first|with_reducible apply j2 hA|rw[q3]|(refine n9 hA (by simp only[s4,ByteArray.size_append,U0,List.length_cons,List.length_nil];omega) ?_));cbv))
    try simp (maxSteps:=4000000) only [nc] at *
    exact a2g (by rw[hR,hSC];simp only[s4])
   ·rw[if_neg hp0] at hR;have q3:qh 1 (qz K)=true:=by rw[hll,e7];exact decide_eq_true (by have:=List.length_pos_iff.2 hp0;omega)
    iterate 2 (try cbv;repeat ((first|with_reducible apply j2 hA|rw[q3]|(refine n9 hA (by simp only[s4,ByteArray.size_append,U0,List.length_cons,List.length_nil];omega) ?_));cbv))
    try simp (maxSteps:=4000000) only [nc] at *
    exact a2g (by rw[hR,hS];simp only[s4,ByteArray.append_assoc])
end
end
end Go.Proofs.YtncijebklnbhlaaGreatDoor.Vm
end

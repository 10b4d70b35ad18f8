/- Part 28 of the proof. Conditions: none. -/
import Derived.Test.YtncijebklnbhlaaGreatDoorQ22
import Derived.Test.YtncijebklnbhlaaGreatDoorQ27
set_option linter.all false
set_option linter.unusedVariables false
set_option linter.unusedSimpArgs false
section
namespace Go.Proofs.YtncijebklnbhlaaGreatDoor.Vm
open Go.RowKit
set_option maxRecDepth 100000
set_option maxHeartbeats 4000000
theorem b6u:∀ {l:List Tm} {x:Tm},x∈l->(anM x).parts.length<=pnL l
 | y::l,x,h=>by
  rw[show y::l=[y]++l from rfl,a9k,show pnL [y]=(anM y).parts.length by simp[pnL]]
  rcases List.mem_cons.1 h with rfl|h
  ·omega
  ·have:=b6u h;omega
theorem c1k {n:Int} (h:(Lit.int .u8 n).wf=true):0<=n/\n<=255:=by
 simp only[Lit.wf,IntKind.min,IntKind.max,IntKind.signed,IntKind.bits,Bool.and_eq_true,decide_eq_true_eq] at h
 simpa using h
theorem c28 (t:Tm) (hN:(l4 t).length+pnL (l4 t)<=1048576) (hW:∀x∈l4 t,TmW 1048576 x):j5 3 [.ag (cM t)] [.one (.sc (.bool true))]:=by
 have hS:∀x∈l4 t,(SmT x/\OpR x)/\WfT x:=λx hx=>by
  have h1:=hW x hx;have h2:=b6u hx;obtain⟨op,nm,ar,n,b,a,ks⟩:=x;obtain⟨w0,w1,w2,w3,w4,w5⟩:=h1;have h2:a.parts.length<=pnL (l4 t):=h2;exact⟨⟨⟨⟨by omega,w5⟩,w3,w4⟩,c1k w0⟩,w2,b06 w1⟩
 have hal:=b6m;have hm:=b9R t (by omega) (by omega);have hR:=b3Y t (by omega) (λx hx=>(hS x hx).1) false;cases hb:(decide (300<(l4 t).length) || decide (900<pnL (l4 t))) with
 | true =>
  rw[hb] at hm;obtain⟨d0,d1,d2,d3,d4,d5,d6,d7,d8,d9,hd⟩:=W9 t;rw[hd] at hm ⊢;refine C2 Tryz.func3 rfl λqa qb qc qd qe qf qg qh qi qj qk ql qm qo qp qq qt qu qv qw qx qy qz va vc vd ve vf vg vh vj vk vl vm vn vo vp vq vr vt vu vv vw hA=>?_
  iterate 2 (try cbv;repeat ((first|with_reducible apply j2 hA|refine j3 hA _ hal rfl ?_|refine j4 hA _ hal ?_|refine j3 hA _ hm rfl ?_|refine j4 hA _ hm ?_);cbv))
 | false =>
  rw[hb] at hm;rw[Bool.or_eq_false_iff] at hb;have h300:¬300<(l4 t).length:=of_decide_eq_false hb.1;cases hr:rtM GA false t with
  | false =>
   have hP:=c1e t (by omega) (λx hx=>(hS x hx).1.1) hr;rw[hr] at hR;obtain⟨d0,d1,d2,d3,d4,d5,d6,d7,d8,d9,hd⟩:=W9 t;rw[hd] at hm hR hP ⊢;refine C2 Tryz.func3 rfl λqa qb qc qd qe qf qg qh qi qj qk ql qm qo qp qq qt qu qv qw qx qy qz va vc vd ve vf vg vh vj vk vl vm vn vo vp vq vr vt vu vv vw hA=>?_
   obtain⟨e1,e2,e3,e4,e5,e6,e7,e8,e9⟩:=l7 hA;have q1:qj (qa .i64 15) 15=true:=by rw[e9,e1];rfl
   have q2:=esr (x:=⟨⟨[]⟩⟩) hA
   iterate 2 (try cbv;repeat ((first|with_reducible apply j2 hA|rw[q1]|rw[q2]|refine j3 hA _ hal rfl ?_|refine j4 hA _ hal ?_|refine j3 hA _ hm rfl ?_|refine j4 hA _ hm ?_|refine j3 hA _ hP rfl ?_|refine j4 hA _ hP ?_|refine j3 hA _ hR rfl ?_|refine j4 hA _ hR ?_);cbv))
  | true =>
   have hpt:=b9K t (by show (l4 t).length<=4096;omega) (λx hx=>⟨(hS x hx).1.1,(hS x hx).2⟩) false hr;obtain⟨s,-,hQ,hT,-,-⟩:=hpt
   have hop:opM t≠49/\opM t≠50:=by
    obtain⟨op,nm,ar,n,b,a,ks⟩:=t;obtain⟨⟨x,y,c,v⟩,hq⟩:=b6g hr;obtain⟨a1,-⟩:=G7 hq hr
    constructor
    ·intro e;have e:op=49:=e;rw[e] at a1;cases a1
    ·intro e;have e:op=50:=e;rw[e] at a1;cases a1
   have hP:=c1f t s (by omega) (λx hx=>(hS x hx).1.1) hr (hT hop.1 hop.2);rw[hr] at hR;obtain⟨d0,d1,d2,d3,d4,d5,d6,d7,d8,d9,hd⟩:=W9 t;rw[hd] at hm hR hP hQ ⊢;refine C2 Tryz.func3 rfl λqa qb qc qd qe qf qg qh qi qj qk ql qm qo qp qq qt qu qv qw qx qy qz va vc vd ve vf vg vh vj vk vl vm vn vo vp vq vr vt vu vv vw hA=>?_
   obtain⟨e1,e2,e3,e4,e5,e6,e7,e8,e9⟩:=l7 hA;have q1:qj (qa .i64 0) 0=true:=by rw[e9,e1];rfl
   have q2:=esr (x:=s) hA
   iterate 2 (try cbv;repeat ((first|with_reducible apply j2 hA|rw[q1]|rw[q2]|refine j3 hA _ hal rfl ?_|refine j4 hA _ hal ?_|refine j3 hA _ hm rfl ?_|refine j4 hA _ hm ?_|refine j3 hA _ hP rfl ?_|refine j4 hA _ hP ?_|refine j3 hA _ hR rfl ?_|refine j4 hA _ hR ?_|refine j3 hA _ hQ rfl ?_|refine j4 hA _ hQ ?_);cbv))
set_option maxRecDepth 100000 in
theorem PP_up {r0:R} {m0:Nat} (d0:a0C Tryz.prog 28 r0 m0) (hm:m0<=1048576):j5 3 [r0] [.one (.sc (.bool true))]:=by
 obtain⟨t,rfl,h1,h2⟩:=b7O d0;exact c28 t (by omega) λx hx=>(h2 x hx).up hm
end Go.Proofs.YtncijebklnbhlaaGreatDoor.Vm
end

/- Part 14 of the proof. Conditions: none. -/
import Derived.Test.YtncijebklnbhlaaGreatDoorQ13
set_option linter.all false
set_option linter.unusedVariables false
set_option linter.unusedSimpArgs false
section
namespace Go.Proofs.YtncijebklnbhlaaGreatDoor.Vm
open Go.RowKit
set_option maxRecDepth 100000
set_option maxHeartbeats 4000000
section
abbrev nC (op:Int) (nm ar:ByteArray) (n:Int) (has:Bool) (x5 x6 x7 x8:D) (K:List (List D)):List D:=[.sc (.int .u8 op),.sc (.string nm),.sc (.string ar),.sc (.int .i64 n),.sc (.bool has),x5,x6,x7,x8,.sl 10 K]
abbrev tC (d:Nat->D):List D:=[d 0,d 1,d 2,d 3,d 4,d 5,d 6,d 7,d 8,d 9]
section
variable {qa:_} {qb:_} {qc:_} {qd:_} {qe:_} {qf:_} {qg:_} {qh:_} {qi:_} {qj:_} {qk:_} {ql:_} {qm:_} {qo:_} {qp:_} {qq:_} {qt:_} {qu:_} {qv:_} {qw:_} {qx:_} {qy:_} {qz:_} {va:_} {vc:_} {vd:_} {ve:_} {vf:_} {vg:_} {vh:_} {vj:_} {vk:_} {vl:_} {vm:_} {vn:_} {vo:_} {vp:_} {vq:_} {vr:_} {vt:_} {vu:_} {vv:_} {vw:_} (hA:Ar.mk qa qb qc qd qe qf qg qh qi qj qk ql qm qo qp qq qt qu qv qw qx qy qz va vc vd ve vf vg vh vj vk vl vm vn vo vp vq vr vt vu vv vw=j1)
include hA
theorem gk0 {K:List (List D)} {r:List D} (h:K[0]?=some r):va K 0=some r:=by rw[(n8 hA).2.1];exact h
theorem gk1 {K:List (List D)} {r:List D} (h:K[1]?=some r):va K 1=some r:=by rw[(n8 hA).2.1];exact h
theorem gk2 {K:List (List D)} {r:List D} (h:K[2]?=some r):va K 2=some r:=by rw[(n8 hA).2.1];exact h
end
theorem wt {f:Nat} {fn:Func} {c:Code} {rs:List R} {R0:ByteArray} (hf:Tryz.prog.funcs[f]?=some fn) (hb:fn.body=some c) (hn:(fn.name != "runtime.NumGoroutine")=true:=by kernel_rfl) (hc:y6 Tryz.prog c=true:=by kernel_rfl) (hr:Q8 fn.results.toList=true:=by kernel_rfl)
  (h:∀R:ByteArray,R=R0->∀qa qb qc qd qe qf qg qh qi qj qk ql qm qo qp qq qt qu qv qw qx qy qz va vc vd ve vf vg vh vj vk vl vm vn vo vp vq vr vt vu vv vw,Ar.mk qa qb qc qd qe qf qg qh qi qj qk ql qm qo qp qq qt qu qv qw qx qy qz va vc vd ve vf vg vh vj vk vl vm vn vo vp vq vr vt vu vv vw=j1->B7 (Ar.mk qa qb qc qd qe qf qg qh qi qj qk ql qm qo qp qq qt qu qv qw qx qy qz va vc vd ve vf vg vh vj vk vl vm vn vo vp vq vr vt vu vv vw) c (a2N rs (fn.ntmps - G5 rs)) (λx s=>b6S (Ar.mk qa qb qc qd qe qf qg qh qi qj qk ql qm qo qp qq qt qu qv qw qx qy qz va vc vd ve vf vg vh vj vk vl vm vn vo vp vq vr vt vu vv vw) fn.results.toList [.one (.sc (.string R))] x s):=by
   try unfold Fz at *
   intro R hR qa qb qc qd qe qf qg qh qi qj qk ql qm qo qp qq qt qu qv qw qx qy qz va vc vd ve vf vg vh vj vk vl vm vn vo vp vq vr vt vu vv vw hA;have s4:=(o8 hA).2.2.2.1;have q0:=(l7 hA).2.2.2.2.2.2.2.2
   iterate 2 (try cbv;repeat ((first|with_reducible apply j2 hA|rw[gk0 hA k0]|rw[gk1 hA k1]|rw[gk2 hA k2]|rw[q1]|rw[q0]|refine j3 hA _ h0 rfl ?_|refine j4 hA _ h0 ?_|refine j3 hA _ h1 rfl ?_|refine j4 hA _ h1 ?_|refine j3 hA _ h2 rfl ?_|refine j4 hA _ h2 ?_|refine j3 hA _ h3 rfl ?_|refine j4 hA _ h3 ?_|refine n9 hA (by simp only[s4,ByteArray.size_append,U0,List.length_cons,List.length_nil];omega) ?_);cbv))
   try simp (maxSteps:=4000000) only [nc] at *
   exact a2g (by rw[hR];try simp only[s4])):j5 f rs [.one (.sc (.string R0))]:=a5q hf hb hn hc hr (h R0 rfl)
section
variable {nm ar X Y Z A B P S T:ByteArray} {op n:Int} {has:Bool} {x5 x6 x7 x8:D} {K:List (List D)} {b c e:Nat->D}
theorem b96  : j5 12 [.ag (nC 32 nm ar n has x5 x6 x7 x8 K)] [.one (.sc (.string nm))]:=wt Tryz.func12 rfl
theorem b97 (h0:j5 22 [.one (.sc (.int .i64 n)),.one (.sc (.int .i64 10))] [.one (.sc (.string S))]):j5 12 [.ag (nC 33 nm ar n has x5 x6 x7 x8 K)] [.one (.sc (.string S))]:=wt Tryz.func12 rfl
theorem c0X (h0:j5 23 [.one (.sc (.bool (n == 1)))] [.one (.sc (.string S))]):j5 12 [.ag (nC 34 nm ar n has x5 x6 x7 x8 K)] [.one (.sc (.string S))]:=by
 obtain⟨v,hv⟩:∃v,v=(n == 1):=⟨_,rfl⟩;rw[<-hv] at h0;refine C2 Tryz.func12 rfl ?_;intro _ _ _ _ _ _ _ _ _ qj;intros;rename_i hA;have q0:=(l7 hA).2.2.2.2.2.2.2.2;have q1:qj n 1=v:=by rw[q0,hv]
 iterate 2 (try cbv;repeat ((first|with_reducible apply j2 hA|rw[q1]|rw[q0]|refine j3 hA _ h0 rfl ?_|refine j4 hA _ h0 ?_);cbv))
theorem c1B (h0:j5 24 [.ag (nC 35 nm ar n has x5 x6 x7 x8 K)] [.one (.sc (.string P))]) (z0:Fz P) (h1:j5 25 [.ag (nC 35 nm ar n has x5 x6 x7 x8 K)] [.one (.sc (.string B))]) (z1:Fz B):j5 12 [.ag (nC 35 nm ar n has x5 x6 x7 x8 K)] [.one (.sc (.string (⟨⟨[102,117,110,32]⟩⟩++P++B)))]:=wt Tryz.func12 rfl
theorem c1C (h0:j5 24 [.ag (nC 36 nm ar n has x5 x6 x7 x8 K)] [.one (.sc (.string P))]) (z0:Fz P) (h1:j5 25 [.ag (nC 36 nm ar n has x5 x6 x7 x8 K)] [.one (.sc (.string B))]) (z1:Fz B) (zn:Fz nm):j5 12 [.ag (nC 36 nm ar n has x5 x6 x7 x8 K)] [.one (.sc (.string (⟨⟨[114,101,99,32]⟩⟩++nm++⟨⟨[32]⟩⟩++P++B)))]:=wt Tryz.func12 rfl
theorem c1D (k0:K[0]?=some (tC b)) (k1:K[1]?=some (tC c)) (h0:j5 12 [.ag (tC b)] [.one (.sc (.string X))]) (z0:Fz X) (h1:j5 12 [.ag (tC c)] [.one (.sc (.string Y))]) (z1:Fz Y) (zn:Fz nm):j5 12 [.ag (nC 38 nm ar n has x5 x6 x7 x8 K)] [.one (.sc (.string (⟨⟨[108,101,116,32]⟩⟩++nm++⟨⟨[32,61,32]⟩⟩++X++⟨⟨[32,105,110,32]⟩⟩++Y)))]:=wt Tryz.func12 rfl
theorem c1E (k0:K[0]?=some (tC b)) (k1:K[1]?=some (tC c)) (k2:K[2]?=some (tC e)) (h0:j5 12 [.ag (tC b)] [.one (.sc (.string X))]) (z0:Fz X) (h1:j5 12 [.ag (tC c)] [.one (.sc (.string Y))]) (z1:Fz Y) (h2:j5 12 [.ag (tC e)] [.one (.sc (.string Z))]) (z2:Fz Z):j5 12 [.ag (nC 39 nm ar n has x5 x6 x7 x8 K)] [.one (.sc (.string (⟨⟨[105,102,32]⟩⟩++X++⟨⟨[32,116,104,101,110,32]⟩⟩++Y++⟨⟨[32,101,108,115,101,32]⟩⟩++Z)))]:=wt Tryz.func12 rfl
theorem b98 (h0:j5 26 [.ag (nC 40 nm ar n has x5 x6 x7 x8 K)] [.one (.sc (.string S))]) (z0:Fz S):j5 12 [.ag (nC 40 nm ar n has x5 x6 x7 x8 K)] [.one (.sc (.string S))]:=wt Tryz.func12 rfl
theorem c0Y (k0:K[0]?=some (tC b)) (k1:K[1]?=some (tC c)) (h0:j5 27 [.ag (tC b),.one (.sc (.int .i64 3))] [.one (.sc (.string A))]) (z0:Fz A) (h1:j5 27 [.ag (tC c),.one (.sc (.int .i64 4))] [.one (.sc (.string B))]) (z1:Fz B):j5 12 [.ag (nC 37 nm ar n has x5 x6 x7 x8 K)] [.one (.sc (.string (A++⟨⟨[32]⟩⟩++B)))]:=wt Tryz.func12 rfl
theorem c1F (k0:K[0]?=some (tC b)) (h0:j5 27 [.ag (tC b),.one (.sc (.int .i64 4))] [.one (.sc (.string A))]) (z0:Fz A) (zn:Fz nm):j5 28 [.ag (nC 46 nm ar n has x5 x6 x7 x8 K)] [.one (.sc (.string (⟨⟨[64]⟩⟩++nm++⟨⟨[32]⟩⟩++A)))]:=wt Tryz.func28 rfl
theorem c1G (k0:K[0]?=some (tC b)) (h0:j5 27 [.ag (tC b),.one (.sc (.int .i64 4))] [.one (.sc (.string A))]) (z0:Fz A) (zn:Fz nm):j5 28 [.ag (nC 47 nm ar n has x5 x6 x7 x8 K)] [.one (.sc (.string (⟨⟨[94]⟩⟩++nm++⟨⟨[32]⟩⟩++A)))]:=wt Tryz.func28 rfl
theorem c1H (k0:K[0]?=some (tC b)) (h0:j5 27 [.ag (tC b),.one (.sc (.int .i64 5))] [.one (.sc (.string A))]) (z0:Fz A) (zn:Fz nm):j5 28 [.ag (nC 43 nm ar n has x5 x6 x7 x8 K)] [.one (.sc (.string (A++⟨⟨[46]⟩⟩++nm)))]:=wt Tryz.func28 rfl
theorem c1I (k0:K[0]?=some (tC b)) (h0:j5 27 [.ag (tC b),.one (.sc (.int .i64 5))] [.one (.sc (.string A))]) (z0:Fz A) (zn:Fz nm):j5 28 [.ag (nC 44 nm ar n has x5 x6 x7 x8 K)] [.one (.sc (.string (A++⟨⟨[92]⟩⟩++nm)))]:=wt Tryz.func28 rfl
theorem c1J (h0:j5 46 [.ag (nC 42 nm ar n has x5 x6 x7 x8 K)] [.one (.sc (.string S))]) (z0:Fz S):j5 28 [.ag (nC 42 nm ar n has x5 x6 x7 x8 K)] [.one (.sc (.string (⟨⟨[123]⟩⟩++S++⟨⟨[125]⟩⟩)))]:=wt Tryz.func28 rfl
theorem c1K (k0:K[0]?=some (tC b)) (k1:K[1]?=some (tC c)) (h0:j5 12 [.ag (tC b)] [.one (.sc (.string X))]) (z0:Fz X) (h1:j5 12 [.ag (tC c)] [.one (.sc (.string Y))]) (z1:Fz Y) (zn:Fz nm):j5 28 [.ag (nC 45 nm ar n has x5 x6 x7 x8 K)] [.one (.sc (.string (⟨⟨[123]⟩⟩++nm++⟨⟨[32,58,61,32]⟩⟩++X++⟨⟨[32,124,32]⟩⟩++Y++⟨⟨[125]⟩⟩)))]:=wt Tryz.func28 rfl
theorem c1L (h0:j5 47 [.ag (nC 48 nm ar n has x5 x6 x7 x8 K)] [.one (.sc (.string S))]) (z0:Fz S):j5 28 [.ag (nC 48 nm ar n has x5 x6 x7 x8 K)] [.one (.sc (.string S))]:=wt Tryz.func28 rfl
theorem c1M (k0:K[0]?=some (tC b)) (h0:j5 12 [.ag (tC b)] [.one (.sc (.string X))]) (z0:Fz X) (h1:j5 44 [.ag [x5,x6,x7,x8]] [.one (.sc (.string T))]) (z1:Fz T):j5 28 [.ag (nC 51 nm ar n has x5 x6 x7 x8 K)] [.one (.sc (.string (⟨⟨[40]⟩⟩++X++⟨⟨[32,58,32]⟩⟩++T++⟨⟨[41]⟩⟩)))]:=wt Tryz.func28 rfl
theorem c1N  : j5 28 [.ag (nC 41 nm ar n has x5 x6 x7 x8 K)] [.one (.sc (.string ⟨⟨[123,125]⟩⟩))]:=wt Tryz.func28 rfl
theorem ptl (hop:op=41\/op=42\/op=43\/op=44\/op=45\/op=46\/op=47\/op=48\/op=51) (h0:j5 28 [.ag (nC op nm ar n has x5 x6 x7 x8 K)] [.one (.sc (.string S))]):j5 12 [.ag (nC op nm ar n has x5 x6 x7 x8 K)] [.one (.sc (.string S))]:=by
 rcases hop with rfl|rfl|rfl|rfl|rfl|rfl|rfl|rfl|rfl <;> exact wt Tryz.func12 rfl
end
end
end Go.Proofs.YtncijebklnbhlaaGreatDoor.Vm
end

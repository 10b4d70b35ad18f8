/- Part 12 of the proof. Conditions: none. -/
import Derived.Test.YtahpnackkmbmgaaF4
import Derived.Test.YtahpnackkmbmgaaF10
import Derived.Test.YtahpnackkmbmgaaF11
import Derived.Test.YtahpnackkmbmgaaF0
set_option linter.all false
set_option linter.unusedVariables false
set_option linter.unusedSimpArgs false
section
namespace Go.Proofs.Ytahpnackkmbmgaa.Vm
open Go.RowKit
set_option maxRecDepth 100000
set_option maxHeartbeats 4000000
def I8 (t:Ty) (s:Int):Bool:=F6 B2 t s && a63 t
def ik (n:Int):R:=.one (.sc (.int .i64 n))
def a5t (es:List (R×R)):Prop:=∀p∈es,∃m,p.1=ik m
theorem b1l (m n:Int):rEq (ik m) (ik n)=(m == n):=a4O m n
theorem b0g (n x:Int) (q:R):∀(es:List (R×R)),a5t es→a3O (a2N es (ik n) q) (ik x)=if x=n then some q else a3O es (ik x)
 | [],_=>by
  rw [a2N]
  show (match rEq (ik n) (ik x) with|true=>some q|false=>a3O [] (ik x))=_
  rw [b1l]
  by_cases h:x=n
  ·subst h;simp
  ·rw [c8W h,c94.2 (fun e=>h e.symm)]
 | (k,v)::es,h=>by
  obtain ⟨m,hm⟩:=h _ (c8V ..)
  simp only at hm
  subst hm
  have ih:=b0g n x q es fun p hp=>h p (c8X _ hp)
  rw [a2N,b1l]
  by_cases hmn:m=n
  ·subst hmn
   simp only [c9T]
   rw [a3O,a3O,b1l]
   by_cases h:x=m
   ·subst h;simp
   ·rw [c8W h,c94.2 (fun e=>h e.symm)]
  ·rw [c94.2 hmn]
   simp only
   rw [a3O,a3O,b1l,ih]
   by_cases h:m=x
   ·subst h;simp [hmn]
   ·rw [c94.2 h]
theorem b2M {es:List (R×R)} (h:a5t es) (n:Int) (q:R):a5t (a2N es (ik n) q):=by
 induction es with
 | nil=>intro p hp;rw [a2N] at hp;simp at hp;subst hp;exact ⟨n,rfl⟩
 | cons e es ih =>
  obtain ⟨k,v⟩:=e
  intro p hp
  rw [a2N] at hp
  split at hp
  ·rcases c9e.1 hp with rfl|hp
   ·exact h (k,v) (c8V ..)
   ·exact h p (c8X _ hp)
  ·rcases c9e.1 hp with rfl|hp
   ·exact h (k,v) (c8V ..)
   ·exact ih (fun p hp=>h p (c8X _ hp)) p hp
def SAt (es:List (R×R)) (s:Int→Option Bool):Prop:=a5t es∧∀n,a3O es (ik n)=(s n).map fun b=>R.one (.sc (.bool b))
theorem SAt.set {es:List (R×R)} {s:Int→Option Bool} (h:SAt es s) (n:Int) (b:Bool):SAt (a2N es (ik n) (.one (.sc (.bool b)))) (b1j s n b):=by
 refine ⟨b2M h.1 n _,fun x=>?_⟩
 rw [b0g n x _ es h.1]
 unfold b1j
 by_cases hx:x=n
 ·rw [c8Y hx,c8Y hx];rfl
 ·rw [c8W hx,c8W hx];exact h.2 x
theorem SAt.nil:SAt [] fun _=>none:=⟨fun p hp=>by simp at hp,fun n=>rfl⟩
def c8k:Option Bool→Bool→Bool
 | none,_=>true
 | some b,row=>bEq b row
theorem c4Z (es:List (R×R)) (n:Int) (row:Bool) (o:Option Bool) (ho:a3O es (ik n)=o.map fun b=>R.one (.sc (.bool b))) :
  n7 119 [.mp 0,vi .i64 n,vb row] [.mp 3 es] (fun res os2=>res=[vb (c8k o row)]∧os2=[.mp 3 (a2N es (ik n) (.one (.sc (.bool row))))]):=by
 obtain ⟨es2,h2⟩:∃e,e=a2N es (ik n) (.one (.sc (.bool row))):=⟨_,rfl⟩
 rw [←h2]
 refine N9 Try.func119 rfl ?_;intro _ _ _ _ _ _ _ _ _ _ _ _ _ _ _ _ _ _ _ _ _ _ _ _ _ _ _ _ vh vj;intros;rename_i hA
 cbv;refine gn ?_
 obtain ⟨m1,m2,-⟩:=a0J hA
 have hl:vh es (ik n)=o.map fun b=>R.one (.sc (.bool b)):=by rw [m1,ho]
 have hp:vj es (ik n) (.one (.sc (.bool row)))=es2:=by rw [m2,h2]
 unfold ik at hl hp
 rw [hl]
 cases o with
 | none =>
  cbv;refine gn ?_
  rw [hp]
  refine j9 hA [0] ⟨rfl,rfl,rfl,rfl,rfl,rfl,rfl,rfl⟩ ⟨rfl,rfl⟩
 | some b =>
  cases b <;> cases row
  all_goals
   cbv;refine gn ?_
   rw [hp]
   exact j9 hA [0] ⟨rfl,rfl,rfl,rfl,rfl,rfl,rfl,rfl⟩ ⟨rfl,rfl⟩
def sI (row:Bool):Int:=match row with|true=>114|false=>116
def b1m (op:Int):Option (Int×Bool×Bool):=if op=1∨op=2∨op=3 then some (0,false,false) else if op=4 then some (2,false,false) else if op=5∨op=6 then some (1,false,false) else if op=7 then some (0,false,true)
 else if op=8∨op=9 then some (0,false,false) else if op=10 then some (0,false,true) else if op=11 then some (2,true,false) else none
def a6j (b:Bool) (F:Option (Int→Option Bool)) (res:List V) (os2:List O):Prop:=∃es',os2=[.mp 3 es']∧a5t es'∧res=[vb b]∧(b=true→∀s',F=some s'→SAt es' s')
def rtS (op:Int) (nm:ByteArray) (n:Int) (K:List (List D)) (row:Bool) (es:List (R×R)) (kn:Int) (named numbered:Bool) (j12 j13 j14 j15 j16 j17 j18 j19 j20 j21 j22 j23 j24 j25 j26 j27 j28 j29 j30 j31:V):S :=
 ⟨[.mp 0,.ag [.d (.sc (.int .u8 op)),.d (.sc (.string nm)),.d (.sc (.int .i64 n)),.d (.sl 4 K)],vb row,.tu [],.ptr 1 0,.tu [],vb false,vi .i64 kn,vb named,vb numbered,.tu [],.tu [],j12,j13,j14,j15,j16,j17,j18,j19,j20,j21,j22,j23,j24,j25,j26,j27,j28,j29,j30,j31]++uns 81,
  [.mp 3 es,.box [.d (.sc (.int .u8 op)),.d (.sc (.string nm)),.d (.sc (.int .i64 n)),.d (.sl 4 K)]]⟩
theorem b6Q (op:Int) (nm:ByteArray) (n:Int) (K:List (List D)) (row:Bool) (es:List (R×R)) (r:Code) (Kc:X→S→Prop) (hgo:∀kn a b,b1m op=some (kn,a,b)→∀j12 j13 j14 j15 j16 j17 j18 j19 j20 j21 j22 j23 j24 j25 j26 j27 j28 j29 j30 j31,B4 f7 r (rtS op nm n K row es kn a b j12 j13 j14 j15 j16 j17 j18 j19 j20 j21 j22 j23 j24 j25 j26 j27 j28 j29 j30 j31) Kc) (hno:b1m op=none→∀s:S,s.o=[.mp 3 es,.box [.d (.sc (.int .u8 op)),.d (.sc (.string nm)),.d (.sc (.int .i64 n)),.d (.sl 4 K)]]→n6 s.t 6=vb false→Kc .ret s):∀qa qb qc qd qe qg qh qi qj qk ql qm qo qp qq qt qu qv qw qx qy qz va vc vd ve vf vg vh vj vk vl vm vn vo vp vq vr vt vu vv vw vx,Ar.mk qa qb qc qd qe qg qh qi qj qk ql qm qo qp qq qt qu qv qw qx qy qz va vc vd ve vf vg vh vj vk vl vm vn vo vp vq vr vt vu vv vw vx=f7 →
  B4 (Ar.mk qa qb qc qd qe qg qh qi qj qk ql qm qo qp qq qt qu qv qw qx qy qz va vc vd ve vf vg vh vj vk vl vm vn vo vp vq vr vt vu vv vw vx) (.seq (K2 (Try.f109.body.getD .skip)) (.seq (K2 (j6 (Try.f109.body.getD .skip))) (.seq (K2 (j6 (j6 (Try.f109.body.getD .skip)))) (.seq (K2 (j6 (j6 (j6 (Try.f109.body.getD .skip))))) r))))
   (a1J [.mp 0,.ag [.d (.sc (.int .u8 op)),.d (.sc (.string nm)),.d (.sc (.int .i64 n)),.d (.sl 4 K)],vb row] [.mp 3 es] (Try.f109.ntmps - C4 [V.mp 0,.ag [.d (.sc (.int .u8 op)),.d (.sc (.string nm)),.d (.sc (.int .i64 n)),.d (.sl 4 K)],vb row])) Kc:=by
 intro qa qb qc qd qe qg qh qi qj qk ql qm qo qp qq qt qu qv qw qx qy qz va vc vd ve vf vg vh vj vk vl vm vn vo vp vq vr vt vu vv vw vx hA
 obtain ⟨e1,e2,e3,e4,e5,e6,e7,e8,e9⟩:=m6 hA
 have hq:∀i:Int,qk op i=decide (op=i):=fun i=>e9 op i
 have key:∀kn a b,b1m op=some (kn,a,b)→∀j12 j13 j14 j15 j16 j17 j18 j19 j20 j21 j22 j23 j24 j25 j26 j27 j28 j29 j30 j31,B4 (Ar.mk qa qb qc qd qe qg qh qi qj qk ql qm qo qp qq qt qu qv qw qx qy qz va vc vd ve vf vg vh vj vk vl vm vn vo vp vq vr vt vu vv vw vx) r (rtS op nm n K row es kn a b j12 j13 j14 j15 j16 j17 j18 j19 j20 j21 j22 j23 j24 j25 j26 j27 j28 j29 j30 j31) Kc:=fun kn a b h=>by rw [hA];exact hgo kn a b h
 clear hgo
 cbv
 repeat ((with_reducible apply f8 hA);cbv)
 cases q1:qk op 1
 rotate_left
 ·have hop:op=1:=by rw [hq] at q1;exact c9B q1
  have hk:=key 0 false false (by rw [hop];rfl)
  unfold B4 at hk
  cbv
  repeat ((with_reducible apply f8 hA);cbv)
  exact hk _ _ _ _ _ _ _ _ _ _ _ _ _ _ _ _ _ _ _ _
 cbv
 repeat ((with_reducible apply f8 hA);cbv)
 cases q2:qk op 2
 rotate_left
 ·have hop:op=2:=by rw [hq] at q2;exact c9B q2
  have hk:=key 0 false false (by rw [hop];rfl)
  unfold B4 at hk
  cbv
  repeat ((with_reducible apply f8 hA);cbv)
  exact hk _ _ _ _ _ _ _ _ _ _ _ _ _ _ _ _ _ _ _ _
 cbv
 repeat ((with_reducible apply f8 hA);cbv)
 cases q3:qk op 3
 rotate_left
 ·have hop:op=3:=by rw [hq] at q3;exact c9B q3
  have hk:=key 0 false false (by rw [hop];rfl)
  unfold B4 at hk
  cbv
  repeat ((with_reducible apply f8 hA);cbv)
  exact hk _ _ _ _ _ _ _ _ _ _ _ _ _ _ _ _ _ _ _ _
 cbv
 repeat ((with_reducible apply f8 hA);cbv)
 cases q4:qk op 4
 rotate_left
 ·have hop:op=4:=by rw [hq] at q4;exact c9B q4
  have hk:=key 2 false false (by rw [hop];rfl)
  unfold B4 at hk
  cbv
  repeat ((with_reducible apply f8 hA);cbv)
  exact hk _ _ _ _ _ _ _ _ _ _ _ _ _ _ _ _ _ _ _ _
 cbv
 repeat ((with_reducible apply f8 hA);cbv)
 cases q5:qk op 5
 rotate_left
 ·have hop:op=5:=by rw [hq] at q5;exact c9B q5
  have hk:=key 1 false false (by rw [hop];rfl)
  unfold B4 at hk
  cbv
  repeat ((with_reducible apply f8 hA);cbv)
  exact hk _ _ _ _ _ _ _ _ _ _ _ _ _ _ _ _ _ _ _ _
 cbv
 repeat ((with_reducible apply f8 hA);cbv)
 cases q6:qk op 6
 rotate_left
 ·have hop:op=6:=by rw [hq] at q6;exact c9B q6
  have hk:=key 1 false false (by rw [hop];rfl)
  unfold B4 at hk
  cbv
  repeat ((with_reducible apply f8 hA);cbv)
  exact hk _ _ _ _ _ _ _ _ _ _ _ _ _ _ _ _ _ _ _ _
 cbv
 repeat ((with_reducible apply f8 hA);cbv)
 cases q7:qk op 7
 rotate_left
 ·have hop:op=7:=by rw [hq] at q7;exact c9B q7
  have hk:=key 0 false true (by rw [hop];rfl)
  unfold B4 at hk
  cbv
  repeat ((with_reducible apply f8 hA);cbv)
  exact hk _ _ _ _ _ _ _ _ _ _ _ _ _ _ _ _ _ _ _ _
 cbv
 repeat ((with_reducible apply f8 hA);cbv)
 cases q8:qk op 8
 rotate_left
 ·have hop:op=8:=by rw [hq] at q8;exact c9B q8
  have hk:=key 0 false false (by rw [hop];rfl)
  unfold B4 at hk
  cbv
  repeat ((with_reducible apply f8 hA);cbv)
  exact hk _ _ _ _ _ _ _ _ _ _ _ _ _ _ _ _ _ _ _ _
 cbv
 repeat ((with_reducible apply f8 hA);cbv)
 cases q9:qk op 9
 rotate_left
 ·have hop:op=9:=by rw [hq] at q9;exact c9B q9
  have hk:=key 0 false false (by rw [hop];rfl)
  unfold B4 at hk
  cbv
  repeat ((with_reducible apply f8 hA);cbv)
  exact hk _ _ _ _ _ _ _ _ _ _ _ _ _ _ _ _ _ _ _ _
 cbv
 repeat ((with_reducible apply f8 hA);cbv)
 cases q10:qk op 10
 rotate_left
 ·have hop:op=10:=by rw [hq] at q10;exact c9B q10
  have hk:=key 0 false true (by rw [hop];rfl)
  unfold B4 at hk
  cbv
  repeat ((with_reducible apply f8 hA);cbv)
  exact hk _ _ _ _ _ _ _ _ _ _ _ _ _ _ _ _ _ _ _ _
 cbv
 repeat ((with_reducible apply f8 hA);cbv)
 cases q11:qk op 11
 rotate_left
 ·have hop:op=11:=by rw [hq] at q11;exact c9B q11
  have hk:=key 2 true false (by rw [hop];rfl)
  unfold B4 at hk
  cbv
  repeat ((with_reducible apply f8 hA);cbv)
  exact hk _ _ _ _ _ _ _ _ _ _ _ _ _ _ _ _ _ _ _ _
 cbv
 repeat ((with_reducible apply f8 hA);cbv)
 have hn:b1m op=none:=by
  rw [hq] at q1 q2 q3 q4 q5 q6 q7 q8 q9 q10 q11
  have p1:=c9V q1
  have p2:=c9V q2
  have p3:=c9V q3
  have p4:=c9V q4
  have p5:=c9V q5
  have p6:=c9V q6
  have p7:=c9V q7
  have p8:=c9V q8
  have p9:=c9V q9
  have p10:=c9V q10
  have p11:=c9V q11
  unfold b1m
  simp [p1,p2,p3,p4,p5,p6,p7,p8,p9,p10,p11]
 exact hno hn _ rfl rfl
end Go.Proofs.Ytahpnackkmbmgaa.Vm
end

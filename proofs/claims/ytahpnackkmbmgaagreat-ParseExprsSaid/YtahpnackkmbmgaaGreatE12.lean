/- Part 12 of the proof. Conditions: none. -/
import Derived.Test.YtahpnackkmbmgaaGreatE4
import Derived.Test.YtahpnackkmbmgaaGreatE10
import Derived.Test.YtahpnackkmbmgaaGreatE11
import Derived.Test.YtahpnackkmbmgaaGreatE0
set_option linter.all false
set_option linter.unusedVariables false
set_option linter.unusedSimpArgs false
section
namespace Go.Proofs.YtahpnackkmbmgaaGreat.Vm
open Go.RowKit
set_option maxRecDepth 100000
set_option maxHeartbeats 4000000
def N0 (t:Ty) (s:Int):Bool:=I9 E3 t s && a7O t
def ik (n:Int):R:=.one (.sc (.int .i64 n))
def a6B (es:List (R×R)):Prop:=∀p∈es,∃m,p.1=ik m
theorem b2R (m n:Int):rEq (ik m) (ik n)=(m == n):=a6c m n
theorem b1A (n x:Int) (q:R):∀(es:List (R×R)),a6B es→a4X (a3P es (ik n) q) (ik x)=if x=n then some q else a4X es (ik x)
 | [],_=>by
  rw [a3P]
  show (match rEq (ik n) (ik x) with|true=>some q|false=>a4X [] (ik x))=_
  rw [b2R]
  by_cases h:x=n
  ·subst h;simp
  ·rw [d2T h,d34.2 (fun e=>h e.symm)]
 | (k,v)::es,h=>by
  obtain ⟨m,hm⟩:=h _ (d2V ..)
  simp only at hm
  subst hm
  have ih:=b1A n x q es fun p hp=>h p (d2W _ hp)
  rw [a3P,b2R]
  by_cases hmn:m=n
  ·subst hmn
   simp only [d3C]
   rw [a4X,a4X,b2R]
   by_cases h:x=m
   ·subst h;simp
   ·rw [d2T h,d34.2 (fun e=>h e.symm)]
  ·rw [d34.2 hmn]
   simp only
   rw [a4X,a4X,b2R,ih]
   by_cases h:m=x
   ·subst h;simp [hmn]
   ·rw [d34.2 h]
theorem b44 {es:List (R×R)} (h:a6B es) (n:Int) (q:R):a6B (a3P es (ik n) q):=by
 induction es with
 | nil=>intro p hp;rw [a3P] at hp;simp at hp;subst hp;exact ⟨n,rfl⟩
 | cons e es ih =>
  obtain ⟨k,v⟩:=e
  intro p hp
  rw [a3P] at hp
  split at hp
  ·rcases d3d.1 hp with rfl|hp
   ·exact h (k,v) (d2V ..)
   ·exact h p (d2W _ hp)
  ·rcases d3d.1 hp with rfl|hp
   ·exact h (k,v) (d2V ..)
   ·exact ih (fun p hp=>h p (d2W _ hp)) p hp
def SAt (es:List (R×R)) (s:Int→Option Bool):Prop:=a6B es∧∀n,a4X es (ik n)=(s n).map fun b=>R.one (.sc (.bool b))
theorem SAt.set {es:List (R×R)} {s:Int→Option Bool} (h:SAt es s) (n:Int) (b:Bool):SAt (a3P es (ik n) (.one (.sc (.bool b)))) (b2P s n b):=by
 refine ⟨b44 h.1 n _,fun x=>?_⟩
 rw [b1A n x _ es h.1]
 unfold b2P
 by_cases hx:x=n
 ·rw [d2S hx,d2S hx];rfl
 ·rw [d2T hx,d2T hx];exact h.2 x
theorem SAt.nil:SAt [] fun _=>none:=⟨fun p hp=>by simp at hp,fun n=>rfl⟩
def d1r:Option Bool→Bool→Bool
 | none,_=>true
 | some b,row=>bEq b row
theorem c7c (es:List (R×R)) (n:Int) (row:Bool) (o:Option Bool) (ho:a4X es (ik n)=o.map fun b=>R.one (.sc (.bool b))) :
  v8 126 [.mp 0,vi .i64 n,vb row] [.mp 3 es] (fun res os2=>res=[vb (d1r o row)]∧os2=[.mp 3 (a3P es (ik n) (.one (.sc (.bool row))))]):=by
 obtain ⟨es2,h2⟩:∃e,e=a3P es (ik n) (.one (.sc (.bool row))):=⟨_,rfl⟩
 rw [←h2]
 refine Z5 Tryz.func126 rfl ?_;intro _ _ _ _ _ _ _ _ _ _ _ _ _ _ _ _ _ _ _ _ _ _ _ _ _ _ _ _ vh vj;intros;rename_i hA
 cbv;refine gn ?_
 obtain ⟨m1,m2,-⟩:=a0U hA
 have hl:vh es (ik n)=o.map fun b=>R.one (.sc (.bool b)):=by rw [m1,ho]
 have hp:vj es (ik n) (.one (.sc (.bool row)))=es2:=by rw [m2,h2]
 unfold ik at hl hp
 rw [hl]
 cases o with
 | none =>
  cbv;refine gn ?_
  rw [hp]
  refine m9 hA [0] ⟨rfl,rfl,rfl,rfl,rfl,rfl,rfl,rfl⟩ ⟨rfl,rfl⟩
 | some b =>
  cases b <;> cases row
  all_goals
   cbv;refine gn ?_
   rw [hp]
   exact m9 hA [0] ⟨rfl,rfl,rfl,rfl,rfl,rfl,rfl,rfl⟩ ⟨rfl,rfl⟩
def sI (row:Bool):Int:=match row with|true=>114|false=>116
def b2S (op:Int):Option (Int×Bool×Bool):=if op=1∨op=2∨op=3 then some (0,false,false) else if op=4 then some (2,false,false) else if op=5∨op=6 then some (1,false,false) else if op=7 then some (0,false,true)
 else if op=8∨op=9 then some (0,false,false) else if op=10 then some (0,false,true) else if op=11 then some (2,true,false) else none
def a70 (b:Bool) (F:Option (Int→Option Bool)) (res:List V) (os2:List O):Prop:=∃es',os2=[.mp 3 es']∧a6B es'∧res=[vb b]∧(b=true→∀s',F=some s'→SAt es' s')
def rtS (op:Int) (nm:ByteArray) (n:Int) (K:List (List D)) (row:Bool) (es:List (R×R)) (kn:Int) (named numbered:Bool) (j12 j13 j14 j15 j16 j17 j18 j19 j20 j21 j22 j23 j24 j25 j26 j27 j28 j29 j30 j31:V):S :=
 ⟨[.mp 0,.ag [.d (.sc (.int .u8 op)),.d (.sc (.string nm)),.d (.sc (.int .i64 n)),.d (.sl 4 K)],vb row,.tu [],.ptr 1 0,.tu [],vb false,vi .i64 kn,vb named,vb numbered,.tu [],.tu [],j12,j13,j14,j15,j16,j17,j18,j19,j20,j21,j22,j23,j24,j25,j26,j27,j28,j29,j30,j31]++uns 81,
  [.mp 3 es,.box [.d (.sc (.int .u8 op)),.d (.sc (.string nm)),.d (.sc (.int .i64 n)),.d (.sl 4 K)]]⟩
theorem b8R (op:Int) (nm:ByteArray) (n:Int) (K:List (List D)) (row:Bool) (es:List (R×R)) (r:Code) (Kc:X→S→Prop) (hgo:∀kn a b,b2S op=some (kn,a,b)→∀j12 j13 j14 j15 j16 j17 j18 j19 j20 j21 j22 j23 j24 j25 j26 j27 j28 j29 j30 j31,E1 f7 r (rtS op nm n K row es kn a b j12 j13 j14 j15 j16 j17 j18 j19 j20 j21 j22 j23 j24 j25 j26 j27 j28 j29 j30 j31) Kc) (hno:b2S op=none→∀s:S,s.o=[.mp 3 es,.box [.d (.sc (.int .u8 op)),.d (.sc (.string nm)),.d (.sc (.int .i64 n)),.d (.sl 4 K)]]→v7 s.t 6=vb false→Kc .ret s):∀qa qb qc qd qe qg qh qi qj qk ql qm qo qp qq qt qu qv qw qx qy qz va vc vd ve vf vg vh vj vk vl vm vn vo vp vq vr vt vu vv vw vx,Ar.mk qa qb qc qd qe qg qh qi qj qk ql qm qo qp qq qt qu qv qw qx qy qz va vc vd ve vf vg vh vj vk vl vm vn vo vp vq vr vt vu vv vw vx=f7 →
  E1 (Ar.mk qa qb qc qd qe qg qh qi qj qk ql qm qo qp qq qt qu qv qw qx qy qz va vc vd ve vf vg vh vj vk vl vm vn vo vp vq vr vt vu vv vw vx) (.seq (Q7 (Tryz.f111.body.getD .skip)) (.seq (Q7 (m6 (Tryz.f111.body.getD .skip))) (.seq (Q7 (m6 (m6 (Tryz.f111.body.getD .skip)))) (.seq (Q7 (m6 (m6 (m6 (Tryz.f111.body.getD .skip))))) r))))
   (a2D [.mp 0,.ag [.d (.sc (.int .u8 op)),.d (.sc (.string nm)),.d (.sc (.int .i64 n)),.d (.sl 4 K)],vb row] [.mp 3 es] (Tryz.f111.ntmps - F4 [V.mp 0,.ag [.d (.sc (.int .u8 op)),.d (.sc (.string nm)),.d (.sc (.int .i64 n)),.d (.sl 4 K)],vb row])) Kc:=by
 intro qa qb qc qd qe qg qh qi qj qk ql qm qo qp qq qt qu qv qw qx qy qz va vc vd ve vf vg vh vj vk vl vm vn vo vp vq vr vt vu vv vw vx hA
 obtain ⟨e1,e2,e3,e4,e5,e6,e7,e8,e9⟩:=j7 hA
 have hq:∀i:Int,qk op i=decide (op=i):=fun i=>e9 op i
 have key:∀kn a b,b2S op=some (kn,a,b)→∀j12 j13 j14 j15 j16 j17 j18 j19 j20 j21 j22 j23 j24 j25 j26 j27 j28 j29 j30 j31,E1 (Ar.mk qa qb qc qd qe qg qh qi qj qk ql qm qo qp qq qt qu qv qw qx qy qz va vc vd ve vf vg vh vj vk vl vm vn vo vp vq vr vt vu vv vw vx) r (rtS op nm n K row es kn a b j12 j13 j14 j15 j16 j17 j18 j19 j20 j21 j22 j23 j24 j25 j26 j27 j28 j29 j30 j31) Kc:=fun kn a b h=>by rw [hA];exact hgo kn a b h
 clear hgo
 cbv
 repeat ((with_reducible apply f8 hA);cbv)
 cases q1:qk op 1
 rotate_left
 ·have hop:op=1:=by rw [hq] at q1;exact d3B q1
  have hk:=key 0 false false (by rw [hop];rfl)
  unfold E1 at hk
  cbv
  repeat ((with_reducible apply f8 hA);cbv)
  exact hk _ _ _ _ _ _ _ _ _ _ _ _ _ _ _ _ _ _ _ _
 cbv
 repeat ((with_reducible apply f8 hA);cbv)
 cases q2:qk op 2
 rotate_left
 ·have hop:op=2:=by rw [hq] at q2;exact d3B q2
  have hk:=key 0 false false (by rw [hop];rfl)
  unfold E1 at hk
  cbv
  repeat ((with_reducible apply f8 hA);cbv)
  exact hk _ _ _ _ _ _ _ _ _ _ _ _ _ _ _ _ _ _ _ _
 cbv
 repeat ((with_reducible apply f8 hA);cbv)
 cases q3:qk op 3
 rotate_left
 ·have hop:op=3:=by rw [hq] at q3;exact d3B q3
  have hk:=key 0 false false (by rw [hop];rfl)
  unfold E1 at hk
  cbv
  repeat ((with_reducible apply f8 hA);cbv)
  exact hk _ _ _ _ _ _ _ _ _ _ _ _ _ _ _ _ _ _ _ _
 cbv
 repeat ((with_reducible apply f8 hA);cbv)
 cases q4:qk op 4
 rotate_left
 ·have hop:op=4:=by rw [hq] at q4;exact d3B q4
  have hk:=key 2 false false (by rw [hop];rfl)
  unfold E1 at hk
  cbv
  repeat ((with_reducible apply f8 hA);cbv)
  exact hk _ _ _ _ _ _ _ _ _ _ _ _ _ _ _ _ _ _ _ _
 cbv
 repeat ((with_reducible apply f8 hA);cbv)
 cases q5:qk op 5
 rotate_left
 ·have hop:op=5:=by rw [hq] at q5;exact d3B q5
  have hk:=key 1 false false (by rw [hop];rfl)
  unfold E1 at hk
  cbv
  repeat ((with_reducible apply f8 hA);cbv)
  exact hk _ _ _ _ _ _ _ _ _ _ _ _ _ _ _ _ _ _ _ _
 cbv
 repeat ((with_reducible apply f8 hA);cbv)
 cases q6:qk op 6
 rotate_left
 ·have hop:op=6:=by rw [hq] at q6;exact d3B q6
  have hk:=key 1 false false (by rw [hop];rfl)
  unfold E1 at hk
  cbv
  repeat ((with_reducible apply f8 hA);cbv)
  exact hk _ _ _ _ _ _ _ _ _ _ _ _ _ _ _ _ _ _ _ _
 cbv
 repeat ((with_reducible apply f8 hA);cbv)
 cases q7:qk op 7
 rotate_left
 ·have hop:op=7:=by rw [hq] at q7;exact d3B q7
  have hk:=key 0 false true (by rw [hop];rfl)
  unfold E1 at hk
  cbv
  repeat ((with_reducible apply f8 hA);cbv)
  exact hk _ _ _ _ _ _ _ _ _ _ _ _ _ _ _ _ _ _ _ _
 cbv
 repeat ((with_reducible apply f8 hA);cbv)
 cases q8:qk op 8
 rotate_left
 ·have hop:op=8:=by rw [hq] at q8;exact d3B q8
  have hk:=key 0 false false (by rw [hop];rfl)
  unfold E1 at hk
  cbv
  repeat ((with_reducible apply f8 hA);cbv)
  exact hk _ _ _ _ _ _ _ _ _ _ _ _ _ _ _ _ _ _ _ _
 cbv
 repeat ((with_reducible apply f8 hA);cbv)
 cases q9:qk op 9
 rotate_left
 ·have hop:op=9:=by rw [hq] at q9;exact d3B q9
  have hk:=key 0 false false (by rw [hop];rfl)
  unfold E1 at hk
  cbv
  repeat ((with_reducible apply f8 hA);cbv)
  exact hk _ _ _ _ _ _ _ _ _ _ _ _ _ _ _ _ _ _ _ _
 cbv
 repeat ((with_reducible apply f8 hA);cbv)
 cases q10:qk op 10
 rotate_left
 ·have hop:op=10:=by rw [hq] at q10;exact d3B q10
  have hk:=key 0 false true (by rw [hop];rfl)
  unfold E1 at hk
  cbv
  repeat ((with_reducible apply f8 hA);cbv)
  exact hk _ _ _ _ _ _ _ _ _ _ _ _ _ _ _ _ _ _ _ _
 cbv
 repeat ((with_reducible apply f8 hA);cbv)
 cases q11:qk op 11
 rotate_left
 ·have hop:op=11:=by rw [hq] at q11;exact d3B q11
  have hk:=key 2 true false (by rw [hop];rfl)
  unfold E1 at hk
  cbv
  repeat ((with_reducible apply f8 hA);cbv)
  exact hk _ _ _ _ _ _ _ _ _ _ _ _ _ _ _ _ _ _ _ _
 cbv
 repeat ((with_reducible apply f8 hA);cbv)
 have hn:b2S op=none:=by
  rw [hq] at q1 q2 q3 q4 q5 q6 q7 q8 q9 q10 q11
  have p1:=d3S q1
  have p2:=d3S q2
  have p3:=d3S q3
  have p4:=d3S q4
  have p5:=d3S q5
  have p6:=d3S q6
  have p7:=d3S q7
  have p8:=d3S q8
  have p9:=d3S q9
  have p10:=d3S q10
  have p11:=d3S q11
  unfold b2S
  simp [p1,p2,p3,p4,p5,p6,p7,p8,p9,p10,p11]
 exact hno hn _ rfl rfl
end Go.Proofs.YtahpnackkmbmgaaGreat.Vm
end

/- Part 6 of the proof: VROnce, VPRight, VPRight2. Conditions: none. -/
import Derived.Test.YtahpnackkmbmgaaGreatDoorK1
import Derived.Test.YtahpnackkmbmgaaGreatDoorK5
set_option linter.all false
set_option linter.unusedVariables false
set_option linter.unusedSimpArgs false
section
namespace Go.Proofs.YtahpnackkmbmgaaGreatDoor.Vm
open Go.RowKit
set_option maxRecDepth 100000
set_option maxHeartbeats 4000000
theorem once_s (t:Ty) (hN:t.parts.length ≤ 1048576):Spec 29 [.ag (cT t)] [.one (.sc (.bool (onceB t)))]:=by
 have hP:=Parts_s t hN
 obtain ⟨P,hPP⟩:∃ P,P = t.parts:=⟨_,rfl⟩
 generalize hb:onceB t = b
 unfold onceB at hb
 rw [← hPP] at hP hb hN
 obtain ⟨c0,c1,c2,c3,hc⟩:∃ c0 c1 c2 c3,cT t = [c0,c1,c2,c3]:=by obtain ⟨op,nm,n,ks⟩:=t;exact ⟨_,_,_,_,by rw [cT]⟩
 rw [hc] at hP ⊢
 obtain ⟨L,hL⟩:∃ L,L = rT P:=⟨_,rfl⟩
 rw [← hL] at hP
 refine spec_of Tryz.func29 rfl (by kernel_rfl) (by kernel_rfl) (by kernel_rfl) fun qa qb qc qd qe qg qh qi qj qk ql qm qo qp qq qt qu qv qw qx qy qz va vc vd ve vf vg vh vj vk vl vm vn vo vp vq vr vt vu vv vw vx hA=>?_
 cbv
 repeat ((with_reducible apply next_at hA);cbv)
 refine call_at hA _ hP ?_ ?_
 ·rfl
 cbv
 repeat ((with_reducible apply next_at hA);cbv)
 obtain ⟨e1,e2,e3,e4,e5,e6,e7,e8,e9⟩:=ar_at hA
 obtain ⟨r1,r2,-⟩:=row_at hA
 refine loop_at hA (γ:=Int) (fun z=>[(4,vi .i64 z)]) (fun _=>[]) (fun z=>∃ k:Nat,z = (k:Int) ∧ k ≤ P.length ∧ ((P.drop k).all fun x=>P.all fun y=>!clashB x y) = b) (fun z=>P.length - z.toNat) 0 ?_ ?_ ?_
 ·exact ⟨0,rfl,Nat.zero_le _,hb⟩
 ·cbv
 ·intro z hinv
  cbv
  repeat ((with_reducible apply next_at hA);cbv)
  obtain ⟨k,hz,hk,hE⟩:=hinv
  replace hz:z = (k:Int):=hz
  have hlen:va L = ((P.length:Nat):Int):=by rw [r1,hL,rT_len]
  have hlt:qi z (va L) = decide (k < P.length):=by rw [e7,hlen,hz];exact decide_eq_decide.2 (by omega)
  by_cases h9:k < P.length
  ·rw [decide_eq_true h9] at hlt
   obtain ⟨x,hx⟩:∃ x,P[k]? = some x:=⟨_,List.getElem?_eq_getElem h9⟩
   have d1:P.drop k = x :: P.drop (k + 1):=by obtain ⟨hi,e⟩:=List.getElem?_eq_some_iff.1 hx;rw [List.drop_eq_getElem_cons hi,e]
   rw [d1,List.all_cons] at hE
   have g1:vc L z = some (cT x):=by rw [r2,hz,if_pos (by omega),hL];exact rT_get hx
   have hz1:qa .i64 (qb z 1) = ((k + 1:Nat):Int):=by rw [e1,e2,hz,IntWalk.i64_in _ (by omega)];omega
   have hm:P.length - (qa .i64 (qb z 1)).toNat < P.length - z.toNat:=by rw [hz1,hz];omega
   have hxo:qk x.op 7 = (x.op == 7):=e9 _ _
   obtain ⟨o1,m1,n1,l1⟩:=x
   rw [cT] at g1
   simp only [Ty.op] at hxo
   generalize rT l1 = L1 at *
   rw [hlt]
   cbv
   repeat ((with_reducible apply next_at hA);cbv)
   refine loop_at hA (γ:=Int) (fun y=>[(5,vi .i64 y)]) (fun _=>[]) (fun y=>∃ j:Nat,y = (j:Int) ∧ j ≤ P.length ∧ (((P.drop j).all fun y=>!clashB (.mk o1 m1 n1 l1) y) && ((P.drop (k + 1)).all fun x=>P.all fun y=>!clashB x y)) = b) (fun y=>P.length - y.toNat) 0 ?_ ?_ ?_
   ·exact ⟨0,rfl,Nat.zero_le _,hE⟩
   ·cbv
   ·intro y hinv2
    cbv
    repeat ((with_reducible apply next_at hA);cbv)
    obtain ⟨j,hy,hj,hE2⟩:=hinv2
    replace hy:y = (j:Int):=hy
    replace hlen:va L = ((P.length:Nat):Int):=hlen
    have hlt2:qi y (va L) = decide (j < P.length):=by rw [e7,hlen,hy];exact decide_eq_decide.2 (by omega)
    by_cases h8:j < P.length
    ·rw [decide_eq_true h8] at hlt2
     obtain ⟨v,hv⟩:∃ v,P[j]? = some v:=⟨_,List.getElem?_eq_getElem h8⟩
     have d2:P.drop j = v :: P.drop (j + 1):=by obtain ⟨hi,e⟩:=List.getElem?_eq_some_iff.1 hv;rw [List.drop_eq_getElem_cons hi,e]
     rw [d2,List.all_cons] at hE2
     have g2:vc L y = some (cT v):=by rw [r2,hy,if_pos (by omega),hL];exact rT_get hv
     have hy1:qa .i64 (qb y 1) = ((j + 1:Nat):Int):=by rw [e1,e2,hy,IntWalk.i64_in _ (by omega)];omega
     have hm2:P.length - (qa .i64 (qb y 1)).toNat < P.length - y.toNat:=by rw [hy1,hy];omega
     obtain ⟨o2,m2,n2,l2⟩:=v
     rw [cT] at g2
     generalize rT l2 = L2 at *
     have hcl:clashB (.mk o1 m1 n1 l1) (.mk o2 m2 n2 l2) = (qk o1 7 && (qk o2 10 && qk n1 n2)):=by rw [e9,e9,e9];rfl
     rw [hcl] at hE2
     rw [hlt2]
     cbv
     repeat ((with_reducible apply next_at hA);cbv)
     rw [g1]
     cbv
     cases q7:qk o1 7
     ·rw [q7] at hE2
      cbv
      repeat ((with_reducible apply next_at hA);cbv)
      exact ⟨_,⟨j + 1,hy1,h8,hE2⟩,hm2,by cbv⟩
     ·rw [q7] at hE2
      cbv
      repeat ((with_reducible apply next_at hA);cbv)
      rw [g2]
      cbv
      cases q10:qk o2 10
      ·rw [q10] at hE2
       cbv
       repeat ((with_reducible apply next_at hA);cbv)
       exact ⟨_,⟨j + 1,hy1,h8,hE2⟩,hm2,by cbv⟩
      ·rw [q10] at hE2
       cbv
       repeat ((with_reducible apply next_at hA);cbv)
       try (rw [g1];cbv)
       try (rw [g2];cbv)
       cases qn:qk n1 n2
       ·rw [qn] at hE2
        cbv
        repeat ((with_reducible apply next_at hA);cbv)
        exact ⟨_,⟨j + 1,hy1,h8,hE2⟩,hm2,by cbv⟩
       ·rw [qn] at hE2
        cbv
        repeat ((with_reducible apply next_at hA);cbv)
        exact resb hE2
    ·rw [decide_eq_false h8] at hlt2
     rw [List.drop_eq_nil_of_le (by omega)] at hE2
     rw [hlt2]
     cbv
     repeat ((with_reducible apply next_at hA);cbv)
     exact ⟨_,⟨k + 1,hz1,h9,hE2⟩,hm,by cbv⟩
  ·rw [decide_eq_false h9] at hlt
   rw [List.drop_eq_nil_of_le (by omega)] at hE
   rw [hlt]
   cbv
   repeat ((with_reducible apply next_at hA);cbv)
   exact resb hE
def rightB (t:Ty) (s:Int):Bool:=shapeB wordB t s && onceB t
theorem Right_s (t:Ty) (hN:t.parts.length ≤ 1048576) (hnm:∀ x ∈ t.parts,x.name.size ≤ 1048576):Spec 10 [.ag (cT t)] [.one (.sc (.bool (rightB t 116)))]:=by
 have h1:=shape_s t 116 hN hnm
 have h2:=once_s t hN
 generalize hb:rightB t 116 = b
 unfold rightB at hb
 generalize shapeB wordB t 116 = q1 at *
 generalize onceB t = q2 at *
 obtain ⟨c0,c1,c2,c3,hc⟩:∃ c0 c1 c2 c3,cT t = [c0,c1,c2,c3]:=by obtain ⟨op,nm,n,ks⟩:=t;exact ⟨_,_,_,_,by rw [cT]⟩
 rw [hc] at h1 h2 ⊢
 refine spec_of Tryz.func10 rfl (by kernel_rfl) (by kernel_rfl) (by kernel_rfl) fun qa qb qc qd qe qg qh qi qj qk ql qm qo qp qq qt qu qv qw qx qy qz va vc vd ve vf vg vh vj vk vl vm vn vo vp vq vr vt vu vv vw vx hA=>?_
 cbv
 repeat ((with_reducible apply next_at hA);cbv)
 refine call_at hA _ h1 ?_ ?_
 ·rfl
 cases q1
 ·cbv
  repeat ((with_reducible apply next_at hA);cbv)
  exact resb hb
 ·cbv
  repeat ((with_reducible apply next_at hA);cbv)
  refine call_at hA _ h2 ?_ ?_
  ·rfl
  cbv
  repeat ((with_reducible apply next_at hA);cbv)
  exact resb hb
def ik (n:Int):R:=.one (.sc (.int .i64 n))
def IntKeys (es:List (R × R)):Prop:=∀ p ∈ es,∃ m,p.1 = ik m
theorem rEq_ik (m n:Int):rEq (ik m) (ik n) = (m == n):=intEq_is m n
theorem mget_mset (n x:Int) (q:R):∀ (es:List (R × R)),IntKeys es → mget (mset es (ik n) q) (ik x) = if x = n then some q else mget es (ik x)
 | [],_=>by
  rw [mset]
  show (match rEq (ik n) (ik x) with | true=>some q | false=>mget [] (ik x)) = _
  rw [rEq_ik]
  by_cases h:x = n
  ·subst h;simp
  ·rw [if_neg h,beq_eq_false_iff_ne.2 (fun e=>h e.symm)]
 | (k,v) :: es,h=>by
  obtain ⟨m,hm⟩:=h _ (List.mem_cons_self ..)
  simp only at hm
  subst hm
  have ih:=mget_mset n x q es fun p hp=>h p (List.mem_cons_of_mem _ hp)
  rw [mset,rEq_ik]
  by_cases hmn:m = n
  ·subst hmn
   simp only [beq_self_eq_true]
   rw [mget,mget,rEq_ik]
   by_cases h:x = m
   ·subst h;simp
   ·rw [if_neg h,beq_eq_false_iff_ne.2 (fun e=>h e.symm)]
  ·rw [beq_eq_false_iff_ne.2 hmn]
   simp only
   rw [mget,mget,rEq_ik,ih]
   by_cases h:m = x
   ·subst h;simp [hmn]
   ·rw [beq_eq_false_iff_ne.2 h]
theorem intKeys_set {es:List (R × R)} (h:IntKeys es) (n:Int) (q:R):IntKeys (mset es (ik n) q):=by
 induction es with
 | nil=>intro p hp;rw [mset] at hp;simp at hp;subst hp;exact ⟨n,rfl⟩
 | cons e es ih =>
  obtain ⟨k,v⟩:=e
  intro p hp
  rw [mset] at hp
  split at hp
  ·rcases List.mem_cons.1 hp with rfl | hp
   ·exact h (k,v) (List.mem_cons_self ..)
   ·exact h p (List.mem_cons_of_mem _ hp)
  ·rcases List.mem_cons.1 hp with rfl | hp
   ·exact h (k,v) (List.mem_cons_self ..)
   ·exact ih (fun p hp=>h p (List.mem_cons_of_mem _ hp)) p hp
def SAt (es:List (R × R)) (s:Int → Option Bool):Prop:=IntKeys es ∧ ∀ n,mget es (ik n) = (s n).map fun b=>R.one (.sc (.bool b))
theorem SAt.set {es:List (R × R)} {s:Int → Option Bool} (h:SAt es s) (n:Int) (b:Bool):SAt (mset es (ik n) (.one (.sc (.bool b)))) (updS s n b):=by
 refine ⟨intKeys_set h.1 n _,fun x=>?_⟩
 rw [mget_mset n x _ es h.1]
 unfold updS
 by_cases hx:x = n
 ·rw [if_pos hx,if_pos hx];rfl
 ·rw [if_neg hx,if_neg hx];exact h.2 x
theorem SAt.nil:SAt [] fun _=>none:=⟨fun p hp=>by simp at hp,fun n=>rfl⟩
def metB:Option Bool → Bool → Bool
 | none,_=>true
 | some b,row=>bEq b row
theorem meet_s (es:List (R × R)) (n:Int) (row:Bool) (o:Option Bool) (ho:mget es (ik n) = o.map fun b=>R.one (.sc (.bool b))) :
  SpecO 70 [.mp 0,vi .i64 n,vb row] [.mp 3 es] (fun res os2=>res = [vb (metB o row)] ∧ os2 = [.mp 3 (mset es (ik n) (.one (.sc (.bool row))))]):=by
 obtain ⟨es2,h2⟩:∃ e,e = mset es (ik n) (.one (.sc (.bool row))):=⟨_,rfl⟩
 rw [← h2]
 refine speco_of Tryz.func70 rfl (by kernel_rfl) (by kernel_rfl) (by kernel_rfl) fun qa qb qc qd qe qg qh qi qj qk ql qm qo qp qq qt qu qv qw qx qy qz va vc vd ve vf vg vh vj vk vl vm vn vo vp vq vr vt vu vv vw vx hA=>?_
 cbv
 repeat ((with_reducible apply next_at hA);cbv)
 obtain ⟨m1,m2,-⟩:=map_at hA
 have hl:vh es (ik n) = o.map fun b=>R.one (.sc (.bool b)):=by rw [m1,ho]
 have hp:vj es (ik n) (.one (.sc (.bool row))) = es2:=by rw [m2,h2]
 unfold ik at hl hp
 rw [hl]
 cases o with
 | none =>
  cbv
  repeat ((with_reducible apply next_at hA);cbv)
  rw [hp]
  refine keep_is hA [0] ⟨rfl,rfl,rfl,rfl,rfl,rfl,rfl,rfl⟩ ⟨rfl,rfl⟩
 | some b =>
  cases b <;> cases row
  all_goals
   cbv
   repeat ((with_reducible apply next_at hA);cbv)
   rw [hp]
   exact keep_is hA [0] ⟨rfl,rfl,rfl,rfl,rfl,rfl,rfl,rfl⟩ ⟨rfl,rfl⟩
def sI (row:Bool):Int:=match row with | true=>114 | false=>116
def asks (op:Int):Option (Int × Bool × Bool):=if op = 1 ∨ op = 2 ∨ op = 3 then some (0,false,false) else if op = 4 then some (2,false,false) else if op = 5 ∨ op = 6 then some (1,false,false) else if op = 7 then some (0,false,true)
 else if op = 8 ∨ op = 9 then some (0,false,false) else if op = 10 then some (0,false,true) else if op = 11 then some (2,true,false) else none
def RightQ (b:Bool) (F:Option (Int → Option Bool)) (res:List V) (os2:List O):Prop:=∃ es',os2 = [.mp 3 es'] ∧ IntKeys es' ∧ res = [vb b] ∧ (b = true → ∀ s',F = some s' → SAt es' s')
def rtS (op:Int) (nm:ByteArray) (n:Int) (K:List (List D)) (row:Bool) (es:List (R × R)) (kn:Int) (named numbered:Bool) (j12 j13 j14 j15 j16 j17 j18 j19 j20 j21 j22 j23 j24 j25 j26 j27 j28 j29 j30 j31:V):S :=
 ⟨[.mp 0,.ag [.d (.sc (.int .u8 op)),.d (.sc (.string nm)),.d (.sc (.int .i64 n)),.d (.sl 4 K)],vb row,.tu [],.ptr 1 0,.tu [],vb false,vi .i64 kn,vb named,vb numbered,.tu [],.tu [],j12,j13,j14,j15,j16,j17,j18,j19,j20,j21,j22,j23,j24,j25,j26,j27,j28,j29,j30,j31] ++ uns 81,
  [.mp 3 es,.box [.d (.sc (.int .u8 op)),.d (.sc (.string nm)),.d (.sc (.int .i64 n)),.d (.sl 4 K)]]⟩
theorem pre_right (op:Int) (nm:ByteArray) (n:Int) (K:List (List D)) (row:Bool) (es:List (R × R)) (r:Code) (Kc:X → S → Prop) (hgo:∀ kn a b,asks op = some (kn,a,b) → ∀ j12 j13 j14 j15 j16 j17 j18 j19 j20 j21 j22 j23 j24 j25 j26 j27 j28 j29 j30 j31,exec real r (rtS op nm n K row es kn a b j12 j13 j14 j15 j16 j17 j18 j19 j20 j21 j22 j23 j24 j25 j26 j27 j28 j29 j30 j31) Kc) (hno:asks op = none → ∀ s:S,s.o = [.mp 3 es,.box [.d (.sc (.int .u8 op)),.d (.sc (.string nm)),.d (.sc (.int .i64 n)),.d (.sl 4 K)]] → getN s.t 6 = vb false → Kc .ret s):∀ qa qb qc qd qe qg qh qi qj qk ql qm qo qp qq qt qu qv qw qx qy qz va vc vd ve vf vg vh vj vk vl vm vn vo vp vq vr vt vu vv vw vx,Ar.mk qa qb qc qd qe qg qh qi qj qk ql qm qo qp qq qt qu qv qw qx qy qz va vc vd ve vf vg vh vj vk vl vm vn vo vp vq vr vt vu vv vw vx = real →
  exec (Ar.mk qa qb qc qd qe qg qh qi qj qk ql qm qo qp qq qt qu qv qw qx qy qz va vc vd ve vf vg vh vj vk vl vm vn vo vp vq vr vt vu vv vw vx) (.seq (seqL2 (Tryz.f44.body.getD .skip)) (.seq (seqL2 (seqR2 (Tryz.f44.body.getD .skip))) (.seq (seqL2 (seqR2 (seqR2 (Tryz.f44.body.getD .skip)))) (.seq (seqL2 (seqR2 (seqR2 (seqR2 (Tryz.f44.body.getD .skip))))) r))))
   (startO [.mp 0,.ag [.d (.sc (.int .u8 op)),.d (.sc (.string nm)),.d (.sc (.int .i64 n)),.d (.sl 4 K)],vb row] [.mp 3 es] (Tryz.f44.ntmps - lenL [V.mp 0,.ag [.d (.sc (.int .u8 op)),.d (.sc (.string nm)),.d (.sc (.int .i64 n)),.d (.sl 4 K)],vb row])) Kc:=by
 intro qa qb qc qd qe qg qh qi qj qk ql qm qo qp qq qt qu qv qw qx qy qz va vc vd ve vf vg vh vj vk vl vm vn vo vp vq vr vt vu vv vw vx hA
 obtain ⟨e1,e2,e3,e4,e5,e6,e7,e8,e9⟩:=ar_at hA
 have hq:∀ i:Int,qk op i = decide (op = i):=fun i=>e9 op i
 have key:∀ kn a b,asks op = some (kn,a,b) → ∀ j12 j13 j14 j15 j16 j17 j18 j19 j20 j21 j22 j23 j24 j25 j26 j27 j28 j29 j30 j31,exec (Ar.mk qa qb qc qd qe qg qh qi qj qk ql qm qo qp qq qt qu qv qw qx qy qz va vc vd ve vf vg vh vj vk vl vm vn vo vp vq vr vt vu vv vw vx) r (rtS op nm n K row es kn a b j12 j13 j14 j15 j16 j17 j18 j19 j20 j21 j22 j23 j24 j25 j26 j27 j28 j29 j30 j31) Kc:=fun kn a b h=>by rw [hA];exact hgo kn a b h
 clear hgo
 cbv
 repeat ((with_reducible apply next_at hA);cbv)
 cases q1:qk op 1
 rotate_left
 ·have hop:op = 1:=by rw [hq] at q1;exact of_decide_eq_true q1
  have hk:=key 0 false false (by rw [hop];rfl)
  unfold exec at hk
  cbv
  repeat ((with_reducible apply next_at hA);cbv)
  exact hk _ _ _ _ _ _ _ _ _ _ _ _ _ _ _ _ _ _ _ _
 cbv
 repeat ((with_reducible apply next_at hA);cbv)
 cases q2:qk op 2
 rotate_left
 ·have hop:op = 2:=by rw [hq] at q2;exact of_decide_eq_true q2
  have hk:=key 0 false false (by rw [hop];rfl)
  unfold exec at hk
  cbv
  repeat ((with_reducible apply next_at hA);cbv)
  exact hk _ _ _ _ _ _ _ _ _ _ _ _ _ _ _ _ _ _ _ _
 cbv
 repeat ((with_reducible apply next_at hA);cbv)
 cases q3:qk op 3
 rotate_left
 ·have hop:op = 3:=by rw [hq] at q3;exact of_decide_eq_true q3
  have hk:=key 0 false false (by rw [hop];rfl)
  unfold exec at hk
  cbv
  repeat ((with_reducible apply next_at hA);cbv)
  exact hk _ _ _ _ _ _ _ _ _ _ _ _ _ _ _ _ _ _ _ _
 cbv
 repeat ((with_reducible apply next_at hA);cbv)
 cases q4:qk op 4
 rotate_left
 ·have hop:op = 4:=by rw [hq] at q4;exact of_decide_eq_true q4
  have hk:=key 2 false false (by rw [hop];rfl)
  unfold exec at hk
  cbv
  repeat ((with_reducible apply next_at hA);cbv)
  exact hk _ _ _ _ _ _ _ _ _ _ _ _ _ _ _ _ _ _ _ _
 cbv
 repeat ((with_reducible apply next_at hA);cbv)
 cases q5:qk op 5
 rotate_left
 ·have hop:op = 5:=by rw [hq] at q5;exact of_decide_eq_true q5
  have hk:=key 1 false false (by rw [hop];rfl)
  unfold exec at hk
  cbv
  repeat ((with_reducible apply next_at hA);cbv)
  exact hk _ _ _ _ _ _ _ _ _ _ _ _ _ _ _ _ _ _ _ _
 cbv
 repeat ((with_reducible apply next_at hA);cbv)
 cases q6:qk op 6
 rotate_left
 ·have hop:op = 6:=by rw [hq] at q6;exact of_decide_eq_true q6
  have hk:=key 1 false false (by rw [hop];rfl)
  unfold exec at hk
  cbv
  repeat ((with_reducible apply next_at hA);cbv)
  exact hk _ _ _ _ _ _ _ _ _ _ _ _ _ _ _ _ _ _ _ _
 cbv
 repeat ((with_reducible apply next_at hA);cbv)
 cases q7:qk op 7
 rotate_left
 ·have hop:op = 7:=by rw [hq] at q7;exact of_decide_eq_true q7
  have hk:=key 0 false true (by rw [hop];rfl)
  unfold exec at hk
  cbv
  repeat ((with_reducible apply next_at hA);cbv)
  exact hk _ _ _ _ _ _ _ _ _ _ _ _ _ _ _ _ _ _ _ _
 cbv
 repeat ((with_reducible apply next_at hA);cbv)
 cases q8:qk op 8
 rotate_left
 ·have hop:op = 8:=by rw [hq] at q8;exact of_decide_eq_true q8
  have hk:=key 0 false false (by rw [hop];rfl)
  unfold exec at hk
  cbv
  repeat ((with_reducible apply next_at hA);cbv)
  exact hk _ _ _ _ _ _ _ _ _ _ _ _ _ _ _ _ _ _ _ _
 cbv
 repeat ((with_reducible apply next_at hA);cbv)
 cases q9:qk op 9
 rotate_left
 ·have hop:op = 9:=by rw [hq] at q9;exact of_decide_eq_true q9
  have hk:=key 0 false false (by rw [hop];rfl)
  unfold exec at hk
  cbv
  repeat ((with_reducible apply next_at hA);cbv)
  exact hk _ _ _ _ _ _ _ _ _ _ _ _ _ _ _ _ _ _ _ _
 cbv
 repeat ((with_reducible apply next_at hA);cbv)
 cases q10:qk op 10
 rotate_left
 ·have hop:op = 10:=by rw [hq] at q10;exact of_decide_eq_true q10
  have hk:=key 0 false true (by rw [hop];rfl)
  unfold exec at hk
  cbv
  repeat ((with_reducible apply next_at hA);cbv)
  exact hk _ _ _ _ _ _ _ _ _ _ _ _ _ _ _ _ _ _ _ _
 cbv
 repeat ((with_reducible apply next_at hA);cbv)
 cases q11:qk op 11
 rotate_left
 ·have hop:op = 11:=by rw [hq] at q11;exact of_decide_eq_true q11
  have hk:=key 2 true false (by rw [hop];rfl)
  unfold exec at hk
  cbv
  repeat ((with_reducible apply next_at hA);cbv)
  exact hk _ _ _ _ _ _ _ _ _ _ _ _ _ _ _ _ _ _ _ _
 cbv
 repeat ((with_reducible apply next_at hA);cbv)
 have hn:asks op = none:=by
  rw [hq] at q1 q2 q3 q4 q5 q6 q7 q8 q9 q10 q11
  have p1:=of_decide_eq_false q1
  have p2:=of_decide_eq_false q2
  have p3:=of_decide_eq_false q3
  have p4:=of_decide_eq_false q4
  have p5:=of_decide_eq_false q5
  have p6:=of_decide_eq_false q6
  have p7:=of_decide_eq_false q7
  have p8:=of_decide_eq_false q8
  have p9:=of_decide_eq_false q9
  have p10:=of_decide_eq_false q10
  have p11:=of_decide_eq_false q11
  unfold asks
  simp [p1,p2,p3,p4,p5,p6,p7,p8,p9,p10,p11]
 exact hno hn _ rfl rfl
end Go.Proofs.YtahpnackkmbmgaaGreatDoor.Vm
end

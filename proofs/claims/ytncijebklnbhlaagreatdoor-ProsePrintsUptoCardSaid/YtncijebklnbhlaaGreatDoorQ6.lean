/- Part 6 of the proof. Conditions: none. -/
import Derived.Test.YtncijebklnbhlaaGreatDoorQ4
import Derived.Test.YtncijebklnbhlaaGreatDoorQ5
set_option linter.all false
set_option linter.unusedVariables false
set_option linter.unusedSimpArgs false
section
namespace Go.Proofs.YtncijebklnbhlaaGreatDoor.Vm
open Go.RowKit
set_option maxRecDepth 100000
set_option maxHeartbeats 4000000
theorem b9f (t:Ty) (hN:t.parts.length<=1048576):j5 52 [.ag (cT t)] [.one (.sc (.bool (a0B t)))]:=by
 have hP:=a8I t hN;obtain⟨P,hPP⟩:∃P,P=t.parts:=⟨_,rfl⟩;generalize hb:a0B t=b;unfold a0B at hb;rw[<-hPP] at hP hb hN;obtain⟨c0,c1,c2,c3,hc⟩:∃c0 c1 c2 c3,cT t=[c0,c1,c2,c3]:=by obtain⟨op,nm,n,ks⟩:=t;exact⟨_,_,_,_,by rw[cT]⟩
 rw[hc] at hP ⊢;obtain⟨L,hL⟩:∃L,L=rT P:=⟨_,rfl⟩;rw[<-hL] at hP;refine C2 Tryz.func52 rfl ?_;intro qa qb _ _ _ _ _ qh _ qj _ _ _ _ _ _ _ _ _ _ _ _ qz va;intros;rename_i hA;cbv;refine gn ?_;refine j3 hA _ hP ?_ ?_
 ·rfl
 cbv;refine gn ?_;obtain⟨e1,e2,e3,e4,e5,e6,e7,e8,e9⟩:=l7 hA;obtain⟨r1,r2,-⟩:=n8 hA;refine o5 hA (γ:=Int) (λz=>[(4,vi .i64 z)]) (λ_=>[]) (λz=>∃k:Nat,z=(k:Int)/\k<=P.length/\((P.drop k).all λx=>P.all λy=>!W6 x y)=b) (λz=>P.length - z.toNat) 0 ?_ ?_ ?_
 ·exact⟨0,rfl,Nat.zero_le _,hb⟩
 ·cbv
 ·intro z hinv;cbv;refine gn ?_;obtain⟨k,hz,hk,hE⟩:=hinv;replace hz:z=(k:Int):=hz;have hlen:qz L=((P.length:Nat):Int):=by rw[r1,hL,L4]
  have hlt:qh z (qz L)=decide (k<P.length):=by rw[e7,hlen,hz];exact decide_eq_decide.2 (by omega)
  by_cases h9:k<P.length
  ·rw[decide_eq_true h9] at hlt;obtain⟨x,hx⟩:∃x,P[k]?=some x:=⟨_,List.getElem?_eq_getElem h9⟩;have d1:P.drop k=x::P.drop (k+1):=by obtain⟨hi,e⟩:=List.getElem?_eq_some_iff.1 hx;rw[List.drop_eq_getElem_cons hi,e]
   rw[d1,List.all_cons] at hE;have g1:va L z=some (cT x):=by rw[r2,hz,if_pos (by omega),hL];exact a0L hx
   have hz1:qa .i64 (qb z 1)=((k+1:Nat):Int):=by rw[e1,e2,hz,IntWalk.i64_in _ (by omega)];omega
   have hm:P.length - (qa .i64 (qb z 1)).toNat<P.length - z.toNat:=by rw[hz1,hz];omega
   have hxo:qj x.op 7=(x.op == 7):=e9 _ _;obtain⟨o1,m1,n1,l1⟩:=x;rw[cT] at g1;simp only[Ty.op] at hxo;generalize rT l1=L1 at *;rw[hlt];cbv;refine gn ?_;refine o5 hA (γ:=Int) (λy=>[(5,vi .i64 y)]) (λ_=>[]) (λy=>∃j:Nat,y=(j:Int)/\j<=P.length/\(((P.drop j).all λy=>!W6 (.mk o1 m1 n1 l1) y) && ((P.drop (k+1)).all λx=>P.all λy=>!W6 x y))=b) (λy=>P.length - y.toNat) 0 ?_ ?_ ?_
   ·exact⟨0,rfl,Nat.zero_le _,hE⟩
   ·cbv
   ·intro y hinv2;cbv;refine gn ?_;obtain⟨j,hy,hj,hE2⟩:=hinv2;replace hy:y=(j:Int):=hy;replace hlen:qz L=((P.length:Nat):Int):=hlen;have hlt2:qh y (qz L)=decide (j<P.length):=by rw[e7,hlen,hy];exact decide_eq_decide.2 (by omega)
    by_cases h8:j<P.length
    ·rw[decide_eq_true h8] at hlt2;obtain⟨v,hv⟩:∃v,P[j]?=some v:=⟨_,List.getElem?_eq_getElem h8⟩;have d2:P.drop j=v::P.drop (j+1):=by obtain⟨hi,e⟩:=List.getElem?_eq_some_iff.1 hv;rw[List.drop_eq_getElem_cons hi,e]
     rw[d2,List.all_cons] at hE2;have g2:va L y=some (cT v):=by rw[r2,hy,if_pos (by omega),hL];exact a0L hv
     have hy1:qa .i64 (qb y 1)=((j+1:Nat):Int):=by rw[e1,e2,hy,IntWalk.i64_in _ (by omega)];omega
     have hm2:P.length - (qa .i64 (qb y 1)).toNat<P.length - y.toNat:=by rw[hy1,hy];omega
     obtain⟨o2,m2,n2,l2⟩:=v;rw[cT] at g2;generalize rT l2=L2 at *;have hcl:W6 (.mk o1 m1 n1 l1) (.mk o2 m2 n2 l2)=(qj o1 7 && (qj o2 10 && qj n1 n2)):=by rw[e9,e9,e9];rfl
     rw[hcl] at hE2;rw[hlt2];cbv;refine gn ?_;rw[g1];cbv;cases q7:qj o1 7
     ·rw[q7] at hE2;cbv;refine gn ?_;exact⟨_,⟨j+1,hy1,h8,hE2⟩,hm2,by cbv⟩
     ·rw[q7] at hE2;cbv;refine gn ?_;rw[g2];cbv;cases q10:qj o2 10
      ·rw[q10] at hE2;cbv;refine gn ?_;exact⟨_,⟨j+1,hy1,h8,hE2⟩,hm2,by cbv⟩
      ·rw[q10] at hE2;cbv;refine gn ?_
       try (rw[g1];cbv)
       try (rw[g2];cbv)
       cases qn:qj n1 n2
       ·rw[qn] at hE2;cbv;refine gn ?_;exact⟨_,⟨j+1,hy1,h8,hE2⟩,hm2,by cbv⟩
       ·rw[qn] at hE2;cbv;refine gn ?_;exact F0 hE2
    ·rw[decide_eq_false h8] at hlt2;rw[List.drop_eq_nil_of_le (by omega)] at hE2;rw[hlt2];cbv;refine gn ?_;exact⟨_,⟨k+1,hz1,h9,hE2⟩,hm,by cbv⟩
  ·rw[decide_eq_false h9] at hlt;rw[List.drop_eq_nil_of_le (by omega)] at hE;rw[hlt];cbv;refine gn ?_;exact F0 hE
def x9 (t:Ty) (s:Int):Bool:=m8 r5 t s && a0B t
theorem b7i (t:Ty) (hN:t.parts.length<=1048576) (hnm:∀x∈t.parts,x.name.size<=1048576):j5 32 [.ag (cT t)] [.one (.sc (.bool (x9 t 116)))]:=by
 have h1:=b7h t 116 hN hnm;have h2:=b9f t hN;generalize hb:x9 t 116=b;unfold x9 at hb;generalize m8 r5 t 116=q1 at *;generalize a0B t=q2 at *;obtain⟨c0,c1,c2,c3,hc⟩:∃c0 c1 c2 c3,cT t=[c0,c1,c2,c3]:=by obtain⟨op,nm,n,ks⟩:=t;exact⟨_,_,_,_,by rw[cT]⟩
 rw[hc] at h1 h2 ⊢;refine C2 Tryz.func32 rfl ?_;intros;rename_i hA;cbv;refine gn ?_;refine j3 hA _ h1 ?_ ?_
 ·rfl
 cases q1
 ·cbv;refine gn ?_;exact F0 hb
 ·cbv;refine gn ?_;refine j3 hA _ h2 ?_ ?_
  ·rfl
  cbv;refine gn ?_;exact F0 hb
def ik (n:Int):R:=.one (.sc (.int .i64 n))
def a3M (es:List (R×R)):Prop:=∀p∈es,∃m,p.1=ik m
theorem a8J (m n:Int):rEq (ik m) (ik n)=(m == n):=a32 m n
theorem a7J (n x:Int) (q:R):∀(es:List (R×R)),a3M es->a2A (a0E es (ik n) q) (ik x)=if x=n then some q else a2A es (ik x)
 | [],_=>by
  rw[a0E];show (match rEq (ik n) (ik x) with|true=>some q|false=>a2A [] (ik x))=_;rw[a8J]
  by_cases h:x=n
  ·subst h;simp
  ·rw[if_neg h,beq_eq_false_iff_ne.2 (λe=>h e.symm)]
 | (k,v)::es,h=>by
  obtain⟨m,hm⟩:=h _ (List.mem_cons_self ..);simp only at hm;subst hm;have ih:=a7J n x q es λp hp=>h p (List.mem_cons_of_mem _ hp)
  rw[a0E,a8J]
  by_cases hmn:m=n
  ·subst hmn;simp only[beq_self_eq_true];rw[a2A,a2A,a8J]
   by_cases h:x=m
   ·subst h;simp
   ·rw[if_neg h,beq_eq_false_iff_ne.2 (λe=>h e.symm)]
  ·rw[beq_eq_false_iff_ne.2 hmn];simp only;rw[a2A,a2A,a8J,ih]
   by_cases h:m=x
   ·subst h;simp[hmn]
   ·rw[beq_eq_false_iff_ne.2 h]
theorem a9O {es:List (R×R)} (h:a3M es) (n:Int) (q:R):a3M (a0E es (ik n) q):=by
 induction es with
 | nil=>intro p hp;rw[a0E] at hp;simp at hp;subst hp;exact⟨n,rfl⟩
 | cons e es ih =>
  obtain⟨k,v⟩:=e;intro p hp;rw[a0E] at hp
  split at hp
  ·rcases List.mem_cons.1 hp with rfl|hp
   ·exact h (k,v) (List.mem_cons_self ..)
   ·exact h p (List.mem_cons_of_mem _ hp)
  ·rcases List.mem_cons.1 hp with rfl|hp
   ·exact h (k,v) (List.mem_cons_self ..)
   ·exact ih (λp hp=>h p (List.mem_cons_of_mem _ hp)) p hp
def SAt (es:List (R×R)) (s:Int->Option Bool):Prop:=a3M es/\∀n,a2A es (ik n)=(s n).map λb=>R.one (.sc (.bool b))
theorem SAt.set {es:List (R×R)} {s:Int->Option Bool} (h:SAt es s) (n:Int) (b:Bool):SAt (a0E es (ik n) (.one (.sc (.bool b)))) (a6x s n b):=by
 refine⟨a9O h.1 n _,λx=>?_⟩;rw[a7J n x _ es h.1];unfold a6x
 by_cases hx:x=n
 ·rw[if_pos hx,if_pos hx];rfl
 ·rw[if_neg hx,if_neg hx];exact h.2 x
theorem SAt.nil:SAt [] λ_=>none:=⟨λp hp=>by simp at hp,λn=>rfl⟩
def c14:Option Bool->Bool->Bool
 | none,_=>true
 | some b,row=>bEq b row
theorem b9g (es:List (R×R)) (n:Int) (row:Bool) (o:Option Bool) (ho:a2A es (ik n)=o.map λb=>R.one (.sc (.bool b))) :
  B0 85 [.mp 0,vi .i64 n,vb row] [.mp 3 es] (λres os2=>res=[vb (c14 o row)]/\os2=[.mp 3 (a0E es (ik n) (.one (.sc (.bool row))))]):=by
 obtain⟨es2,h2⟩:∃e,e=a0E es (ik n) (.one (.sc (.bool row))):=⟨_,rfl⟩;rw[<-h2];refine so9 Tryz.func85 rfl ?_;intro _ _ _ _ _ _ _ _ _ _ _ _ _ _ _ _ _ _ _ _ _ _ _ _ _ _ _ _ vg vh;intros;rename_i hA;cbv;refine gn ?_;obtain⟨m1,m2,-⟩:=a2a hA;have hl:vg es (ik n)=o.map λb=>R.one (.sc (.bool b)):=by rw[m1,ho]
 have hp:vh es (ik n) (.one (.sc (.bool row)))=es2:=by rw[m2,h2]
 unfold ik at hl hp;rw[hl];cases o with
 | none =>
  cbv;refine gn ?_;rw[hp];refine r7 hA [0] ⟨rfl,rfl,rfl,rfl,rfl,rfl,rfl,rfl⟩ ⟨rfl,rfl⟩
 | some b =>
  cases b <;> cases row
  all_goals
   cbv;refine gn ?_;rw[hp];exact r7 hA [0] ⟨rfl,rfl,rfl,rfl,rfl,rfl,rfl,rfl⟩ ⟨rfl,rfl⟩
def sI (row:Bool):Int:=match row with|true=>114|false=>116
def a8K (op:Int):Option (Int×Bool×Bool):=if op=1\/op=2\/op=3 then some (0,false,false) else if op=4 then some (2,false,false) else if op=5\/op=6 then some (1,false,false) else if op=7 then some (0,false,true)
 else if op=8\/op=9 then some (0,false,false) else if op=10 then some (0,false,true) else if op=11 then some (2,true,false) else none
def a44 (b:Bool) (F:Option (Int->Option Bool)) (res:List V) (os2:List O):Prop:=∃es',os2=[.mp 3 es']/\a3M es'/\res=[vb b]/\(b=true->∀s',F=some s'->SAt es' s')
def rtS (op:Int) (nm:ByteArray) (n:Int) (K:List (List D)) (row:Bool) (es:List (R×R)) (kn:Int) (named numbered:Bool) (j12 j13 j14 j15 j16 j17 j18 j19 j20 j21 j22 j23 j24 j25 j26 j27 j28 j29 j30 j31:V):S :=
 ⟨[.mp 0,.ag [.d (.sc (.int .u8 op)),.d (.sc (.string nm)),.d (.sc (.int .i64 n)),.d (.sl 4 K)],vb row,.tu [],.ptr 1 0,.tu [],vb false,vi .i64 kn,vb named,vb numbered,.tu [],.tu [],j12,j13,j14,j15,j16,j17,j18,j19,j20,j21,j22,j23,j24,j25,j26,j27,j28,j29,j30,j31]++uns 81,
  [.mp 3 es,.box [.d (.sc (.int .u8 op)),.d (.sc (.string nm)),.d (.sc (.int .i64 n)),.d (.sl 4 K)]]⟩
theorem b33 (op:Int) (nm:ByteArray) (n:Int) (K:List (List D)) (row:Bool) (es:List (R×R)) (r:Code) (Kc:X->S->Prop) (hgo:∀kn a b,a8K op=some (kn,a,b)->∀j12 j13 j14 j15 j16 j17 j18 j19 j20 j21 j22 j23 j24 j25 j26 j27 j28 j29 j30 j31,B7 j1 r (rtS op nm n K row es kn a b j12 j13 j14 j15 j16 j17 j18 j19 j20 j21 j22 j23 j24 j25 j26 j27 j28 j29 j30 j31) Kc) (hno:a8K op=none->∀s:S,s.o=[.mp 3 es,.box [.d (.sc (.int .u8 op)),.d (.sc (.string nm)),.d (.sc (.int .i64 n)),.d (.sl 4 K)]]->o6 s.t 6=vb false->Kc .ret s):∀qa qb qc qd qe qf qg qh qi qj qk ql qm qo qp qq qt qu qv qw qx qy qz va vc vd ve vf vg vh vj vk vl vm vn vo vp vq vr vt vu vv vw,Ar.mk qa qb qc qd qe qf qg qh qi qj qk ql qm qo qp qq qt qu qv qw qx qy qz va vc vd ve vf vg vh vj vk vl vm vn vo vp vq vr vt vu vv vw=j1 ->
  B7 (Ar.mk qa qb qc qd qe qf qg qh qi qj qk ql qm qo qp qq qt qu qv qw qx qy qz va vc vd ve vf vg vh vj vk vl vm vn vo vp vq vr vt vu vv vw) (.seq (I7 (Tryz.f70.body.getD .skip)) (.seq (I7 (m7 (Tryz.f70.body.getD .skip))) (.seq (I7 (m7 (m7 (Tryz.f70.body.getD .skip)))) (.seq (I7 (m7 (m7 (m7 (Tryz.f70.body.getD .skip))))) r))))
   (a8D [.mp 0,.ag [.d (.sc (.int .u8 op)),.d (.sc (.string nm)),.d (.sc (.int .i64 n)),.d (.sl 4 K)],vb row] [.mp 3 es] (Tryz.f70.ntmps - G5 [V.mp 0,.ag [.d (.sc (.int .u8 op)),.d (.sc (.string nm)),.d (.sc (.int .i64 n)),.d (.sl 4 K)],vb row])) Kc:=by
 intro qa qb qc qd qe qf qg qh qi qj qk ql qm qo qp qq qt qu qv qw qx qy qz va vc vd ve vf vg vh vj vk vl vm vn vo vp vq vr vt vu vv vw hA;obtain⟨e1,e2,e3,e4,e5,e6,e7,e8,e9⟩:=l7 hA;have hq:∀i:Int,qj op i=decide (op=i):=λi=>e9 op i
 have key:∀kn a b,a8K op=some (kn,a,b)->∀j12 j13 j14 j15 j16 j17 j18 j19 j20 j21 j22 j23 j24 j25 j26 j27 j28 j29 j30 j31,B7 (Ar.mk qa qb qc qd qe qf qg qh qi qj qk ql qm qo qp qq qt qu qv qw qx qy qz va vc vd ve vf vg vh vj vk vl vm vn vo vp vq vr vt vu vv vw) r (rtS op nm n K row es kn a b j12 j13 j14 j15 j16 j17 j18 j19 j20 j21 j22 j23 j24 j25 j26 j27 j28 j29 j30 j31) Kc:=λkn a b h=>by rw[hA];exact hgo kn a b h
 clear hgo;cbv
 repeat ((with_reducible apply j2 hA);cbv)
 cases q1:qj op 1
 rotate_left
 ·have hop:op=1:=by rw[hq] at q1;exact of_decide_eq_true q1
  have hk:=key 0 false false (by rw[hop];rfl);unfold B7 at hk;cbv
  repeat ((with_reducible apply j2 hA);cbv)
  exact hk _ _ _ _ _ _ _ _ _ _ _ _ _ _ _ _ _ _ _ _
 cbv
 repeat ((with_reducible apply j2 hA);cbv)
 cases q2:qj op 2
 rotate_left
 ·have hop:op=2:=by rw[hq] at q2;exact of_decide_eq_true q2
  have hk:=key 0 false false (by rw[hop];rfl);unfold B7 at hk;cbv
  repeat ((with_reducible apply j2 hA);cbv)
  exact hk _ _ _ _ _ _ _ _ _ _ _ _ _ _ _ _ _ _ _ _
 cbv
 repeat ((with_reducible apply j2 hA);cbv)
 cases q3:qj op 3
 rotate_left
 ·have hop:op=3:=by rw[hq] at q3;exact of_decide_eq_true q3
  have hk:=key 0 false false (by rw[hop];rfl);unfold B7 at hk;cbv
  repeat ((with_reducible apply j2 hA);cbv)
  exact hk _ _ _ _ _ _ _ _ _ _ _ _ _ _ _ _ _ _ _ _
 cbv
 repeat ((with_reducible apply j2 hA);cbv)
 cases q4:qj op 4
 rotate_left
 ·have hop:op=4:=by rw[hq] at q4;exact of_decide_eq_true q4
  have hk:=key 2 false false (by rw[hop];rfl);unfold B7 at hk;cbv
  repeat ((with_reducible apply j2 hA);cbv)
  exact hk _ _ _ _ _ _ _ _ _ _ _ _ _ _ _ _ _ _ _ _
 cbv
 repeat ((with_reducible apply j2 hA);cbv)
 cases q5:qj op 5
 rotate_left
 ·have hop:op=5:=by rw[hq] at q5;exact of_decide_eq_true q5
  have hk:=key 1 false false (by rw[hop];rfl);unfold B7 at hk;cbv
  repeat ((with_reducible apply j2 hA);cbv)
  exact hk _ _ _ _ _ _ _ _ _ _ _ _ _ _ _ _ _ _ _ _
 cbv
 repeat ((with_reducible apply j2 hA);cbv)
 cases q6:qj op 6
 rotate_left
 ·have hop:op=6:=by rw[hq] at q6;exact of_decide_eq_true q6
  have hk:=key 1 false false (by rw[hop];rfl);unfold B7 at hk;cbv
  repeat ((with_reducible apply j2 hA);cbv)
  exact hk _ _ _ _ _ _ _ _ _ _ _ _ _ _ _ _ _ _ _ _
 cbv
 repeat ((with_reducible apply j2 hA);cbv)
 cases q7:qj op 7
 rotate_left
 ·have hop:op=7:=by rw[hq] at q7;exact of_decide_eq_true q7
  have hk:=key 0 false true (by rw[hop];rfl);unfold B7 at hk;cbv
  repeat ((with_reducible apply j2 hA);cbv)
  exact hk _ _ _ _ _ _ _ _ _ _ _ _ _ _ _ _ _ _ _ _
 cbv
 repeat ((with_reducible apply j2 hA);cbv)
 cases q8:qj op 8
 rotate_left
 ·have hop:op=8:=by rw[hq] at q8;exact of_decide_eq_true q8
  have hk:=key 0 false false (by rw[hop];rfl);unfold B7 at hk;cbv
  repeat ((with_reducible apply j2 hA);cbv)
  exact hk _ _ _ _ _ _ _ _ _ _ _ _ _ _ _ _ _ _ _ _
 cbv
 repeat ((with_reducible apply j2 hA);cbv)
 cases q9:qj op 9
 rotate_left
 ·have hop:op=9:=by rw[hq] at q9;exact of_decide_eq_true q9
  have hk:=key 0 false false (by rw[hop];rfl);unfold B7 at hk;cbv
  repeat ((with_reducible apply j2 hA);cbv)
  exact hk _ _ _ _ _ _ _ _ _ _ _ _ _ _ _ _ _ _ _ _
 cbv
 repeat ((with_reducible apply j2 hA);cbv)
 cases q10:qj op 10
 rotate_left
 ·have hop:op=10:=by rw[hq] at q10;exact of_decide_eq_true q10
  have hk:=key 0 false true (by rw[hop];rfl);unfold B7 at hk;cbv
  repeat ((with_reducible apply j2 hA);cbv)
  exact hk _ _ _ _ _ _ _ _ _ _ _ _ _ _ _ _ _ _ _ _
 cbv
 repeat ((with_reducible apply j2 hA);cbv)
 cases q11:qj op 11
 rotate_left
 ·have hop:op=11:=by rw[hq] at q11;exact of_decide_eq_true q11
  have hk:=key 2 true false (by rw[hop];rfl);unfold B7 at hk;cbv
  repeat ((with_reducible apply j2 hA);cbv)
  exact hk _ _ _ _ _ _ _ _ _ _ _ _ _ _ _ _ _ _ _ _
 cbv
 repeat ((with_reducible apply j2 hA);cbv)
 have hn:a8K op=none:=by
  rw[hq] at q1 q2 q3 q4 q5 q6 q7 q8 q9 q10 q11;have p1:=of_decide_eq_false q1;have p2:=of_decide_eq_false q2;have p3:=of_decide_eq_false q3;have p4:=of_decide_eq_false q4;have p5:=of_decide_eq_false q5;have p6:=of_decide_eq_false q6;have p7:=of_decide_eq_false q7;have p8:=of_decide_eq_false q8;have p9:=of_decide_eq_false q9;have p10:=of_decide_eq_false q10;have p11:=of_decide_eq_false q11;unfold a8K
  simp[p1,p2,p3,p4,p5,p6,p7,p8,p9,p10,p11]
 exact hno hn _ rfl rfl
end Go.Proofs.YtncijebklnbhlaaGreatDoor.Vm
end

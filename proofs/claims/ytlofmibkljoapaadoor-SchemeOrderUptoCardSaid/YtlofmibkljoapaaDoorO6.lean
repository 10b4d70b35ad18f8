/- Part 6 of the proof. Conditions: none. -/
import Derived.Test.YtlofmibkljoapaaDoorO4
import Derived.Test.YtlofmibkljoapaaDoorO5
import Derived.Test.YtlofmibkljoapaaDoorO0
set_option linter.all false
set_option linter.unusedVariables false
set_option linter.unusedSimpArgs false
section
namespace Go.Proofs.YtlofmibkljoapaaDoor.Vm
open Go.RowKit
set_option maxRecDepth 100000
set_option maxHeartbeats 4000000
theorem c07 (t:Ty) (hN:t.parts.length<=1048576):m6 22 [.ag (cT t)] [.one (.sc (.bool (M6 t)))]:=by
 have hP:=a9L t hN;obtain⟨P,hPP⟩:∃P,P=t.parts:=⟨_,rfl⟩;generalize hb:M6 t=b;unfold M6 at hb;rw[<-hPP] at hP hb hN;obtain⟨c0,c1,c2,c3,hc⟩:∃c0 c1 c2 c3,cT t=[c0,c1,c2,c3]:=by obtain⟨op,nm,n,ks⟩:=t;exact⟨_,_,_,_,by rw[cT]⟩
 rw[hc] at hP ⊢;obtain⟨L,hL⟩:∃L,L=rT P:=⟨_,rfl⟩;rw[<-hL] at hP;refine Y8 Tryd.func22 rfl ?_;intro qa qb _ _ _ _ _ qh _ qj _ _ _ _ _ _ _ _ _ _ _ _ qy qz;intros;rename_i hA;cbv;refine gn ?_;refine b9 hA _ hP ?_ ?_
 ·rfl
 cbv;refine gn ?_;obtain⟨e1,e2,e3,e4,e5,e6,e7,e8,e9⟩:=j8 hA;obtain⟨r1,r2,-⟩:=n9 hA;refine l9 hA (γ:=Int) (λz=>[(4,vi .i64 z)]) (λ_=>[]) (λz=>∃k:Nat,z=(k:Int)/\k<=P.length/\((P.drop k).all λx=>P.all λy=>!B9 x y)=b) (λz=>P.length - z.toNat) 0 ?_ ?_ ?_
 ·exact⟨0,rfl,c3d _,hb⟩
 ·cbv
 ·intro z hinv;cbv;refine gn ?_;obtain⟨k,hz,hk,hE⟩:=hinv;replace hz:z=(k:Int):=hz;have hlen:qy L=((P.length:Nat):Int):=by rw[r1,hL,E8]
  have hlt:qh z (qy L)=decide (k<P.length):=by rw[e7,hlen,hz];exact c2Q.2 (by omega)
  by_cases h9:k<P.length
  ·rw[c2J h9] at hlt;obtain⟨x,hx⟩:∃x,P[k]?=some x:=⟨_,c28 h9⟩;have d1:P.drop k=x::P.drop (k+1):=by obtain⟨hi,e⟩:=c25.1 hx;rw[c2X hi,e]
   rw[d1,List.all_cons] at hE;have g1:qz L z=some (cT x):=by rw[r2,hz,c2E (by omega),hL];exact a04 hx
   have hz1:qa .i64 (qb z 1)=((k+1:Nat):Int):=by rw[e1,e2,hz,IntWalk.i64_in _ (by omega)];omega
   have hm:P.length - (qa .i64 (qb z 1)).toNat<P.length - z.toNat:=by rw[hz1,hz];omega
   have hxo:qj x.op 7=(x.op == 7):=e9 _ _;obtain⟨o1,m1,n1,l1⟩:=x;rw[cT] at g1;simp only[Ty.op] at hxo;generalize rT l1=L1 at *;rw[hlt];cbv;refine gn ?_;refine l9 hA (γ:=Int) (λy=>[(5,vi .i64 y)]) (λ_=>[]) (λy=>∃j:Nat,y=(j:Int)/\j<=P.length/\(((P.drop j).all λy=>!B9 (.mk o1 m1 n1 l1) y) && ((P.drop (k+1)).all λx=>P.all λy=>!B9 x y))=b) (λy=>P.length - y.toNat) 0 ?_ ?_ ?_
   ·exact⟨0,rfl,c3d _,hE⟩
   ·cbv
   ·intro y hinv2;cbv;refine gn ?_;obtain⟨j,hy,hj,hE2⟩:=hinv2;replace hy:y=(j:Int):=hy;replace hlen:qy L=((P.length:Nat):Int):=hlen;have hlt2:qh y (qy L)=decide (j<P.length):=by rw[e7,hlen,hy];exact c2Q.2 (by omega)
    by_cases h8:j<P.length
    ·rw[c2J h8] at hlt2;obtain⟨v,hv⟩:∃v,P[j]?=some v:=⟨_,c28 h8⟩;have d2:P.drop j=v::P.drop (j+1):=by obtain⟨hi,e⟩:=c25.1 hv;rw[c2X hi,e]
     rw[d2,List.all_cons] at hE2;have g2:qz L y=some (cT v):=by rw[r2,hy,c2E (by omega),hL];exact a04 hv
     have hy1:qa .i64 (qb y 1)=((j+1:Nat):Int):=by rw[e1,e2,hy,IntWalk.i64_in _ (by omega)];omega
     have hm2:P.length - (qa .i64 (qb y 1)).toNat<P.length - y.toNat:=by rw[hy1,hy];omega
     obtain⟨o2,m2,n2,l2⟩:=v;rw[cT] at g2;generalize rT l2=L2 at *;have hcl:B9 (.mk o1 m1 n1 l1) (.mk o2 m2 n2 l2)=(qj o1 7 && (qj o2 10 && qj n1 n2)):=by rw[e9,e9,e9];rfl
     rw[hcl] at hE2;rw[hlt2];cbv;refine gn ?_;rw[g1];cbv;cases q7:qj o1 7
     ·rw[q7] at hE2;cbv;refine gn ?_;exact⟨_,⟨j+1,hy1,h8,hE2⟩,hm2,by cbv⟩
     ·rw[q7] at hE2;cbv;refine gn ?_;rw[g2];cbv;cases q10:qj o2 10
      ·rw[q10] at hE2;cbv;refine gn ?_;exact⟨_,⟨j+1,hy1,h8,hE2⟩,hm2,by cbv⟩
      ·rw[q10] at hE2;cbv;refine gn ?_
       try (rw[g1];cbv)
       try (rw[g2];cbv)
       cases qn:qj n1 n2
       ·rw[qn] at hE2;cbv;refine gn ?_;exact⟨_,⟨j+1,hy1,h8,hE2⟩,hm2,by cbv⟩
       ·rw[qn] at hE2;cbv;refine gn ?_;exact C5 hE2
    ·rw[c2G h8] at hlt2;rw[c3j (by omega)] at hE2;rw[hlt2];cbv;refine gn ?_;exact⟨_,⟨k+1,hz1,h9,hE2⟩,hm,by cbv⟩
  ·rw[c2G h9] at hlt;rw[c3j (by omega)] at hE;rw[hlt];cbv;refine gn ?_;exact C5 hE
def d8 (t:Ty) (s:Int):Bool:=c9 j4 t s && M6 t
theorem a6s (t:Ty) (hN:t.parts.length<=1048576) (hnm:∀x∈t.parts,x.name.size<=1048576):m6 9 [.ag (cT t)] [.one (.sc (.bool (d8 t 116)))]:=by
 have h1:=b8M t 116 hN hnm;have h2:=c07 t hN;generalize hb:d8 t 116=b;unfold d8 at hb;generalize c9 j4 t 116=q1 at *;generalize M6 t=q2 at *;obtain⟨c0,c1,c2,c3,hc⟩:∃c0 c1 c2 c3,cT t=[c0,c1,c2,c3]:=by obtain⟨op,nm,n,ks⟩:=t;exact⟨_,_,_,_,by rw[cT]⟩
 rw[hc] at h1 h2 ⊢;refine Y8 Tryd.func9 rfl ?_;intros;rename_i hA;cbv;refine gn ?_;refine b9 hA _ h1 ?_ ?_
 ·rfl
 cases q1
 ·cbv;refine gn ?_;exact C5 hb
 ·cbv;refine gn ?_;refine b9 hA _ h2 ?_ ?_
  ·rfl
  cbv;refine gn ?_;exact C5 hb
def ik (n:Int):R:=.one (.sc (.int .i64 n))
def a3w (es:List (R×R)):Prop:=∀p∈es,∃m,p.1=ik m
theorem a58 (m n:Int):rEq (ik m) (ik n)=(m == n):=a0X m n
theorem a59 (n x:Int) (q:R):∀(es:List (R×R)),a3w es->a1u (a0y es (ik n) q) (ik x)=if x=n then some q else a1u es (ik x)
 | [],_=>by
  rw[a0y];show (match rEq (ik n) (ik x) with|true=>some q|false=>a1u [] (ik x))=_;rw[a58]
  by_cases h:x=n
  ·subst h;simp
  ·rw[c2H h,c2O.2 (λe=>h e.symm)]
 | (k,v)::es,h=>by
  obtain⟨m,hm⟩:=h _ (c27 ..);simp only at hm;subst hm;have ih:=a59 n x q es λp hp=>h p (c26 _ hp)
  rw[a0y,a58]
  by_cases hmn:m=n
  ·subst hmn;simp only[c4a];rw[a1u,a1u,a58]
   by_cases h:x=m
   ·subst h;simp
   ·rw[c2H h,c2O.2 (λe=>h e.symm)]
  ·rw[c2O.2 hmn];simp only;rw[a1u,a1u,a58,ih]
   by_cases h:m=x
   ·subst h;simp[hmn]
   ·rw[c2O.2 h]
theorem a5Y {es:List (R×R)} (h:a3w es) (n:Int) (q:R):a3w (a0y es (ik n) q):=by
 induction es with
 | nil=>intro p hp;rw[a0y] at hp;simp at hp;subst hp;exact⟨n,rfl⟩
 | cons e es ih =>
  obtain⟨k,v⟩:=e;intro p hp;rw[a0y] at hp
  split at hp
  ·rcases c2C.1 hp with rfl|hp
   ·exact h (k,v) (c27 ..)
   ·exact h p (c26 _ hp)
  ·rcases c2C.1 hp with rfl|hp
   ·exact h (k,v) (c27 ..)
   ·exact ih (λp hp=>h p (c26 _ hp)) p hp
def SAt (es:List (R×R)) (s:Int->Option Bool):Prop:=a3w es/\∀n,a1u es (ik n)=(s n).map λb=>R.one (.sc (.bool b))
theorem SAt.set {es:List (R×R)} {s:Int->Option Bool} (h:SAt es s) (n:Int) (b:Bool):SAt (a0y es (ik n) (.one (.sc (.bool b)))) (a7w s n b):=by
 refine⟨a5Y h.1 n _,λx=>?_⟩;rw[a59 n x _ es h.1];unfold a7w
 by_cases hx:x=n
 ·rw[c2E hx,c2E hx];rfl
 ·rw[c2H hx,c2H hx];exact h.2 x
theorem SAt.nil:SAt [] λ_=>none:=⟨λp hp=>by simp at hp,λn=>rfl⟩
def c2m:Option Bool->Bool->Bool
 | none,_=>true
 | some b,row=>bEq b row
theorem c08 (es:List (R×R)) (n:Int) (row:Bool) (o:Option Bool) (ho:a1u es (ik n)=o.map λb=>R.one (.sc (.bool b))) :
  j3 54 [.mp 0,vi .i64 n,vb row] [.mp 3 es] (λres os2=>res=[vb (c2m o row)]/\os2=[.mp 3 (a0y es (ik n) (.one (.sc (.bool row))))]):=by
 obtain⟨es2,h2⟩:∃e,e=a0y es (ik n) (.one (.sc (.bool row))):=⟨_,rfl⟩;rw[<-h2];refine so9 Tryd.func54 rfl ?_;intro _ _ _ _ _ _ _ _ _ _ _ _ _ _ _ _ _ _ _ _ _ _ _ _ _ _ _ _ vf vg;intros;rename_i hA;cbv;refine gn ?_;obtain⟨m1,m2,-⟩:=H2 hA;have hl:vf es (ik n)=o.map λb=>R.one (.sc (.bool b)):=by rw[m1,ho]
 have hp:vg es (ik n) (.one (.sc (.bool row)))=es2:=by rw[m2,h2]
 unfold ik at hl hp;rw[hl];cases o with
 | none =>
  cbv;refine gn ?_;rw[hp];refine d7 hA [0] ⟨rfl,rfl,rfl,rfl,rfl,rfl,rfl,rfl⟩ ⟨rfl,rfl⟩
 | some b =>
  cases b <;> cases row
  all_goals
   cbv;refine gn ?_;rw[hp];exact d7 hA [0] ⟨rfl,rfl,rfl,rfl,rfl,rfl,rfl,rfl⟩ ⟨rfl,rfl⟩
def sI (row:Bool):Int:=match row with|true=>114|false=>116
def a9M (op:Int):Option (Int×Bool×Bool):=if op=1\/op=2\/op=3 then some (0,false,false) else if op=4 then some (2,false,false) else if op=5\/op=6 then some (1,false,false) else if op=7 then some (0,false,true)
 else if op=8\/op=9 then some (0,false,false) else if op=10 then some (0,false,true) else if op=11 then some (2,true,false) else none
def a5A (b:Bool) (F:Option (Int->Option Bool)) (res:List V) (os2:List O):Prop:=∃es',os2=[.mp 3 es']/\a3w es'/\res=[vb b]/\(b=true->∀s',F=some s'->SAt es' s')
def rtS (op:Int) (nm:ByteArray) (n:Int) (K:List (List D)) (row:Bool) (es:List (R×R)) (kn:Int) (named numbered:Bool) (j12 j13 j14 j15 j16 j17 j18 j19 j20 j21 j22 j23 j24 j25 j26 j27 j28 j29 j30 j31:V):S :=
 ⟨[.mp 0,.ag [.d (.sc (.int .u8 op)),.d (.sc (.string nm)),.d (.sc (.int .i64 n)),.d (.sl 4 K)],vb row,.tu [],.ptr 1 0,.tu [],vb false,vi .i64 kn,vb named,vb numbered,.tu [],.tu [],j12,j13,j14,j15,j16,j17,j18,j19,j20,j21,j22,j23,j24,j25,j26,j27,j28,j29,j30,j31]++uns 81,
  [.mp 3 es,.box [.d (.sc (.int .u8 op)),.d (.sc (.string nm)),.d (.sc (.int .i64 n)),.d (.sl 4 K)]]⟩
theorem b5o (op:Int) (nm:ByteArray) (n:Int) (K:List (List D)) (row:Bool) (es:List (R×R)) (r:Code) (Kc:X->S->Prop) (hgo:∀kn a b,a9M op=some (kn,a,b)->∀j12 j13 j14 j15 j16 j17 j18 j19 j20 j21 j22 j23 j24 j25 j26 j27 j28 j29 j30 j31,w5 a7 r (rtS op nm n K row es kn a b j12 j13 j14 j15 j16 j17 j18 j19 j20 j21 j22 j23 j24 j25 j26 j27 j28 j29 j30 j31) Kc) (hno:a9M op=none->∀s:S,s.o=[.mp 3 es,.box [.d (.sc (.int .u8 op)),.d (.sc (.string nm)),.d (.sc (.int .i64 n)),.d (.sl 4 K)]]->m8 s.t 6=vb false->Kc .ret s):∀qa qb qc qd qe qf qg qh qi qj qk ql qm qo qp qq qs qt qu qv qw qx qy qz va vc vd ve vf vg vh vj vk vl vp vq vr vt vu vv vw vx vy,Ar.mk qa qb qc qd qe qf qg qh qi qj qk ql qm qo qp qq qs qt qu qv qw qx qy qz va vc vd ve vf vg vh vj vk vl vp vq vr vt vu vv vw vx vy=a7 ->
  w5 (Ar.mk qa qb qc qd qe qf qg qh qi qj qk ql qm qo qp qq qs qt qu qv qw qx qy qz va vc vd ve vf vg vh vj vk vl vp vq vr vt vu vv vw vx vy) (.seq (H7 (Tryd.f30.body.getD .skip)) (.seq (H7 (f7 (Tryd.f30.body.getD .skip))) (.seq (H7 (f7 (f7 (Tryd.f30.body.getD .skip)))) (.seq (H7 (f7 (f7 (f7 (Tryd.f30.body.getD .skip))))) r))))
   (a2M [.mp 0,.ag [.d (.sc (.int .u8 op)),.d (.sc (.string nm)),.d (.sc (.int .i64 n)),.d (.sl 4 K)],vb row] [.mp 3 es] (Tryd.f30.ntmps - m9 [V.mp 0,.ag [.d (.sc (.int .u8 op)),.d (.sc (.string nm)),.d (.sc (.int .i64 n)),.d (.sl 4 K)],vb row])) Kc:=by
 intro qa qb qc qd qe qf qg qh qi qj qk ql qm qo qp qq qs qt qu qv qw qx qy qz va vc vd ve vf vg vh vj vk vl vp vq vr vt vu vv vw vx vy hA;obtain⟨e1,e2,e3,e4,e5,e6,e7,e8,e9⟩:=j8 hA;have hq:∀i:Int,qj op i=decide (op=i):=λi=>e9 op i
 have key:∀kn a b,a9M op=some (kn,a,b)->∀j12 j13 j14 j15 j16 j17 j18 j19 j20 j21 j22 j23 j24 j25 j26 j27 j28 j29 j30 j31,w5 (Ar.mk qa qb qc qd qe qf qg qh qi qj qk ql qm qo qp qq qs qt qu qv qw qx qy qz va vc vd ve vf vg vh vj vk vl vp vq vr vt vu vv vw vx vy) r (rtS op nm n K row es kn a b j12 j13 j14 j15 j16 j17 j18 j19 j20 j21 j22 j23 j24 j25 j26 j27 j28 j29 j30 j31) Kc:=λkn a b h=>by rw[hA];exact hgo kn a b h
 clear hgo;cbv
 repeat ((with_reducible apply b5 hA);cbv)
 cases q1:qj op 1
 rotate_left
 ·have hop:op=1:=by rw[hq] at q1;exact c3c q1
  have hk:=key 0 false false (by rw[hop];rfl);unfold w5 at hk;cbv
  repeat ((with_reducible apply b5 hA);cbv)
  exact hk _ _ _ _ _ _ _ _ _ _ _ _ _ _ _ _ _ _ _ _
 cbv
 repeat ((with_reducible apply b5 hA);cbv)
 cases q2:qj op 2
 rotate_left
 ·have hop:op=2:=by rw[hq] at q2;exact c3c q2
  have hk:=key 0 false false (by rw[hop];rfl);unfold w5 at hk;cbv
  repeat ((with_reducible apply b5 hA);cbv)
  exact hk _ _ _ _ _ _ _ _ _ _ _ _ _ _ _ _ _ _ _ _
 cbv
 repeat ((with_reducible apply b5 hA);cbv)
 cases q3:qj op 3
 rotate_left
 ·have hop:op=3:=by rw[hq] at q3;exact c3c q3
  have hk:=key 0 false false (by rw[hop];rfl);unfold w5 at hk;cbv
  repeat ((with_reducible apply b5 hA);cbv)
  exact hk _ _ _ _ _ _ _ _ _ _ _ _ _ _ _ _ _ _ _ _
 cbv
 repeat ((with_reducible apply b5 hA);cbv)
 cases q4:qj op 4
 rotate_left
 ·have hop:op=4:=by rw[hq] at q4;exact c3c q4
  have hk:=key 2 false false (by rw[hop];rfl);unfold w5 at hk;cbv
  repeat ((with_reducible apply b5 hA);cbv)
  exact hk _ _ _ _ _ _ _ _ _ _ _ _ _ _ _ _ _ _ _ _
 cbv
 repeat ((with_reducible apply b5 hA);cbv)
 cases q5:qj op 5
 rotate_left
 ·have hop:op=5:=by rw[hq] at q5;exact c3c q5
  have hk:=key 1 false false (by rw[hop];rfl);unfold w5 at hk;cbv
  repeat ((with_reducible apply b5 hA);cbv)
  exact hk _ _ _ _ _ _ _ _ _ _ _ _ _ _ _ _ _ _ _ _
 cbv
 repeat ((with_reducible apply b5 hA);cbv)
 cases q6:qj op 6
 rotate_left
 ·have hop:op=6:=by rw[hq] at q6;exact c3c q6
  have hk:=key 1 false false (by rw[hop];rfl);unfold w5 at hk;cbv
  repeat ((with_reducible apply b5 hA);cbv)
  exact hk _ _ _ _ _ _ _ _ _ _ _ _ _ _ _ _ _ _ _ _
 cbv
 repeat ((with_reducible apply b5 hA);cbv)
 cases q7:qj op 7
 rotate_left
 ·have hop:op=7:=by rw[hq] at q7;exact c3c q7
  have hk:=key 0 false true (by rw[hop];rfl);unfold w5 at hk;cbv
  repeat ((with_reducible apply b5 hA);cbv)
  exact hk _ _ _ _ _ _ _ _ _ _ _ _ _ _ _ _ _ _ _ _
 cbv
 repeat ((with_reducible apply b5 hA);cbv)
 cases q8:qj op 8
 rotate_left
 ·have hop:op=8:=by rw[hq] at q8;exact c3c q8
  have hk:=key 0 false false (by rw[hop];rfl);unfold w5 at hk;cbv
  repeat ((with_reducible apply b5 hA);cbv)
  exact hk _ _ _ _ _ _ _ _ _ _ _ _ _ _ _ _ _ _ _ _
 cbv
 repeat ((with_reducible apply b5 hA);cbv)
 cases q9:qj op 9
 rotate_left
 ·have hop:op=9:=by rw[hq] at q9;exact c3c q9
  have hk:=key 0 false false (by rw[hop];rfl);unfold w5 at hk;cbv
  repeat ((with_reducible apply b5 hA);cbv)
  exact hk _ _ _ _ _ _ _ _ _ _ _ _ _ _ _ _ _ _ _ _
 cbv
 repeat ((with_reducible apply b5 hA);cbv)
 cases q10:qj op 10
 rotate_left
 ·have hop:op=10:=by rw[hq] at q10;exact c3c q10
  have hk:=key 0 false true (by rw[hop];rfl);unfold w5 at hk;cbv
  repeat ((with_reducible apply b5 hA);cbv)
  exact hk _ _ _ _ _ _ _ _ _ _ _ _ _ _ _ _ _ _ _ _
 cbv
 repeat ((with_reducible apply b5 hA);cbv)
 cases q11:qj op 11
 rotate_left
 ·have hop:op=11:=by rw[hq] at q11;exact c3c q11
  have hk:=key 2 true false (by rw[hop];rfl);unfold w5 at hk;cbv
  repeat ((with_reducible apply b5 hA);cbv)
  exact hk _ _ _ _ _ _ _ _ _ _ _ _ _ _ _ _ _ _ _ _
 cbv
 repeat ((with_reducible apply b5 hA);cbv)
 have hn:a9M op=none:=by
  rw[hq] at q1 q2 q3 q4 q5 q6 q7 q8 q9 q10 q11;have p1:=c35 q1;have p2:=c35 q2;have p3:=c35 q3;have p4:=c35 q4;have p5:=c35 q5;have p6:=c35 q6;have p7:=c35 q7;have p8:=c35 q8;have p9:=c35 q9;have p10:=c35 q10;have p11:=c35 q11;unfold a9M
  simp[p1,p2,p3,p4,p5,p6,p7,p8,p9,p10,p11]
 exact hno hn _ rfl rfl
end Go.Proofs.YtlofmibkljoapaaDoor.Vm
end

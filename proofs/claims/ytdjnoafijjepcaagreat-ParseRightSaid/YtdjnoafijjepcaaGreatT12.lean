/- Part 12 of the proof. Conditions: none. -/
import Derived.Test.YtdjnoafijjepcaaGreatT4
import Derived.Test.YtdjnoafijjepcaaGreatT10
import Derived.Test.YtdjnoafijjepcaaGreatT11
import Derived.Test.YtdjnoafijjepcaaGreatT0
set_option linter.all false
set_option linter.unusedVariables false
set_option linter.unusedSimpArgs false
section
namespace Go.Proofs.YtdjnoafijjepcaaGreat.Vm
open Go.RowKit
set_option maxRecDepth 100000
set_option maxHeartbeats 4000000
theorem c9i (t:Ty) (hN:t.parts.length<=1048576):o8 64 [.ag (cT t)] [.one (.sc (.bool (a2L t)))]:=by
 have hP:=b8n t hN;obtain⟨P,hPP⟩:∃P,P=t.parts:=⟨_,rfl⟩;generalize hb:a2L t=b;unfold a2L at hb;rw[<-hPP] at hP hb hN;obtain⟨c0,c1,c2,c3,hc⟩:∃c0 c1 c2 c3,cT t=[c0,c1,c2,c3]:=by obtain⟨op,nm,n,ks⟩:=t;exact⟨_,_,_,_,by rw[cT]⟩
 rw[hc] at hP ⊢;obtain⟨L,hL⟩:∃L,L=rT P:=⟨_,rfl⟩;rw[<-hL] at hP;refine Q5 Tryz.func64 rfl ?_;intro qa qb _ _ _ _ _ qi _ qk _ _ _ _ _ _ _ _ _ _ _ _ va vc;intros;rename_i hA;cbv;refine gn ?_;refine j8 hA _ hP ?_ ?_
 ·rfl
 cbv;refine gn ?_;obtain⟨e1,e2,e3,e4,e5,e6,e7,e8,e9⟩:=m6 hA;obtain⟨r1,r2,-⟩:=B3 hA;refine n9 hA (γ:=Int) (λz=>[(4,vi .i64 z)]) (λ_=>[]) (λz=>∃k:Nat,z=(k:Int)/\k<=P.length/\((P.drop k).all λx=>P.all λy=>!a2t x y)=b) (λz=>P.length - z.toNat) 0 ?_ ?_ ?_
 ·exact⟨0,rfl,d4o _,hb⟩
 ·cbv
 ·intro z hinv;cbv;refine gn ?_;obtain⟨k,hz,hk,hE⟩:=hinv;replace hz:z=(k:Int):=hz;have hlen:va L=((P.length:Nat):Int):=by rw[r1,hL,M4]
  have hlt:qi z (va L)=decide (k<P.length):=by rw[e7,hlen,hz];exact d3X.2 (by omega)
  by_cases h9:k<P.length
  ·rw[d3S h9] at hlt;obtain⟨x,hx⟩:∃x,P[k]?=some x:=⟨_,d3H h9⟩;have d1:P.drop k=x::P.drop (k+1):=by obtain⟨hi,e⟩:=d3J.1 hx;rw[d4c hi,e]
   rw[d1,d6y] at hE;have g1:vc L z=some (cT x):=by rw[r2,hz,d3I (by omega),hL];exact a1q hx
   have hz1:qa .i64 (qb z 1)=((k+1:Nat):Int):=by rw[e1,e2,hz,IntWalk.i64_in _ (by omega)];omega
   have hm:P.length - (qa .i64 (qb z 1)).toNat<P.length - z.toNat:=by rw[hz1,hz];omega
   have hxo:qk x.op 7=(x.op == 7):=e9 _ _;obtain⟨o1,m1,n1,l1⟩:=x;rw[cT] at g1;simp only[Ty.op] at hxo;generalize rT l1=L1 at *;rw[hlt];cbv;refine gn ?_;refine n9 hA (γ:=Int) (λy=>[(5,vi .i64 y)]) (λ_=>[]) (λy=>∃j:Nat,y=(j:Int)/\j<=P.length/\(((P.drop j).all λy=>!a2t (.mk o1 m1 n1 l1) y) && ((P.drop (k+1)).all λx=>P.all λy=>!a2t x y))=b) (λy=>P.length - y.toNat) 0 ?_ ?_ ?_
   ·exact⟨0,rfl,d4o _,hE⟩
   ·cbv
   ·intro y hinv2;cbv;refine gn ?_;obtain⟨j,hy,hj,hE2⟩:=hinv2;replace hy:y=(j:Int):=hy;replace hlen:va L=((P.length:Nat):Int):=hlen;have hlt2:qi y (va L)=decide (j<P.length):=by rw[e7,hlen,hy];exact d3X.2 (by omega)
    by_cases h8:j<P.length
    ·rw[d3S h8] at hlt2;obtain⟨v,hv⟩:∃v,P[j]?=some v:=⟨_,d3H h8⟩;have d2:P.drop j=v::P.drop (j+1):=by obtain⟨hi,e⟩:=d3J.1 hv;rw[d4c hi,e]
     rw[d2,d6y] at hE2;have g2:vc L y=some (cT v):=by rw[r2,hy,d3I (by omega),hL];exact a1q hv
     have hy1:qa .i64 (qb y 1)=((j+1:Nat):Int):=by rw[e1,e2,hy,IntWalk.i64_in _ (by omega)];omega
     have hm2:P.length - (qa .i64 (qb y 1)).toNat<P.length - y.toNat:=by rw[hy1,hy];omega
     obtain⟨o2,m2,n2,l2⟩:=v;rw[cT] at g2;generalize rT l2=L2 at *;have hcl:a2t (.mk o1 m1 n1 l1) (.mk o2 m2 n2 l2)=(qk o1 7 && (qk o2 10 && qk n1 n2)):=by rw[e9,e9,e9];rfl
     rw[hcl] at hE2;rw[hlt2];cbv;refine gn ?_;rw[g1];cbv;cases q7:qk o1 7
     ·rw[q7] at hE2;cbv;refine gn ?_;exact⟨_,⟨j+1,hy1,h8,hE2⟩,hm2,by cbv⟩
     ·rw[q7] at hE2;cbv;refine gn ?_;rw[g2];cbv;cases q10:qk o2 10
      ·rw[q10] at hE2;cbv;refine gn ?_;exact⟨_,⟨j+1,hy1,h8,hE2⟩,hm2,by cbv⟩
      ·rw[q10] at hE2;cbv;refine gn ?_
       try (rw[g1];cbv)
       try (rw[g2];cbv)
       cases qn:qk n1 n2
       ·rw[qn] at hE2;cbv;refine gn ?_;exact⟨_,⟨j+1,hy1,h8,hE2⟩,hm2,by cbv⟩
       ·rw[qn] at hE2;cbv;refine gn ?_;exact L3 hE2
    ·rw[d3P h8] at hlt2;rw[d4w (by omega)] at hE2;rw[hlt2];cbv;refine gn ?_;exact⟨_,⟨k+1,hz1,h9,hE2⟩,hm,by cbv⟩
  ·rw[d3P h9] at hlt;rw[d4w (by omega)] at hE;rw[hlt];cbv;refine gn ?_;exact L3 hE
def G2 (t:Ty) (s:Int):Bool:=B6 A3 t s && a2L t
theorem c6a (t:Ty) (hN:t.parts.length<=1048576) (hnm:∀x∈t.parts,x.name.size<=1048576):o8 42 [.ag (cT t)] [.one (.sc (.bool (G2 t 116)))]:=by
 have h1:=c5Z t 116 hN hnm;have h2:=c9i t hN;generalize hb:G2 t 116=b;unfold G2 at hb;generalize B6 A3 t 116=q1 at *;generalize a2L t=q2 at *;obtain⟨c0,c1,c2,c3,hc⟩:∃c0 c1 c2 c3,cT t=[c0,c1,c2,c3]:=by obtain⟨op,nm,n,ks⟩:=t;exact⟨_,_,_,_,by rw[cT]⟩
 rw[hc] at h1 h2 ⊢;refine Q5 Tryz.func42 rfl ?_;intros;rename_i hA;cbv;refine gn ?_;refine j8 hA _ h1 ?_ ?_
 ·rfl
 cases q1
 ·cbv;refine gn ?_;exact L3 hb
 ·cbv;refine gn ?_;refine j8 hA _ h2 ?_ ?_
  ·rfl
  cbv;refine gn ?_;exact L3 hb
def ik (n:Int):R:=.one (.sc (.int .i64 n))
def a6Q (es:List (R×R)):Prop:=∀p∈es,∃m,p.1=ik m
theorem b3u (m n:Int):rEq (ik m) (ik n)=(m == n):=a6v m n
theorem b2d (n x:Int) (q:R):∀(es:List (R×R)),a6Q es->a5q (a2T es (ik n) q) (ik x)=if x=n then some q else a5q es (ik x)
 | [],_=>by
  rw[a2T];show (match rEq (ik n) (ik x) with|true=>some q|false=>a5q [] (ik x))=_;rw[b3u]
  by_cases h:x=n
  ·subst h;simp
  ·rw[d3G h,d4x.2 (λe=>h e.symm)]
 | (k,v)::es,h=>by
  obtain⟨m,hm⟩:=h _ (d3L ..);simp only at hm;subst hm;have ih:=b2d n x q es λp hp=>h p (d3M _ hp)
  rw[a2T,b3u]
  by_cases hmn:m=n
  ·subst hmn;simp only[d4G];rw[a5q,a5q,b3u]
   by_cases h:x=m
   ·subst h;simp
   ·rw[d3G h,d4x.2 (λe=>h e.symm)]
  ·rw[d4x.2 hmn];simp only;rw[a5q,a5q,b3u,ih]
   by_cases h:m=x
   ·subst h;simp[hmn]
   ·rw[d4x.2 h]
theorem b4T {es:List (R×R)} (h:a6Q es) (n:Int) (q:R):a6Q (a2T es (ik n) q):=by
 induction es with
 | nil=>intro p hp;rw[a2T] at hp;simp at hp;subst hp;exact⟨n,rfl⟩
 | cons e es ih =>
  obtain⟨k,v⟩:=e;intro p hp;rw[a2T] at hp
  split at hp
  ·rcases d3R.1 hp with rfl|hp
   ·exact h (k,v) (d3L ..)
   ·exact h p (d3M _ hp)
  ·rcases d3R.1 hp with rfl|hp
   ·exact h (k,v) (d3L ..)
   ·exact ih (λp hp=>h p (d3M _ hp)) p hp
def SAt (es:List (R×R)) (s:Int->Option Bool):Prop:=a6Q es/\∀n,a5q es (ik n)=(s n).map λb=>R.one (.sc (.bool b))
theorem SAt.set {es:List (R×R)} {s:Int->Option Bool} (h:SAt es s) (n:Int) (b:Bool):SAt (a2T es (ik n) (.one (.sc (.bool b)))) (b00 s n b):=by
 refine⟨b4T h.1 n _,λx=>?_⟩;rw[b2d n x _ es h.1];unfold b00
 by_cases hx:x=n
 ·rw[d3I hx,d3I hx];rfl
 ·rw[d3G hx,d3G hx];exact h.2 x
theorem SAt.nil:SAt [] λ_=>none:=⟨λp hp=>by simp at hp,λn=>rfl⟩
def d2X:Option Bool->Bool->Bool
 | none,_=>true
 | some b,row=>bEq b row
theorem c9j (es:List (R×R)) (n:Int) (row:Bool) (o:Option Bool) (ho:a5q es (ik n)=o.map λb=>R.one (.sc (.bool b))) :
  y7 93 [.mp 0,vi .i64 n,vb row] [.mp 3 es] (λres os2=>res=[vb (d2X o row)]/\os2=[.mp 3 (a2T es (ik n) (.one (.sc (.bool row))))]):=by
 obtain⟨es2,h2⟩:∃e,e=a2T es (ik n) (.one (.sc (.bool row))):=⟨_,rfl⟩;rw[<-h2];refine so9 Tryz.func93 rfl ?_;intro _ _ _ _ _ _ _ _ _ _ _ _ _ _ _ _ _ _ _ _ _ _ _ _ _ _ _ _ vh vj;intros;rename_i hA;cbv;refine gn ?_;obtain⟨m1,m2,-⟩:=a0X hA;have hl:vh es (ik n)=o.map λb=>R.one (.sc (.bool b)):=by rw[m1,ho]
 have hp:vj es (ik n) (.one (.sc (.bool row)))=es2:=by rw[m2,h2]
 unfold ik at hl hp;rw[hl];cases o with
 | none =>
  cbv;refine gn ?_;rw[hp];refine n7 hA [0] ⟨rfl,rfl,rfl,rfl,rfl,rfl,rfl,rfl⟩ ⟨rfl,rfl⟩
 | some b =>
  cases b <;> cases row
  all_goals
   cbv;refine gn ?_;rw[hp];exact n7 hA [0] ⟨rfl,rfl,rfl,rfl,rfl,rfl,rfl,rfl⟩ ⟨rfl,rfl⟩
def sI (row:Bool):Int:=match row with|true=>114|false=>116
def b3v (op:Int):Option (Int×Bool×Bool):=if op=1\/op=2\/op=3 then some (0,false,false) else if op=4 then some (2,false,false) else if op=5\/op=6 then some (1,false,false) else if op=7 then some (0,false,true)
 else if op=8\/op=9 then some (0,false,false) else if op=10 then some (0,false,true) else if op=11 then some (2,true,false) else none
def a7N (b:Bool) (F:Option (Int->Option Bool)) (res:List V) (os2:List O):Prop:=∃es',os2=[.mp 3 es']/\a6Q es'/\res=[vb b]/\(b=true->∀s',F=some s'->SAt es' s')
def rtS (op:Int) (nm:ByteArray) (n:Int) (K:List (List D)) (row:Bool) (es:List (R×R)) (kn:Int) (named numbered:Bool) (j12 j13 j14 j15 j16 j17 j18 j19 j20 j21 j22 j23 j24 j25 j26 j27 j28 j29 j30 j31:V):S :=
 ⟨[.mp 0,.ag [.d (.sc (.int .u8 op)),.d (.sc (.string nm)),.d (.sc (.int .i64 n)),.d (.sl 4 K)],vb row,.tu [],.ptr 1 0,.tu [],vb false,vi .i64 kn,vb named,vb numbered,.tu [],.tu [],j12,j13,j14,j15,j16,j17,j18,j19,j20,j21,j22,j23,j24,j25,j26,j27,j28,j29,j30,j31]++uns 81,
  [.mp 3 es,.box [.d (.sc (.int .u8 op)),.d (.sc (.string nm)),.d (.sc (.int .i64 n)),.d (.sl 4 K)]]⟩
theorem b9P (op:Int) (nm:ByteArray) (n:Int) (K:List (List D)) (row:Bool) (es:List (R×R)) (r:Code) (Kc:X->S->Prop) (hgo:∀kn a b,b3v op=some (kn,a,b)->∀j12 j13 j14 j15 j16 j17 j18 j19 j20 j21 j22 j23 j24 j25 j26 j27 j28 j29 j30 j31,E9 j5 r (rtS op nm n K row es kn a b j12 j13 j14 j15 j16 j17 j18 j19 j20 j21 j22 j23 j24 j25 j26 j27 j28 j29 j30 j31) Kc) (hno:b3v op=none->∀s:S,s.o=[.mp 3 es,.box [.d (.sc (.int .u8 op)),.d (.sc (.string nm)),.d (.sc (.int .i64 n)),.d (.sl 4 K)]]->y8 s.t 6=vb false->Kc .ret s):∀qa qb qc qd qe qg qh qi qj qk ql qm qo qp qq qt qu qv qw qx qy qz va vc vd ve vf vg vh vj vk vl vm vn vo vq vr vt vu vv vw vx vy,Ar.mk qa qb qc qd qe qg qh qi qj qk ql qm qo qp qq qt qu qv qw qx qy qz va vc vd ve vf vg vh vj vk vl vm vn vo vq vr vt vu vv vw vx vy=j5 ->
  E9 (Ar.mk qa qb qc qd qe qg qh qi qj qk ql qm qo qp qq qt qu qv qw qx qy qz va vc vd ve vf vg vh vj vk vl vm vn vo vq vr vt vu vv vw vx vy) (.seq (U6 (Tryz.f79.body.getD .skip)) (.seq (U6 (m9 (Tryz.f79.body.getD .skip))) (.seq (U6 (m9 (m9 (Tryz.f79.body.getD .skip)))) (.seq (U6 (m9 (m9 (m9 (Tryz.f79.body.getD .skip))))) r))))
   (a3a [.mp 0,.ag [.d (.sc (.int .u8 op)),.d (.sc (.string nm)),.d (.sc (.int .i64 n)),.d (.sl 4 K)],vb row] [.mp 3 es] (Tryz.f79.ntmps - G7 [V.mp 0,.ag [.d (.sc (.int .u8 op)),.d (.sc (.string nm)),.d (.sc (.int .i64 n)),.d (.sl 4 K)],vb row])) Kc:=by
 intro qa qb qc qd qe qg qh qi qj qk ql qm qo qp qq qt qu qv qw qx qy qz va vc vd ve vf vg vh vj vk vl vm vn vo vq vr vt vu vv vw vx vy hA;obtain⟨e1,e2,e3,e4,e5,e6,e7,e8,e9⟩:=m6 hA;have hq:∀i:Int,qk op i=decide (op=i):=λi=>e9 op i
 have key:∀kn a b,b3v op=some (kn,a,b)->∀j12 j13 j14 j15 j16 j17 j18 j19 j20 j21 j22 j23 j24 j25 j26 j27 j28 j29 j30 j31,E9 (Ar.mk qa qb qc qd qe qg qh qi qj qk ql qm qo qp qq qt qu qv qw qx qy qz va vc vd ve vf vg vh vj vk vl vm vn vo vq vr vt vu vv vw vx vy) r (rtS op nm n K row es kn a b j12 j13 j14 j15 j16 j17 j18 j19 j20 j21 j22 j23 j24 j25 j26 j27 j28 j29 j30 j31) Kc:=λkn a b h=>by rw[hA];exact hgo kn a b h
 clear hgo;cbv
 repeat ((with_reducible apply j6 hA);cbv)
 cases q1:qk op 1
 rotate_left
 ·have hop:op=1:=by rw[hq] at q1;exact d4u q1
  have hk:=key 0 false false (by rw[hop];rfl);unfold E9 at hk;cbv
  repeat ((with_reducible apply j6 hA);cbv)
  exact hk _ _ _ _ _ _ _ _ _ _ _ _ _ _ _ _ _ _ _ _
 cbv
 repeat ((with_reducible apply j6 hA);cbv)
 cases q2:qk op 2
 rotate_left
 ·have hop:op=2:=by rw[hq] at q2;exact d4u q2
  have hk:=key 0 false false (by rw[hop];rfl);unfold E9 at hk;cbv
  repeat ((with_reducible apply j6 hA);cbv)
  exact hk _ _ _ _ _ _ _ _ _ _ _ _ _ _ _ _ _ _ _ _
 cbv
 repeat ((with_reducible apply j6 hA);cbv)
 cases q3:qk op 3
 rotate_left
 ·have hop:op=3:=by rw[hq] at q3;exact d4u q3
  have hk:=key 0 false false (by rw[hop];rfl);unfold E9 at hk;cbv
  repeat ((with_reducible apply j6 hA);cbv)
  exact hk _ _ _ _ _ _ _ _ _ _ _ _ _ _ _ _ _ _ _ _
 cbv
 repeat ((with_reducible apply j6 hA);cbv)
 cases q4:qk op 4
 rotate_left
 ·have hop:op=4:=by rw[hq] at q4;exact d4u q4
  have hk:=key 2 false false (by rw[hop];rfl);unfold E9 at hk;cbv
  repeat ((with_reducible apply j6 hA);cbv)
  exact hk _ _ _ _ _ _ _ _ _ _ _ _ _ _ _ _ _ _ _ _
 cbv
 repeat ((with_reducible apply j6 hA);cbv)
 cases q5:qk op 5
 rotate_left
 ·have hop:op=5:=by rw[hq] at q5;exact d4u q5
  have hk:=key 1 false false (by rw[hop];rfl);unfold E9 at hk;cbv
  repeat ((with_reducible apply j6 hA);cbv)
  exact hk _ _ _ _ _ _ _ _ _ _ _ _ _ _ _ _ _ _ _ _
 cbv
 repeat ((with_reducible apply j6 hA);cbv)
 cases q6:qk op 6
 rotate_left
 ·have hop:op=6:=by rw[hq] at q6;exact d4u q6
  have hk:=key 1 false false (by rw[hop];rfl);unfold E9 at hk;cbv
  repeat ((with_reducible apply j6 hA);cbv)
  exact hk _ _ _ _ _ _ _ _ _ _ _ _ _ _ _ _ _ _ _ _
 cbv
 repeat ((with_reducible apply j6 hA);cbv)
 cases q7:qk op 7
 rotate_left
 ·have hop:op=7:=by rw[hq] at q7;exact d4u q7
  have hk:=key 0 false true (by rw[hop];rfl);unfold E9 at hk;cbv
  repeat ((with_reducible apply j6 hA);cbv)
  exact hk _ _ _ _ _ _ _ _ _ _ _ _ _ _ _ _ _ _ _ _
 cbv
 repeat ((with_reducible apply j6 hA);cbv)
 cases q8:qk op 8
 rotate_left
 ·have hop:op=8:=by rw[hq] at q8;exact d4u q8
  have hk:=key 0 false false (by rw[hop];rfl);unfold E9 at hk;cbv
  repeat ((with_reducible apply j6 hA);cbv)
  exact hk _ _ _ _ _ _ _ _ _ _ _ _ _ _ _ _ _ _ _ _
 cbv
 repeat ((with_reducible apply j6 hA);cbv)
 cases q9:qk op 9
 rotate_left
 ·have hop:op=9:=by rw[hq] at q9;exact d4u q9
  have hk:=key 0 false false (by rw[hop];rfl);unfold E9 at hk;cbv
  repeat ((with_reducible apply j6 hA);cbv)
  exact hk _ _ _ _ _ _ _ _ _ _ _ _ _ _ _ _ _ _ _ _
 cbv
 repeat ((with_reducible apply j6 hA);cbv)
 cases q10:qk op 10
 rotate_left
 ·have hop:op=10:=by rw[hq] at q10;exact d4u q10
  have hk:=key 0 false true (by rw[hop];rfl);unfold E9 at hk;cbv
  repeat ((with_reducible apply j6 hA);cbv)
  exact hk _ _ _ _ _ _ _ _ _ _ _ _ _ _ _ _ _ _ _ _
 cbv
 repeat ((with_reducible apply j6 hA);cbv)
 cases q11:qk op 11
 rotate_left
 ·have hop:op=11:=by rw[hq] at q11;exact d4u q11
  have hk:=key 2 true false (by rw[hop];rfl);unfold E9 at hk;cbv
  repeat ((with_reducible apply j6 hA);cbv)
  exact hk _ _ _ _ _ _ _ _ _ _ _ _ _ _ _ _ _ _ _ _
 cbv
 repeat ((with_reducible apply j6 hA);cbv)
 have hn:b3v op=none:=by
  rw[hq] at q1 q2 q3 q4 q5 q6 q7 q8 q9 q10 q11;have p1:=d4N q1;have p2:=d4N q2;have p3:=d4N q3;have p4:=d4N q4;have p5:=d4N q5;have p6:=d4N q6;have p7:=d4N q7;have p8:=d4N q8;have p9:=d4N q9;have p10:=d4N q10;have p11:=d4N q11;unfold b3v
  simp[p1,p2,p3,p4,p5,p6,p7,p8,p9,p10,p11]
 exact hno hn _ rfl rfl
end Go.Proofs.YtdjnoafijjepcaaGreat.Vm
end

/- Part 6 of the proof. Conditions: none. -/
import Derived.Test.YtlofmibkljoapaaDoorN4
import Derived.Test.YtlofmibkljoapaaDoorN5
import Derived.Test.YtlofmibkljoapaaDoorN0
set_option linter.all false
set_option linter.unusedVariables false
set_option linter.unusedSimpArgs false
section
namespace Go.Proofs.YtlofmibkljoapaaDoor.Vm
open Go.RowKit
set_option maxRecDepth 100000
set_option maxHeartbeats 4000000
theorem c1x (t:Ty) (hN:t.parts.length<=1048576):l6 22 [.ag (cT t)] [.one (.sc (.bool (P6 t)))]:=by
 have hP:=a9V t hN;obtain⟨P,hPP⟩:∃P,P=t.parts:=⟨_,rfl⟩;generalize hb:P6 t=b;unfold P6 at hb;rw[<-hPP] at hP hb hN;obtain⟨c0,c1,c2,c3,hc⟩:∃c0 c1 c2 c3,cT t=[c0,c1,c2,c3]:=by obtain⟨op,nm,n,ks⟩:=t;exact⟨_,_,_,_,by rw[cT]⟩
 rw[hc] at hP ⊢;obtain⟨L,hL⟩:∃L,L=rT P:=⟨_,rfl⟩;rw[<-hL] at hP;refine K7 Tryd.func22 rfl ?_;intro qa qb _ _ _ _ _ qh _ qj _ _ _ _ _ _ _ _ _ _ _ _ qy qz;intros;rename_i hA;cbv;refine gn ?_;refine c5 hA _ hP ?_ ?_
 ·rfl
 cbv;refine gn ?_;obtain⟨e1,e2,e3,e4,e5,e6,e7,e8,e9⟩:=j3 hA;obtain⟨r1,r2,-⟩:=m8 hA;refine l7 hA (γ:=Int) (λz=>[(4,vi .i64 z)]) (λ_=>[]) (λz=>∃k:Nat,z=(k:Int)/\k<=P.length/\((P.drop k).all λx=>P.all λy=>!F8 x y)=b) (λz=>P.length - z.toNat) 0 ?_ ?_ ?_
 ·exact⟨0,rfl,c4e _,hb⟩
 ·cbv
 ·intro z hinv;cbv;refine gn ?_;obtain⟨k,hz,hk,hE⟩:=hinv;replace hz:z=(k:Int):=hz;have hlen:qy L=((P.length:Nat):Int):=by rw[r1,hL,B7]
  have hlt:qh z (qy L)=decide (k<P.length):=by rw[e7,hlen,hz];exact c3M.2 (by omega)
  by_cases h9:k<P.length
  ·rw[c3K h9] at hlt;obtain⟨x,hx⟩:∃x,P[k]?=some x:=⟨_,c39 h9⟩;have d1:P.drop k=x::P.drop (k+1):=by obtain⟨hi,e⟩:=c35.1 hx;rw[c3U hi,e]
   rw[d1,List.all_cons] at hE;have g1:qz L z=some (cT x):=by rw[r2,hz,c3E (by omega),hL];exact T3 hx
   have hz1:qa .i64 (qb z 1)=((k+1:Nat):Int):=by rw[e1,e2,hz,IntWalk.i64_in _ (by omega)];omega
   have hm:P.length - (qa .i64 (qb z 1)).toNat<P.length - z.toNat:=by rw[hz1,hz];omega
   have hxo:qj x.op 7=(x.op == 7):=e9 _ _;obtain⟨o1,m1,n1,l1⟩:=x;rw[cT] at g1;simp only[Ty.op] at hxo;generalize rT l1=L1 at *;rw[hlt];cbv;refine gn ?_;refine l7 hA (γ:=Int) (λy=>[(5,vi .i64 y)]) (λ_=>[]) (λy=>∃j:Nat,y=(j:Int)/\j<=P.length/\(((P.drop j).all λy=>!F8 (.mk o1 m1 n1 l1) y) && ((P.drop (k+1)).all λx=>P.all λy=>!F8 x y))=b) (λy=>P.length - y.toNat) 0 ?_ ?_ ?_
   ·exact⟨0,rfl,c4e _,hE⟩
   ·cbv
   ·intro y hinv2;cbv;refine gn ?_;obtain⟨j,hy,hj,hE2⟩:=hinv2;replace hy:y=(j:Int):=hy;replace hlen:qy L=((P.length:Nat):Int):=hlen;have hlt2:qh y (qy L)=decide (j<P.length):=by rw[e7,hlen,hy];exact c3M.2 (by omega)
    by_cases h8:j<P.length
    ·rw[c3K h8] at hlt2;obtain⟨v,hv⟩:∃v,P[j]?=some v:=⟨_,c39 h8⟩;have d2:P.drop j=v::P.drop (j+1):=by obtain⟨hi,e⟩:=c35.1 hv;rw[c3U hi,e]
     rw[d2,List.all_cons] at hE2;have g2:qz L y=some (cT v):=by rw[r2,hy,c3E (by omega),hL];exact T3 hv
     have hy1:qa .i64 (qb y 1)=((j+1:Nat):Int):=by rw[e1,e2,hy,IntWalk.i64_in _ (by omega)];omega
     have hm2:P.length - (qa .i64 (qb y 1)).toNat<P.length - y.toNat:=by rw[hy1,hy];omega
     obtain⟨o2,m2,n2,l2⟩:=v;rw[cT] at g2;generalize rT l2=L2 at *;have hcl:F8 (.mk o1 m1 n1 l1) (.mk o2 m2 n2 l2)=(qj o1 7 && (qj o2 10 && qj n1 n2)):=by rw[e9,e9,e9];rfl
     rw[hcl] at hE2;rw[hlt2];cbv;refine gn ?_;rw[g1];cbv;cases q7:qj o1 7
     ·rw[q7] at hE2;cbv;refine gn ?_;exact⟨_,⟨j+1,hy1,h8,hE2⟩,hm2,by cbv⟩
     ·rw[q7] at hE2;cbv;refine gn ?_;rw[g2];cbv;cases q10:qj o2 10
      ·rw[q10] at hE2;cbv;refine gn ?_;exact⟨_,⟨j+1,hy1,h8,hE2⟩,hm2,by cbv⟩
      ·rw[q10] at hE2;cbv;refine gn ?_
       try (rw[g1];cbv)
       try (rw[g2];cbv)
       cases qn:qj n1 n2
       ·rw[qn] at hE2;cbv;refine gn ?_;exact⟨_,⟨j+1,hy1,h8,hE2⟩,hm2,by cbv⟩
       ·rw[qn] at hE2;cbv;refine gn ?_;exact E4 hE2
    ·rw[c3I h8] at hlt2;rw[c4m (by omega)] at hE2;rw[hlt2];cbv;refine gn ?_;exact⟨_,⟨k+1,hz1,h9,hE2⟩,hm,by cbv⟩
  ·rw[c3I h9] at hlt;rw[c4m (by omega)] at hE;rw[hlt];cbv;refine gn ?_;exact E4 hE
def j1 (t:Ty) (s:Int):Bool:=c8 f8 t s && P6 t
theorem a9W (t:Ty) (hN:t.parts.length<=1048576) (hnm:∀x∈t.parts,x.name.size<=1048576):l6 9 [.ag (cT t)] [.one (.sc (.bool (j1 t 116)))]:=by
 have h1:=b98 t 116 hN hnm;have h2:=c1x t hN;generalize hb:j1 t 116=b;unfold j1 at hb;generalize c8 f8 t 116=q1 at *;generalize P6 t=q2 at *;obtain⟨c0,c1,c2,c3,hc⟩:∃c0 c1 c2 c3,cT t=[c0,c1,c2,c3]:=by obtain⟨op,nm,n,ks⟩:=t;exact⟨_,_,_,_,by rw[cT]⟩
 rw[hc] at h1 h2 ⊢;refine K7 Tryd.func9 rfl ?_;intros;rename_i hA;cbv;refine gn ?_;refine c5 hA _ h1 ?_ ?_
 ·rfl
 cases q1
 ·cbv;refine gn ?_;exact E4 hb
 ·cbv;refine gn ?_;refine c5 hA _ h2 ?_ ?_
  ·rfl
  cbv;refine gn ?_;exact E4 hb
def ik (n:Int):R:=.one (.sc (.int .i64 n))
def a34 (es:List (R×R)):Prop:=∀p∈es,∃m,p.1=ik m
theorem a5O (m n:Int):rEq (ik m) (ik n)=(m == n):=a1a m n
theorem a5P (n x:Int) (q:R):∀(es:List (R×R)),a34 es->a11 (a05 es (ik n) q) (ik x)=if x=n then some q else a11 es (ik x)
 | [],_=>by
  rw[a05];show (match rEq (ik n) (ik x) with|true=>some q|false=>a11 [] (ik x))=_;rw[a5O]
  by_cases h:x=n
  ·subst h;simp
  ·rw[c3G h,c3R.2 (λe=>h e.symm)]
 | (k,v)::es,h=>by
  obtain⟨m,hm⟩:=h _ (c38 ..);simp only at hm;subst hm;have ih:=a5P n x q es λp hp=>h p (c36 _ hp)
  rw[a05,a5O]
  by_cases hmn:m=n
  ·subst hmn;simp only[c4M];rw[a11,a11,a5O]
   by_cases h:x=m
   ·subst h;simp
   ·rw[c3G h,c3R.2 (λe=>h e.symm)]
  ·rw[c3R.2 hmn];simp only;rw[a11,a11,a5O,ih]
   by_cases h:m=x
   ·subst h;simp[hmn]
   ·rw[c3R.2 h]
theorem a6r {es:List (R×R)} (h:a34 es) (n:Int) (q:R):a34 (a05 es (ik n) q):=by
 induction es with
 | nil=>intro p hp;rw[a05] at hp;simp at hp;subst hp;exact⟨n,rfl⟩
 | cons e es ih =>
  obtain⟨k,v⟩:=e;intro p hp;rw[a05] at hp
  split at hp
  ·rcases c3F.1 hp with rfl|hp
   ·exact h (k,v) (c38 ..)
   ·exact h p (c36 _ hp)
  ·rcases c3F.1 hp with rfl|hp
   ·exact h (k,v) (c38 ..)
   ·exact ih (λp hp=>h p (c36 _ hp)) p hp
def SAt (es:List (R×R)) (s:Int->Option Bool):Prop:=a34 es/\∀n,a11 es (ik n)=(s n).map λb=>R.one (.sc (.bool b))
theorem SAt.set {es:List (R×R)} {s:Int->Option Bool} (h:SAt es s) (n:Int) (b:Bool):SAt (a05 es (ik n) (.one (.sc (.bool b)))) (a7D s n b):=by
 refine⟨a6r h.1 n _,λx=>?_⟩;rw[a5P n x _ es h.1];unfold a7D
 by_cases hx:x=n
 ·rw[c3E hx,c3E hx];rfl
 ·rw[c3G hx,c3G hx];exact h.2 x
theorem SAt.nil:SAt [] λ_=>none:=⟨λp hp=>by simp at hp,λn=>rfl⟩
def c3f:Option Bool->Bool->Bool
 | none,_=>true
 | some b,row=>bEq b row
theorem c1y (es:List (R×R)) (n:Int) (row:Bool) (o:Option Bool) (ho:a11 es (ik n)=o.map λb=>R.one (.sc (.bool b))) :
  o5 54 [.mp 0,vi .i64 n,vb row] [.mp 3 es] (λres os2=>res=[vb (c3f o row)]/\os2=[.mp 3 (a05 es (ik n) (.one (.sc (.bool row))))]):=by
 obtain⟨es2,h2⟩:∃e,e=a05 es (ik n) (.one (.sc (.bool row))):=⟨_,rfl⟩;rw[<-h2];refine so9 Tryd.func54 rfl ?_;intro _ _ _ _ _ _ _ _ _ _ _ _ _ _ _ _ _ _ _ _ _ _ _ _ _ _ _ _ vg vh;intros;rename_i hA;cbv;refine gn ?_;obtain⟨m1,m2,-⟩:=N6 hA;have hl:vg es (ik n)=o.map λb=>R.one (.sc (.bool b)):=by rw[m1,ho]
 have hp:vh es (ik n) (.one (.sc (.bool row)))=es2:=by rw[m2,h2]
 unfold ik at hl hp;rw[hl];cases o with
 | none =>
  cbv;refine gn ?_;rw[hp];refine i6 hA [0] ⟨rfl,rfl,rfl,rfl,rfl,rfl,rfl,rfl⟩ ⟨rfl,rfl⟩
 | some b =>
  cases b <;> cases row
  all_goals
   cbv;refine gn ?_;rw[hp];exact i6 hA [0] ⟨rfl,rfl,rfl,rfl,rfl,rfl,rfl,rfl⟩ ⟨rfl,rfl⟩
def sI (row:Bool):Int:=match row with|true=>114|false=>116
def a9X (op:Int):Option (Int×Bool×Bool):=if op=1\/op=2\/op=3 then some (0,false,false) else if op=4 then some (2,false,false) else if op=5\/op=6 then some (1,false,false) else if op=7 then some (0,false,true)
 else if op=8\/op=9 then some (0,false,false) else if op=10 then some (0,false,true) else if op=11 then some (2,true,false) else none
def a5Q (b:Bool) (F:Option (Int->Option Bool)) (res:List V) (os2:List O):Prop:=∃es',os2=[.mp 3 es']/\a34 es'/\res=[vb b]/\(b=true->∀s',F=some s'->SAt es' s')
def rtS (op:Int) (nm:ByteArray) (n:Int) (K:List (List D)) (row:Bool) (es:List (R×R)) (kn:Int) (named numbered:Bool) (j12 j13 j14 j15 j16 j17 j18 j19 j20 j21 j22 j23 j24 j25 j26 j27 j28 j29 j30 j31:V):S :=
 ⟨[.mp 0,.ag [.d (.sc (.int .u8 op)),.d (.sc (.string nm)),.d (.sc (.int .i64 n)),.d (.sl 4 K)],vb row,.tu [],.ptr 1 0,.tu [],vb false,vi .i64 kn,vb named,vb numbered,.tu [],.tu [],j12,j13,j14,j15,j16,j17,j18,j19,j20,j21,j22,j23,j24,j25,j26,j27,j28,j29,j30,j31]++uns 81,
  [.mp 3 es,.box [.d (.sc (.int .u8 op)),.d (.sc (.string nm)),.d (.sc (.int .i64 n)),.d (.sl 4 K)]]⟩
theorem b5L (op:Int) (nm:ByteArray) (n:Int) (K:List (List D)) (row:Bool) (es:List (R×R)) (r:Code) (Kc:X->S->Prop) (hgo:∀kn a b,a9X op=some (kn,a,b)->∀j12 j13 j14 j15 j16 j17 j18 j19 j20 j21 j22 j23 j24 j25 j26 j27 j28 j29 j30 j31,x5 a7 r (rtS op nm n K row es kn a b j12 j13 j14 j15 j16 j17 j18 j19 j20 j21 j22 j23 j24 j25 j26 j27 j28 j29 j30 j31) Kc) (hno:a9X op=none->∀s:S,s.o=[.mp 3 es,.box [.d (.sc (.int .u8 op)),.d (.sc (.string nm)),.d (.sc (.int .i64 n)),.d (.sl 4 K)]]->m5 s.t 6=vb false->Kc .ret s):∀qa qb qc qd qe qf qg qh qi qj qk ql qm qo qp qq qs qt qu qv qw qx qy qz vc vd ve vf vg vh vj vk vl vp vq vr vt vu vv vw vx vy vz,Ar.mk qa qb qc qd qe qf qg qh qi qj qk ql qm qo qp qq qs qt qu qv qw qx qy qz vc vd ve vf vg vh vj vk vl vp vq vr vt vu vv vw vx vy vz=a7 ->
  x5 (Ar.mk qa qb qc qd qe qf qg qh qi qj qk ql qm qo qp qq qs qt qu qv qw qx qy qz vc vd ve vf vg vh vj vk vl vp vq vr vt vu vv vw vx vy vz) (.seq (I6 (Tryd.f30.body.getD .skip)) (.seq (I6 (j0 (Tryd.f30.body.getD .skip))) (.seq (I6 (j0 (j0 (Tryd.f30.body.getD .skip)))) (.seq (I6 (j0 (j0 (j0 (Tryd.f30.body.getD .skip))))) r))))
   (a2S [.mp 0,.ag [.d (.sc (.int .u8 op)),.d (.sc (.string nm)),.d (.sc (.int .i64 n)),.d (.sl 4 K)],vb row] [.mp 3 es] (Tryd.f30.ntmps - n7 [V.mp 0,.ag [.d (.sc (.int .u8 op)),.d (.sc (.string nm)),.d (.sc (.int .i64 n)),.d (.sl 4 K)],vb row])) Kc:=by
 intro qa qb qc qd qe qf qg qh qi qj qk ql qm qo qp qq qs qt qu qv qw qx qy qz vc vd ve vf vg vh vj vk vl vp vq vr vt vu vv vw vx vy vz hA;obtain⟨e1,e2,e3,e4,e5,e6,e7,e8,e9⟩:=j3 hA;have hq:∀i:Int,qj op i=decide (op=i):=λi=>e9 op i
 have key:∀kn a b,a9X op=some (kn,a,b)->∀j12 j13 j14 j15 j16 j17 j18 j19 j20 j21 j22 j23 j24 j25 j26 j27 j28 j29 j30 j31,x5 (Ar.mk qa qb qc qd qe qf qg qh qi qj qk ql qm qo qp qq qs qt qu qv qw qx qy qz vc vd ve vf vg vh vj vk vl vp vq vr vt vu vv vw vx vy vz) r (rtS op nm n K row es kn a b j12 j13 j14 j15 j16 j17 j18 j19 j20 j21 j22 j23 j24 j25 j26 j27 j28 j29 j30 j31) Kc:=λkn a b h=>by rw[hA];exact hgo kn a b h
 clear hgo;cbv
 repeat ((with_reducible apply b6 hA);cbv)
 cases q1:qj op 1
 rotate_left
 ·have hop:op=1:=by rw[hq] at q1;exact c4d q1
  have hk:=key 0 false false (by rw[hop];rfl);unfold x5 at hk;cbv
  repeat ((with_reducible apply b6 hA);cbv)
  exact hk _ _ _ _ _ _ _ _ _ _ _ _ _ _ _ _ _ _ _ _
 cbv
 repeat ((with_reducible apply b6 hA);cbv)
 cases q2:qj op 2
 rotate_left
 ·have hop:op=2:=by rw[hq] at q2;exact c4d q2
  have hk:=key 0 false false (by rw[hop];rfl);unfold x5 at hk;cbv
  repeat ((with_reducible apply b6 hA);cbv)
  exact hk _ _ _ _ _ _ _ _ _ _ _ _ _ _ _ _ _ _ _ _
 cbv
 repeat ((with_reducible apply b6 hA);cbv)
 cases q3:qj op 3
 rotate_left
 ·have hop:op=3:=by rw[hq] at q3;exact c4d q3
  have hk:=key 0 false false (by rw[hop];rfl);unfold x5 at hk;cbv
  repeat ((with_reducible apply b6 hA);cbv)
  exact hk _ _ _ _ _ _ _ _ _ _ _ _ _ _ _ _ _ _ _ _
 cbv
 repeat ((with_reducible apply b6 hA);cbv)
 cases q4:qj op 4
 rotate_left
 ·have hop:op=4:=by rw[hq] at q4;exact c4d q4
  have hk:=key 2 false false (by rw[hop];rfl);unfold x5 at hk;cbv
  repeat ((with_reducible apply b6 hA);cbv)
  exact hk _ _ _ _ _ _ _ _ _ _ _ _ _ _ _ _ _ _ _ _
 cbv
 repeat ((with_reducible apply b6 hA);cbv)
 cases q5:qj op 5
 rotate_left
 ·have hop:op=5:=by rw[hq] at q5;exact c4d q5
  have hk:=key 1 false false (by rw[hop];rfl);unfold x5 at hk;cbv
  repeat ((with_reducible apply b6 hA);cbv)
  exact hk _ _ _ _ _ _ _ _ _ _ _ _ _ _ _ _ _ _ _ _
 cbv
 repeat ((with_reducible apply b6 hA);cbv)
 cases q6:qj op 6
 rotate_left
 ·have hop:op=6:=by rw[hq] at q6;exact c4d q6
  have hk:=key 1 false false (by rw[hop];rfl);unfold x5 at hk;cbv
  repeat ((with_reducible apply b6 hA);cbv)
  exact hk _ _ _ _ _ _ _ _ _ _ _ _ _ _ _ _ _ _ _ _
 cbv
 repeat ((with_reducible apply b6 hA);cbv)
 cases q7:qj op 7
 rotate_left
 ·have hop:op=7:=by rw[hq] at q7;exact c4d q7
  have hk:=key 0 false true (by rw[hop];rfl);unfold x5 at hk;cbv
  repeat ((with_reducible apply b6 hA);cbv)
  exact hk _ _ _ _ _ _ _ _ _ _ _ _ _ _ _ _ _ _ _ _
 cbv
 repeat ((with_reducible apply b6 hA);cbv)
 cases q8:qj op 8
 rotate_left
 ·have hop:op=8:=by rw[hq] at q8;exact c4d q8
  have hk:=key 0 false false (by rw[hop];rfl);unfold x5 at hk;cbv
  repeat ((with_reducible apply b6 hA);cbv)
  exact hk _ _ _ _ _ _ _ _ _ _ _ _ _ _ _ _ _ _ _ _
 cbv
 repeat ((with_reducible apply b6 hA);cbv)
 cases q9:qj op 9
 rotate_left
 ·have hop:op=9:=by rw[hq] at q9;exact c4d q9
  have hk:=key 0 false false (by rw[hop];rfl);unfold x5 at hk;cbv
  repeat ((with_reducible apply b6 hA);cbv)
  exact hk _ _ _ _ _ _ _ _ _ _ _ _ _ _ _ _ _ _ _ _
 cbv
 repeat ((with_reducible apply b6 hA);cbv)
 cases q10:qj op 10
 rotate_left
 ·have hop:op=10:=by rw[hq] at q10;exact c4d q10
  have hk:=key 0 false true (by rw[hop];rfl);unfold x5 at hk;cbv
  repeat ((with_reducible apply b6 hA);cbv)
  exact hk _ _ _ _ _ _ _ _ _ _ _ _ _ _ _ _ _ _ _ _
 cbv
 repeat ((with_reducible apply b6 hA);cbv)
 cases q11:qj op 11
 rotate_left
 ·have hop:op=11:=by rw[hq] at q11;exact c4d q11
  have hk:=key 2 true false (by rw[hop];rfl);unfold x5 at hk;cbv
  repeat ((with_reducible apply b6 hA);cbv)
  exact hk _ _ _ _ _ _ _ _ _ _ _ _ _ _ _ _ _ _ _ _
 cbv
 repeat ((with_reducible apply b6 hA);cbv)
 have hn:a9X op=none:=by
  rw[hq] at q1 q2 q3 q4 q5 q6 q7 q8 q9 q10 q11;have p1:=c49 q1;have p2:=c49 q2;have p3:=c49 q3;have p4:=c49 q4;have p5:=c49 q5;have p6:=c49 q6;have p7:=c49 q7;have p8:=c49 q8;have p9:=c49 q9;have p10:=c49 q10;have p11:=c49 q11;unfold a9X
  simp[p1,p2,p3,p4,p5,p6,p7,p8,p9,p10,p11]
 exact hno hn _ rfl rfl
end Go.Proofs.YtlofmibkljoapaaDoor.Vm
end

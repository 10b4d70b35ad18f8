/- Part 10 of the proof. Conditions: none. -/
import Derived.Test.YtdjnoafijjepcaaGreatT4
import Derived.Test.YtdjnoafijjepcaaGreatT6
import Derived.Test.YtdjnoafijjepcaaGreatT9
import Derived.Shelf.Small.Strs
import Derived.Test.YtdjnoafijjepcaaGreatProg
import Derived.IntWalk
import Derived.RangeFuncNested
import Derived.RangeFuncBound
import Derived.RangeFuncCalls
import Derived.RangeFuncLeaves
import Derived.RangeFuncFrom
import Derived.Shelf.Abstract
import Derived.WalkKit
import Derived.OwnWalkIn
import Derived.TacticsInMore
import Derived.LoopNIn
import Derived.LoopIn
import Derived.Test.YtdjnoafijjepcaaGreatT0
set_option linter.all false
set_option linter.unusedVariables false
set_option linter.unusedSimpArgs false
section
namespace Go.Proofs
open Go.Shelf
def Tryz.lays106_ren:Go.Shelf.Ren:=⟨fun|106=>108|213=>119|265=>132|n=>n,fun|9=>9|3=>3|n=>n,fun|n=>n⟩
theorem Tryz.lays106:Go.Proofs.Lays.n106 Tryz.prog Tryz.lays106_ren:={
 mixed:=by kernel_rfl
 f106:=Tryz.func108.trans (congrArg some (by kernel_rfl))
 f213:=Tryz.func119.trans (congrArg some (by kernel_rfl))
 f265:=Tryz.func132.trans (congrArg some (by kernel_rfl))
 t3:=Tryz.underlying3
 a3:=Tryz.isAgg3
 z3:=Tryz.sizeOf3
 v3:=Tryz.zeroValue3
 t9:=Tryz.underlying9
 a9:=Tryz.isAgg9
 z9:=Tryz.sizeOf9
 v9:=Tryz.zeroValue9 }
open Go.RowKit in
theorem Tryz.strings_Compare (a b:ByteArray) (w:World) :
  Calls Tryz.prog 108 #[.string a,.string b] w λe w'=>e=.returned (.int .i64 (Lib.compareBytes a.data.toList b.data.toList))/\w'=w:=Any.strings_Compare Tryz.lays106 a b w
end Go.Proofs
end
section
namespace Go.Proofs.YtdjnoafijjepcaaGreat.Vm
open Go.RowKit
set_option maxRecDepth 100000
set_option maxHeartbeats 4000000
theorem d1k (a b:ByteArray):o8 108 [.one (.sc (.string a)),.one (.sc (.string b))] [.one (.sc (.int .i64 (Lib.compareBytes a.data.toList b.data.toList)))]:=by
 refine⟨by kernel_rfl,λI w args hI hat=>?_⟩
 match args,hat with
 | [v1,v2],⟨h1,h2,_⟩ =>
  have h1:AtD I w v1 (.sc (.string a)):=h1;have h2:AtD I w v2 (.sc (.string b)):=h2;cases h1;cases h2;refine(Tryz.strings_Compare a b w).mono ?_
  rintro e w' ⟨rfl,rfl⟩
  exact⟨_,rfl,.sc _ rfl,Below.refl _ _⟩
theorem b0t:∀a b:List UInt8,Lib.compareBytes a b=a5r a b
 | [],[]=>rfl
 | [],_::_=>by simp[Lib.compareBytes,a5r,Op.bytesLess]
 | _::_,[]=>by simp[Lib.compareBytes,a5r,Op.bytesLess]
 | x::a,y::b=>by
  rw[Lib.compareBytes,b0t a b];unfold a5r;simp only[Op.bytesLess]
  by_cases h1:x<y
  ·simp[h1]
  ·by_cases h2:y<x
   ·have hne:x≠y:=λe=>by rw[e] at h2;exact h1 (by rw[e];exact h2)
    simp[h1,h2,hne]
   ·have e:x=y:=by
     rw[d6f] at h1 h2;exact d6o.1 (by omega)
    subst e
    simp[h1]
theorem c5E:b3p 107:=by
 intro n m x1 x2 x3 x4 y1 y2 y3 y4;have hc:=d1k n m;rw[b0t,<-ByteArray.toList_eq,<-ByteArray.toList_eq] at hc;generalize a5r n.toList m.toList=cv at *;refine Q5 Tryz.func107 rfl ?_;intros;rename_i hA;cbv
 repeat ((with_reducible apply j6 hA);cbv)
 refine j8 hA _ hc ?_ ?_
 ·rfl
 cbv
 repeat ((with_reducible apply j6 hA);cbv)
theorem c5F (nm:ByteArray) (x0 x1 x2 x3 r0 r1 r2 r3:D):o8 98 [.one (.sc (.string nm)),.ag [x0,x1,x2,x3],.ag [r0,r1,r2,r3]] [.ag [.sc (.int .u8 11),.sc (.string nm),.sc (.int .i64 0),.sl 4 [[x0,x1,x2,x3],[r0,r1,r2,r3]]]]:=by
 refine Q5 Tryz.func98 rfl ?_;intros;rename_i hA;cbv
 repeat ((with_reducible first|apply j6 hA|apply E2 hA true);cbv)
theorem b9H (f:ByteArray×Ty) (fs:List (ByteArray×Ty)) (tl:Ty):a0E (f::fs) tl=.mk 11 f.1 0 [f.2,a0E fs tl]:=rfl
theorem d2V (fs:List (ByteArray×Ty)) (tl:Ty) (hn:fs.length<=1048576):o8 85 [.one (.sl 5 (rF fs)),.ag (cT tl)] [.ag (cT (a0E fs tl))]:=by
 obtain⟨L,hL⟩:∃L,L=rF fs:=⟨_,rfl⟩;rw[<-hL];obtain⟨t0,t1,t2,t3,ht⟩:=m8 tl;obtain⟨q0,q1,q2,q3,hq⟩:=m8 (a0E fs tl);rw[ht,hq];refine Q5 Tryz.func85 rfl ?_;intro qa _ qc _ _ _ _ _ qj _ _ _ _ _ _ _ _ _ _ _ _ _ va vc;intros;rename_i hA;cbv;refine gn ?_;obtain⟨e1,e2,e3,e4,e5,e6,e7,e8,e9⟩:=m6 hA;obtain⟨r1,r2,-⟩:=B3 hA;have hlen:va L=((fs.length:Nat):Int):=by rw[r1,hL,a2u]
 have hz0:qa .i64 (qc (va L) 1)=((fs.length:Nat):Int) - 1:=by rw[e1,e3,hlen,IntWalk.i64_in _ (by omega)]
 refine n9 hA (γ:=Int×D×D×D×D) (λx=>[(6,vi .i64 x.1)]) (λx=>[(2,.box [.d x.2.1,.d x.2.2.1,.d x.2.2.2.1,.d x.2.2.2.2])]) (λx=>∃k:Nat,x.1=(k:Int) - 1/\k<=fs.length/\cT (a0E (fs.drop k) tl)=[x.2.1,x.2.2.1,x.2.2.2.1,x.2.2.2.2]) (λx=>(x.1+1).toNat) (qa .i64 (qc (va L) 1),t0,t1,t2,t3) ?_ ?_ ?_
 ·exact⟨fs.length,hz0,d3Q _,by rw[List.drop_length];exact ht⟩
 ·cbv
 ·intro x hinv;obtain⟨z,a0,a1,a2,a3⟩:=x;cbv;refine gn ?_;obtain⟨k,hz,hk,hE⟩:=hinv;replace hz:z=(k:Int) - 1:=hz;replace hE:cT (a0E (fs.drop k) tl)=[a0,a1,a2,a3]:=hE;have hge:qj 0 z=decide (0<k):=by rw[e8,hz];exact d3X.2 (by omega)
  by_cases h9:0<k
  ·rw[d3S h9] at hge;obtain⟨x,hx⟩:∃x,fs[k - 1]?=some x:=⟨_,d3H (by omega)⟩;have g1:vc L z=some (.sc (.string x.1)::cT x.2):=by rw[r2,hz,d3I (by omega),hL,show ((k:Int) - 1).toNat=k - 1 by omega];exact b3i hx
   have d1:fs.drop (k - 1)=x::fs.drop k:=by obtain⟨hi,e⟩:=d3J.1 hx;rw[d4c hi,e,show k - 1+1=k by omega]
   have hz1:qa .i64 (qc z 1)=((k - 1:Nat):Int) - 1:=by rw[e1,e3,hz,IntWalk.i64_in _ (by omega)];omega
   have hm:(qa .i64 (qc z 1)+1).toNat<(z+1).toNat:=by rw[hz1,hz];omega
   obtain⟨nm,x⟩:=x;obtain⟨x0,x1,x2,x3,hxx⟩:=m8 x;simp only at g1;rw[hxx] at g1;have hsp:=c5F nm x0 x1 x2 x3 a0 a1 a2 a3
   have hnew:cT (a0E (fs.drop (k - 1)) tl)=[.sc (.int .u8 11),.sc (.string nm),.sc (.int .i64 0),.sl 4 [[x0,x1,x2,x3],[a0,a1,a2,a3]]]:=by
    rw[d1,b9H,cT,rT,rT,rT,hxx,hE]
   rw[hge];cbv;refine gn ?_;rw[g1];cbv
   try (rw[g1];cbv)
   refine l9 hA _ hsp ?_;cbv
   repeat ((with_reducible apply j6 hA);cbv)
   exact⟨(_,_,_,_,_),⟨k - 1,hz1,by omega,hnew⟩,hm,by cbv⟩
  ·rw[d3P h9] at hge;have hk0:k=0:=by omega
   rw[hk0,d5b,hq] at hE;cases hE;rw[hge];cbv
   repeat ((with_reducible apply j6 hA);cbv)
theorem a8Q {ks:List Ty} {k:Nat} {x:Ty} (h:ks[k]?=some x):rT (ks.take (k+1))=rT (ks.take k)++[cT x]:=by
 obtain⟨hi,e⟩:=d3J.1 h;rw[a4B,a4B,d4Y hi,e,d45];rfl
theorem a1J:∀t:Ty,t.parts.length<=1048576->o8 109 [.ag (cT t)] [.ag (cT t)]:=by
 intro t
 induction t using Ty.ind with
 | h t ih =>
  intro hN;have hkl:=J7 t;obtain⟨op,nm,n,ks⟩:=t;simp only[Ty.kids] at hkl ih;rw[cT];obtain⟨K,hK⟩:∃K,K=rT ks:=⟨_,rfl⟩;rw[<-hK];refine Q5 Tryz.func109 rfl ?_;intro qa qb _ _ _ _ _ qi _ _ _ _ _ _ _ _ _ _ _ _ _ _ va vc _ ve;intros;rename_i hA;cbv
  with_reducible apply j6 hA
  cbv;refine a3b hA 3 27 true rfl ?_;cbv
  repeat ((with_reducible apply j6 hA);cbv)
  obtain⟨e1,e2,e3,e4,e5,e6,e7,e8,e9⟩:=m6 hA;obtain⟨r1,r2,r3,r4⟩:=B3 hA;refine n9 hA (γ:=Int×List (List D)) (λx=>[(9,vi .i64 x.1),(3,.own 2),(13,.jk)]) (λx=>[(2,.row true 27 x.2)]) (λx=>∃k:Nat,x.1=(k:Int)/\k<=ks.length/\x.2=rT (ks.take k)) (λx=>ks.length - x.1.toNat) (0,[]) ?_ ?_ ?_
  ·exact⟨0,rfl,d4o _,rfl⟩
  ·cbv
  ·intro x hinv;obtain⟨z,L⟩:=x;cbv;refine gn ?_;obtain⟨k,hz,hk,hE⟩:=hinv;have hz:z=(k:Int):=hz;replace hE:L=rT (ks.take k):=hE;have hlen:va K=(ks.length:Int):=by rw[r1,hK,M4]
   have hlt:qi z (va K)=decide (k<ks.length):=by rw[e7,hlen,hz];exact d3X.2 (by omega)
   by_cases h9:k<ks.length
   ·rw[d3S h9] at hlt;obtain⟨x,hx⟩:∃x,ks[k]?=some x:=⟨_,d3H h9⟩;have g1:vc K z=some (cT x):=by rw[r2,hz,d3I (by omega),hK];exact a1q hx
    have hsp:=ih x (d3U hx) (by have:=hkl.2 x (d3U hx);omega);have hsn:=a8Q hx;obtain⟨o1,m1,n1,l1⟩:=x;rw[cT] at g1 hsp hsn;generalize rT l1=L1 at *;rw[hlt];cbv;refine gn ?_;rw[g1];cbv
    repeat ((with_reducible apply j6 hA);cbv)
    refine j8 hA _ hsp ?_ ?_
    ·rfl
    cbv;refine E2 hA true ?_;cbv;refine F3 hA (by rw[hE,M4];simp;omega) ?_;cbv
    repeat ((with_reducible apply j6 hA);cbv)
    replace hz:z=(k:Int):=hz;have hz1:qa .i64 (qb z 1)=((k+1:Nat):Int):=by rw[e1,e2,hz,IntWalk.i64_in _ (by omega)];omega
    refine⟨(qa .i64 (qb z 1),ve L [[.sc (.int .u8 o1),.sc (.string m1),.sc (.int .i64 n1),.sl 4 L1]]),⟨k+1,hz1,h9,by show ve L _=_;rw[r4,hE,hsn]⟩,by show ks.length - (qa .i64 (qb z 1)).toNat<ks.length - z.toNat;rw[hz1,hz];omega,?_⟩;cbv
   ·rw[d3P h9] at hlt;rw[hlt];cbv;refine gn ?_;have hE2:L=K:=by rw[hE,hK,d4z (by omega)]
    rw[hE2];exact⟨rfl,trivial⟩
def cfS (f:ByteArray×Ty):ByteArray×Ty:=(f.1,y9 f.2)
theorem a4I:∀(n:Nat) (t:Ty),t.parts.length<=n->(A4 t).length<t.parts.length:=by
 intro n
 induction n with
 | zero=>intro t h;have:=F9 t;omega
 | succ n ih =>
  intro t h;have hp:=F9 t;obtain⟨op,nm,k,ks⟩:=t
  match ks with
  | []=>exact hp
  | [x]=>exact hp
  | x::y::z::l=>exact hp
  | [x,r] =>
   have hk:=J7 (.mk op nm k [x,r]);have hr:=hk.2 r (by simp[Ty.kids]);unfold A4
   by_cases h11:op=11
   ·rw[d3I h11,d3O];have:=ih r (by omega);omega
   ·rw[d3G h11];exact hp
theorem c5G:∀(m:Nat) (t:Ty),t.parts.length<=m->m<=1048576->(∀x∈t.parts,a03 x)->o8 66 [.ag (cT t)] [.ag (cT (y9 t))]:=by
 intro m
 induction m with
 | zero=>intro t h;have:=F9 t;omega
 | succ m ih =>
  intro t hm hm2 hsp;have hself:t∈t.parts:=by rw[J4];exact d3L ..
  have hkl:=J7 t;obtain⟨op,nm,n,ks⟩:=t;generalize ht:Ty.mk op nm n ks=t at *;have hc:cT t=[.sc (.int .u8 op),.sc (.string nm),.sc (.int .i64 n),.sl 4 (rT ks)]:=by rw[<-ht,cT]
  have hks:t.kids=ks:=by rw[<-ht];rfl
  rw[hks] at hkl
  by_cases hop:op=11
  ·have hF:=b9C t (hsp t hself) (by omega);have hcr:=a36 (t:=t) (by rw[<-ht];exact hop)
   have hih:∀f∈r7 ltF (A4 t),o8 66 [.ag (cT f.2)] [.ag (cT (y9 f.2))]:=λf hf=>by
    have h1:=T4 hf;have h2:=a0d _ t (d3Q _) f h1;have h3:=a3X _ t (d3Q _) f h1;exact ih f.2 (by omega) (by omega) λx hx=>hsp x (a0O hx h3)
   have hlen:(r7 ltF (A4 t)).length<=1048576:=by
    rw[a37];have:=a4I _ t (d3Q _);omega
   rw[hc] at hF ⊢;obtain⟨K0,hK0⟩:∃K,K=rT ks:=⟨_,rfl⟩;rw[<-hK0] at hF ⊢;generalize r7 ltF (A4 t)=L at *;have hOf:=d2V (L.map cfS) (N4 t) (by rw[d4g];exact hlen);rw[show a0E (L.map cfS) (N4 t)=y9 t from hcr.symm] at hOf;obtain⟨y0,y1,y2,y3,hy⟩:=m8 (y9 t);obtain⟨q0,q1,q2,q3,hq⟩:=m8 (N4 t);rw[hq] at hF hOf;rw[hy] at hOf ⊢;obtain⟨M0,hM0⟩:∃M,M=rF L:=⟨_,rfl⟩;rw[<-hM0] at hF;refine Q5 Tryz.func66 rfl λqa qb qc qd qe qg qh qi qj qk ql qm qo qp qq qt qu qv qw qx qy qz va vc vd ve vf vg vh vj vk vl vm vn vo vq vr vt vu vv vw vx vy hA=>?_
   cbv;refine gn ?_;have h11:qk op 11=decide (op=11):=by have e:=m6 hA;exact e.2.2.2.2.2.2.2.2 _ _
   rw[d3S hop] at h11;rw[h11];cbv;refine gn ?_;refine A1 hA [] hF ⟨rfl,rfl,rfl,rfl,rfl,rfl,rfl⟩ ?_
   rintro res os2 ⟨rfl,rfl⟩
   cbv;refine gn ?_;obtain⟨e1,e2,e3,e4,e5,e6,e7,e8,e9⟩:=m6 hA;obtain⟨r1,r2,r3,r4⟩:=B3 hA;obtain⟨m1,m2,m3,m4⟩:=a0X hA;refine n9 hA (γ:=Int×List (List D)) (λx=>[(5,vi .i64 x.1),(11,.jk),(13,.jk)]) (λx=>[(2,.row false 124 x.2)]) (λx=>∃k:Nat,x.1=(k:Int)/\k<=L.length/\x.2=rF ((L.take k).map cfS++L.drop k)) (λx=>L.length - x.1.toNat) (0,M0) ?_ ?_ ?_
   ·exact⟨0,rfl,d4o _,hM0⟩
   ·cbv
   ·intro x hinv;obtain⟨z,M⟩:=x;cbv;refine gn ?_;obtain⟨k,hz,hk,hM⟩:=hinv;replace hz:z=(k:Int):=hz;replace hM:M=rF ((L.take k).map cfS++L.drop k):=hM;have hll:va M=((L.length:Nat):Int):=by rw[r1,hM,a2u];simp;omega
    have hlt:qi z (va M)=decide (k<L.length):=by rw[e7,hll,hz];exact d3X.2 (by omega)
    by_cases h9:k<L.length
    ·rw[d3S h9] at hlt;obtain⟨x,hx⟩:∃x,L[k]?=some x:=⟨_,d3H h9⟩;have hspx:=hih x (d3U hx)
     have hxe:((L.take k).map cfS++L.drop k)[k]?=some x:=by
      rw[d3V (by simp;omega)]
      simp
      rw[d5Q (by omega),d4V,d4E];exact hx
     have hset:((L.take k).map cfS++L.drop k).set k (cfS x)=(L.take (k+1)).map cfS++L.drop (k+1):=by
      obtain⟨hi,e⟩:=d3J.1 hx;have e0:k - ((L.take k).map cfS).length=0:=by rw[d4g,d4n];omega
      rw[d5k _ _ (by rw[d4g,d4n];omega),d5D,hx,d45,d4q,d4c hi,e0];rfl
     obtain⟨xn,xt⟩:=x;obtain⟨x0,x1,x2,x3,hxx⟩:=m8 xt;obtain⟨v0,v1,v2,v3,hvv⟩:=m8 (y9 xt);simp only at hspx;rw[hxx,hvv] at hspx;have gx:vc M z=some [.sc (.string xn),x0,x1,x2,x3]:=by rw[r2,hz,d3I (by omega),hM,show ((k:Int)).toNat=k by omega,b3i hxe,hxx]
     have hz1:qa .i64 (qb z 1)=((k+1:Nat):Int):=by rw[e1,e2,hz,IntWalk.i64_in _ (by omega)];omega
     have hmu:L.length - (qa .i64 (qb z 1)).toNat<L.length - z.toNat:=by rw[hz1,hz];omega
     have hnew:vf M z [.sc (.string xn),v0,v1,v2,v3]=rF ((L.take (k+1)).map cfS++L.drop (k+1)):=by
      rw[m4,<-hset,hM,hz,show ((k:Int)).toNat=k by omega];unfold rF;rw[List.map_set];show _=List.set _ k (.sc (.string xn)::cT (y9 xt));rw[hvv]
     rw[hlt];cbv
     repeat (first|(with_reducible apply j6 hA;cbv)|(rw[gx];cbv)|(refine j8 hA _ hspx rfl ?_;cbv))
     refine⟨(qa .i64 (qb z 1),vf M z [.sc (.string xn),v0,v1,v2,v3]),⟨k+1,hz1,h9,hnew⟩,hmu,?_⟩;cbv
    ·rw[d3P h9] at hlt;have hM2:M=rF (L.map cfS):=by rw[hM,d4z (by omega),d5w (by omega),d4d]
     rw[<-hM2] at hOf;rw[hlt];cbv;refine c1R hA [2] ?_;cbv
     repeat (first|(with_reducible apply j6 hA;cbv)|(refine j8 hA _ hOf rfl ?_;cbv))
  ·have hcn:=a1t (t:=t) (by rw[<-ht];exact hop);rw[hks,show t.op=op by rw[<-ht];rfl,show t.name=nm by rw[<-ht];rfl,show t.n=n by rw[<-ht];rfl] at hcn
   have hih:∀x∈ks,o8 66 [.ag (cT x)] [.ag (cT (y9 x))]:=λx hx=>by
    have h2:=hkl.2 x hx;exact ih x (by omega) (by omega) λy hy=>hsp y (by rw[B5,hks];exact d3M _ (d40.2 ⟨x,hx,hy⟩))
   rw[hcn,cT,hc];obtain⟨K,hK⟩:∃K,K=rT ks:=⟨_,rfl⟩;obtain⟨Q,hQ⟩:∃Q,Q=rT (ks.map y9):=⟨_,rfl⟩;rw[<-hK,<-hQ];refine Q5 Tryz.func66 rfl λqa qb qc qd qe qg qh qi qj qk ql qm qo qp qq qt qu qv qw qx qy qz va vc vd ve vf vg vh vj vk vl vm vn vo vq vr vt vu vv vw vx vy hA=>?_
   cbv;refine gn ?_;obtain⟨e1,e2,e3,e4,e5,e6,e7,e8,e9⟩:=m6 hA;obtain⟨r1,r2,r3,r4⟩:=B3 hA;have h11:qk op 11=decide (op=11):=e9 _ _;rw[d3P hop] at h11;rw[h11];cbv
   repeat (first|(refine a7B hA 2 3 27 true rfl rfl ?_;cbv)|(with_reducible apply j6 hA;cbv))
   refine n9 hA (γ:=Int×List (List D)) (λx=>[(7,vi .i64 x.1)]) (λx=>[(3,.row true 27 x.2)]) (λx=>∃k:Nat,x.1=(k:Int)/\k<=ks.length/\x.2=rT ((ks.map y9).take k)) (λx=>ks.length - x.1.toNat) (0,[]) ?_ ?_ ?_
   ·exact⟨0,rfl,d4o _,rfl⟩
   ·cbv
   ·intro x hinv;obtain⟨z,M⟩:=x;cbv;refine gn ?_;obtain⟨k,hz,hk,hM⟩:=hinv;replace hz:z=(k:Int):=hz;replace hM:M=rT ((ks.map y9).take k):=hM;have hll:va K=((ks.length:Nat):Int):=by rw[r1,hK,M4]
    have hlt:qi z (va K)=decide (k<ks.length):=by rw[e7,hll,hz];exact d3X.2 (by omega)
    by_cases h9:k<ks.length
    ·rw[d3S h9] at hlt;obtain⟨x,hx⟩:∃x,ks[k]?=some x:=⟨_,d3H h9⟩;have hspx:=hih x (d3U hx);have hx2:(ks.map y9)[k]?=some (y9 x):=by rw[d4p,hx];rfl
     have hsn:=a8Q hx2;obtain⟨x0,x1,x2,x3,hxx⟩:=m8 x;obtain⟨v0,v1,v2,v3,hvv⟩:=m8 (y9 x);rw[hxx,hvv] at hspx;rw[hvv] at hsn;have gx:vc K z=some [x0,x1,x2,x3]:=by rw[r2,hz,d3I (by omega),hK,show ((k:Int)).toNat=k by omega,a1q hx,hxx]
     have gx2:(Ar.mk qa qb qc qd qe qg qh qi qj qk ql qm qo qp qq qt qu qv qw qx qy qz va vc vd ve vf vg vh vj vk vl vm vn vo vq vr vt vu vv vw vx vy).get K z=some [x0,x1,x2,x3]:=gx;have hz1:qa .i64 (qb z 1)=((k+1:Nat):Int):=by rw[e1,e2,hz,IntWalk.i64_in _ (by omega)];omega
     have hmu:ks.length - (qa .i64 (qb z 1)).toNat<ks.length - z.toNat:=by rw[hz1,hz];omega
     have hnew:ve M [[v0,v1,v2,v3]]=rT ((ks.map y9).take (k+1)):=by rw[r4,hsn,hM]
     have hMl:M.length<=1048576:=by rw[hM,M4,d4n];omega
     rw[hlt];cbv
     repeat (first|(with_reducible apply j6 hA;cbv)|(rw[gx];cbv)|(rw[gx2];cbv)|(refine l9 hA _ hspx ?_;cbv)|(refine j8 hA _ hspx rfl ?_;cbv)|(refine E2 hA true ?_;cbv)|(refine F3 hA (by simp only[r4,d3K,d3O,d3Y];omega) ?_;cbv))
     cbv
     repeat (first|(with_reducible apply j6 hA;cbv)|(rw[gx];cbv)|(rw[gx2];cbv)|(refine l9 hA _ hspx ?_;cbv)|(refine j8 hA _ hspx rfl ?_;cbv)|(refine E2 hA true ?_;cbv)|(refine F3 hA (by simp only[r4,d3K,d3O,d3Y];omega) ?_;cbv))
     refine⟨(qa .i64 (qb z 1),ve M [[v0,v1,v2,v3]]),⟨k+1,hz1,h9,hnew⟩,hmu,?_⟩;cbv
    ·rw[d3P h9] at hlt;have hM2:M=Q:=by rw[hM,hQ,d4z (by rw[d4g];omega)]
     rw[hlt];cbv;refine gn ?_;exact⟨by rw[hM2],trivial⟩
section
section
variable {W:ByteArray->Bool}
theorem a0f {t:Ty} {s:Int} (h:B6 W t s=true):∃k,I9 t.op=some k/\(decide (8<=t.op) == (s == 114))=true/\t.kids.length=k.length/\(if t.op=11 then W t.name else decide (t.name.toList=[]))=true/\0<=t.n/\(t.op=7\/t.op=10\/t.n=0)/\C5 W t.kids k=true:=by
 cases hk:I9 t.op with
 | none=>rw[b0m hk] at h;cases h
 | some k =>
  obtain⟨op,nm,n,kids⟩:=t;rw[a0F (k:=k) (by exact hk)] at h;unfold c3B c4B at h;simp only[d3N,d41,d5q] at h;obtain⟨⟨h1,h2,h3,h4,h5⟩,h6⟩:=h;exact⟨k,rfl,h1,h2,h3,h4,by simpa [or_assoc,Ty.op,Ty.n] using h5,h6⟩
theorem b4L {op:Int} {nm:ByteArray} {n:Int} {kids:List Ty} {s:Int} {k:List Int} (h0:I9 op=some k) (h1:(decide (8<=op) == (s == 114))=true) (h2:kids.length=k.length) (h3:(if op=11 then W nm else decide (nm.toList=[]))=true) (h4:0<=n) (h5:op=7\/op=10\/n=0) (h6:C5 W kids k=true) :
  B6 W (.mk op nm n kids) s=true:=by
 rw[a0F h0];unfold c3B c4B;simp only[d3N,d41,d5q];exact⟨⟨h1,h2,h3,h4,by simpa [or_assoc] using h5⟩,h6⟩
theorem a7J {t:Ty} {s:Int} (h:B6 W t s=true) (h11:t.op=11):s=114/\∃a b,t.kids=[a,b]/\t.n=0/\W t.name=true/\B6 W a 116=true/\B6 W b 114=true:=by
 obtain⟨k,hk,h1,h2,h3,h4,h5,h6⟩:=a0f h;rw[h11] at hk h1 h3 h5;have:I9 11=some [116,114]:=by decide
 rw[this] at hk;injection hk with hk;subst hk;rw[d3I rfl] at h3
 have hs:s=114:=by
  have h8:decide ((8:Int)<=11)=true:=by decide
  rw[h8] at h1
  simpa using h1
 refine⟨hs,?_⟩
 match t.kids,h2,h6 with
 | [a,b],_,h6 =>
  rw[C5,C5,C5] at h6;simp only[d3N,and_true] at h6;refine⟨a,b,rfl,?_,h3,h6.1,h6.2⟩
  rcases h5 with h|h|h
  ·exact absurd h (by decide)
  ·exact absurd h (by decide)
  ·exact h
theorem b3r {nm:ByteArray} {a b:Ty} (h3:W nm=true) (ha:B6 W a 116=true) (hb:B6 W b 114=true):B6 W (.mk 11 nm 0 [a,b]) 114=true:=by
 refine b4L (k:=[116,114]) (by decide) (by decide) rfl (by rw[d3I rfl];exact h3) (by omega) (.inr (.inr rfl)) ?_;rw[C5,C5,C5,ha,hb];rfl
theorem a6M:∀ {t:Ty},B6 W t 114=true->(∀f∈A4 t,W f.1=true/\B6 W f.2 116=true)/\B6 W (N4 t) 114=true:=by
 intro t
 induction t using Ty.ind with
 | h t ih =>
  intro h
  by_cases h11:t.op=11
  ·obtain⟨_,a,b,hk,hn,hw,ha,hb⟩:=a7J h h11;have hsp:a03 t:=a8o W t _ h t (by rw[J4];exact d3L ..);obtain⟨a',b',hk',hsb,hf,ht⟩:=a1G hsp h11;rw[hk] at hk';injection hk' with e1 e2;injection e2 with e2 _;subst e1;subst e2;have hb':=ih b (by rw[hk];simp) hb;rw[hf,ht];refine⟨λf hf=>?_,hb'.2⟩
   rcases d3R.1 hf with rfl|hf
   ·exact⟨hw,ha⟩
   ·exact hb'.1 f hf
  ·obtain⟨h1,h2⟩:=a1s h11;rw[h1,h2];exact⟨by simp,h⟩
theorem b0v {tl:Ty} (ht:B6 W tl 114=true):∀ {fs:List (ByteArray×Ty)},(∀f∈fs,W f.1=true/\B6 W f.2 116=true)->B6 W (a0E fs tl) 114=true
 | [],_=>ht
 | f::fs,h=>by
  rw[a2v];have h1:=h f (d3L ..);exact b3r h1.1 h1.2 (b0v ht λg hg=>h g (d3M _ hg))
theorem a2y {t:Ty} {s:Int} (h:B6 W t s=true):G5 t:=a8o W t s h
theorem b0w {f:Ty->Ty}:∀ {ts:List Ty} {ks:List Int},C5 W ts ks=true->(∀x∈ts,∀k,B6 W x k=true->B6 W (f x) k=true)->C5 W (ts.map f) ks=true
 | [],ks,_,_=>by cases ks <;> rfl
 | x::xs,[],h,_=>by rw[C5] at h;cases h
 | x::xs,y::ys,h,hf=>by
  rw[C5,d3N] at h;rw[d4a,C5,d3N];exact⟨hf x (d3L ..) y h.1,b0w h.2 λz hz=>hf z (d3M _ hz)⟩
theorem b4M:∀(n:Nat) (t:Ty) (s:Int),t.parts.length<=n->B6 W t s=true->B6 W (y9 t) s=true:=by
 intro n
 induction n with
 | zero=>intro t s h;have:=F9 t;omega
 | succ n ih =>
  intro t s hn h
  by_cases h11:t.op=11
  ·have hr:=a7J h h11;obtain⟨rfl,-⟩:=hr;obtain⟨hf,ht⟩:=a6M h;rw[a36 h11];refine b0v ht λf hf'=>?_
   obtain⟨g,hg,rfl⟩:=d4U.1 hf';have h1:=a0d _ t (d3Q _) g (T4 hg);have h2:=hf g (T4 hg);exact⟨h2.1,ih g.2 116 (by omega) h2.2⟩
  ·rw[a1t h11];obtain⟨k,hk,h1,h2,h3,h4,h5,h6⟩:=a0f h;refine b4L hk h1 (by rw[d4g];exact h2) h3 h4 h5 (b0w h6 λx hx k hxk=>?_);have h7:=(J7 t).2 x hx;exact ih x k (by omega) hxk
end
section
variable {W:ByteArray->Bool}
end
end
section
def cF (f:ByteArray×Ty):ByteArray×Ty:=(f.1,y9 f.2)
theorem b9I {t:Ty} (h:t.op≠11) (hk:t.kids=[]):y9 t=t:=by
 rw[a1t h,hk,d47];obtain⟨op,nm,n,ks⟩:=t;simp only[Ty.kids] at hk;subst hk;rfl
section
variable {W:ByteArray->Bool}
theorem c2J {t:Ty} (h:B6 W t 114=true) (h11:t.op≠11):t.kids=[]/\(t.op=8\/t.op=9\/t.op=10):=by
 obtain⟨k,hk,h1,h2,-⟩:=a0f h;have h8:8<=t.op:=by simpa using h1
 unfold I9 at hk
 split at hk
 ·injection hk with hk;subst hk;exact⟨d4h h2,by omega⟩
 ·repeat' split at hk
  all_goals first|omega|cases hk
theorem b3s {t:Ty} (h:B6 W t 114=true):y9 t=a0E ((r7 ltF (A4 t)).map cF) (N4 t):=by
 by_cases h11:t.op=11
 ·exact a36 h11
 ·obtain⟨h1,h2⟩:=a1s h11;rw[b9I h11 (c2J h h11).1,h1,h2];rfl
end
section
variable {W:ByteArray->Bool}
end
section
variable {W:ByteArray->Bool}
end
def c5H (c:List (Int×Ty)):List Int:=c.map (·.1)
def c5I (c c':List (Int×Ty)):Prop:=((c5H c).Nodup->(c5H c').Nodup)/\∀k∈c5H c,k∈c5H c'
theorem c5I.trans {a b c:List (Int×Ty)} (h:c5I a b) (k:c5I b c):c5I a c:=⟨λx=>k.1 (h.1 x),λn x=>k.2 n (h.2 n x)⟩
section
variable {W:ByteArray->Bool}
theorem b4N {t:Ty} {s:Int} (h:B6 W t s=true) (hv:t.op=7\/t.op=10):t.kids=[]:=by
 obtain⟨k,hk,h1,h2,-⟩:=a0f h;unfold I9 at hk;rw[d3I (by omega)] at hk;injection hk with hk;subst hk;exact d4h h2
theorem a7K {t:Ty}:a1H t=true↔t.op=7\/t.op=10:=by unfold a1H;simp
end
end
theorem c5J (fs:List (ByteArray×Ty)):r7 H1 (rF fs)=rF (r7 ltF fs):=b9D (f:=λx:ByteArray×Ty=>D.sc (.string x.1)::cT x.2) (λ_ _=>rfl) fs
theorem c8U (fs:List (ByteArray×Ty)):∀x∈rF fs,Ok5 x:=λx hx=>by
 obtain⟨f,_,rfl⟩:=d4U.1 hx;obtain⟨c0,c1,c2,c3,h⟩:=m8 f.2;exact⟨f.1,c0,c1,c2,c3,by show D.sc (.string f.1)::cT f.2=_;rw[h]⟩
theorem b8l (fs:List (ByteArray×Ty)) (f:ByteArray×Ty):rF (fs++[f])=rF fs++[.sc (.string f.1)::cT f.2]:=by unfold rF;rw[d45];rfl
theorem c8V (t:Ty) (hs:a03 t) (hN:t.parts.length<=1048576):y7 101 [.ag (C0 (cT t))] [] (λres os'=>res=[.own 0,.ag (C0 (cT (N4 t)))]/\os'=[.row false 124 (rF (r7 ltF (A4 t)))]):=by
 have hso:=c2I 107 c5E (rF (A4 t)) (c8U _) (by rw[a2u];have:=a4I _ t (d3Q _);omega);rw[c5J] at hso;obtain⟨Q,hQ⟩:∃Q,Q=rF (r7 ltF (A4 t)):=⟨_,rfl⟩;obtain⟨M,hM⟩:∃M,M=rF (A4 t):=⟨_,rfl⟩;rw[<-hQ,<-hM] at hso;rw[<-hQ];obtain⟨q0,q1,q2,q3,hq⟩:=m8 (N4 t);rw[hq];obtain⟨op,nm,n,ks⟩:=t;generalize ht:Ty.mk op nm n ks=t at *;have hc:cT t=[.sc (.int .u8 op),.sc (.string nm),.sc (.int .i64 n),.sl 4 (rT ks)]:=by rw[<-ht,cT]
 obtain⟨K0,hK0⟩:∃K,K=rT ks:=⟨_,rfl⟩;rw[hc,<-hK0];refine so9 Tryz.func101 rfl ?_;intro _ _ _ _ _ _ _ _ _ qk _ _ _ _ _ _ _ _ _ _ _ _ _ vc _ ve;intros;rename_i hA;cbv
 repeat (first|(refine a3b hA 4 124 false rfl ?_;cbv)|(with_reducible apply j6 hA;cbv))
 obtain⟨e1,e2,e3,e4,e5,e6,e7,e8,e9⟩:=m6 hA;obtain⟨r1,r2,r3,r4⟩:=B3 hA
 refine n9 hA (γ:=Ty×Int×ByteArray×Int×List (List D)×List (List D)) (λx=>[(4,.own 2)]) (λx=>[(0,.box [.d (.sc (.int .u8 x.2.1)),.d (.sc (.string x.2.2.1)),.d (.sc (.int .i64 x.2.2.2.1)),.d (.sl 4 x.2.2.2.2.1)]),(2,.row false 124 x.2.2.2.2.2)])
  (λx=>∃ks fs,x.1=.mk x.2.1 x.2.2.1 x.2.2.2.1 ks/\x.2.2.2.2.1=rT ks/\a03 x.1/\x.2.2.2.2.2=rF fs/\fs++A4 x.1=A4 t/\N4 x.1=N4 t/\fs.length+x.1.parts.length<=1048576) (λx=>x.1.parts.length) (t,op,nm,n,K0,[]) ?_ ?_ ?_
 ·exact⟨ks,[],ht.symm,hK0,hs,rfl,rfl,rfl,by simpa using hN⟩
 ·cbv
 ·intro x hinv;obtain⟨r,op,nm,n,K,L⟩:=x;cbv;refine gn ?_;try simp only[nc] at *
  obtain⟨ks,fs,hr,hK,hsr,hL,hfs,htl,hlen⟩:=hinv;have h11:qk op 11=decide (op=11):=e9 _ _
  by_cases hop:op=11
  ·rw[d3S hop] at h11;obtain⟨a,b,hk,hsb,hfb,htb⟩:=a1G hsr (by rw[hr];exact hop);have hnmr:r.name=nm:=by rw[hr];rfl
   rw[hnmr] at hfb;have hks:ks=[a,b]:=by rw[<-hk,hr];rfl
   obtain⟨a0,a1,a2,a3,ha⟩:=m8 a;obtain⟨op',nm',n',ks'⟩:=b;generalize hb:Ty.mk op' nm' n' ks'=b at *;have hcb:cT b=[.sc (.int .u8 op'),.sc (.string nm'),.sc (.int .i64 n'),.sl 4 (rT ks')]:=by rw[<-hb,cT]
   obtain⟨K',hK'⟩:∃K,K=rT ks':=⟨_,rfl⟩;rw[<-hK'] at hcb;have g0:vc K 0=some [a0,a1,a2,a3]:=by rw[r2,d3I (by omega),hK,hks];exact congrArg some ha
   have g1:vc K 1=some [.sc (.int .u8 op'),.sc (.string nm'),.sc (.int .i64 n'),.sl 4 K']:=by rw[r2,d3I (by omega),hK,hks];exact congrArg some hcb
   have hLl:L.length<=1048576:=by rw[hL,a2u];omega
   have hbl:b.parts.length<r.parts.length:=(J7 r).2 b (by rw[hk];simp);have hnew:ve L [[.sc (.string nm),a0,a1,a2,a3]]=rF (fs++[(nm,a)]):=by rw[r4,b8l,hL,ha]
   rw[h11]
   iterate 2 (try cbv;repeat ((first|with_reducible apply j6 hA|rw[g0]|rw[g1]|refine E2 hA true ?_|(refine F3 hA (by simp only[r4,d3K,d3O,d3Y];omega) ?_));cbv))
   try simp (maxSteps:=4000000) only [nc] at *
   refine⟨(b,op',nm',n',K',ve L [[.sc (.string nm),a0,a1,a2,a3]]),⟨ks',fs++[(nm,a)],hb.symm,hK',hsb,hnew,by rw[<-hfs,hfb];simp,by rw[<-htl,htb],by rw[d3K];show fs.length+1+b.parts.length<=_;omega⟩,hbl,?_⟩;cbv
  ·rw[d3P hop] at h11;obtain⟨hf0,ht0⟩:=a1s (t:=r) (by rw[hr];exact hop);rw[hf0,d4d] at hfs;have hLM:L=M:=by rw[hL,hM,hfs]
   rw[ht0,hr] at htl;rw[<-htl,cT,<-hK] at hq;rw[h11,hLM];cases hq;cbv;refine gn ?_;refine K6 hA [2] hso ⟨rfl,rfl,rfl,rfl,rfl,rfl,rfl⟩ ?_
   rintro res os2 ⟨rfl,rfl⟩
   cbv;refine gn ?_;exact n7 hA [2] ⟨rfl,rfl,rfl,rfl,rfl,rfl,rfl,rfl⟩ ⟨rfl,rfl⟩
section
def PtG {α:Type} (T:(α->Prop)->Prop):Prop:=∀K,T K->∃v,K v/\∀K',K' v->T K'
theorem PtG.mono {α:Type} {T:(α->Prop)->Prop} (h:PtG T) {K K':α->Prop} (hT:T K) (hK:∀v,K v->K' v):T K':=by
 obtain⟨v,h1,h2⟩:=h K hT;exact h2 K' (hK v h1)
structure Ok (a:Ar):Prop where
 wrap:a.wrap=j5.wrap
 add:a.add=j5.add
 sub:a.sub=j5.sub
 mul:a.mul=j5.mul
 quo:a.quo=j5.quo
 rem:a.rem=j5.rem
 bits:a.bits=j5.bits
 lt:a.lt=j5.lt
 le:a.le=j5.le
 eq:a.eq=j5.eq
 nz:∀y k,a.nz y k->j5.nz y k
 nzp:∀y k k',a.nz y k->k'->a.nz y k'
 seq:a.seq=j5.seq
 slt:a.slt=j5.slt
 bytes:a.bytes=j5.bytes
 cat:a.cat=j5.cat
 fits:∀x y k,a.fits x y k->j5.fits x y k
 fitsp:∀x y k k',a.fits x y k->k'->a.fits x y k'
 slen:a.slen=j5.slen
 sget:a.sget=j5.sget
 ssub:a.ssub=j5.ssub
 txt:a.txt=j5.txt
 byt:a.byt=j5.byt
 nat:a.nat=j5.nat
 len:a.len=j5.len
 get:a.get=j5.get
 sub2:a.sub2=j5.sub2
 app:a.app=j5.app
 set:a.set=j5.set
 room:∀x y k,a.room x y k->j5.room x y k
 roomp:∀x y k k',a.room x y k->k'->a.room x y k'
 mlook:a.mlook=j5.mlook
 mput:a.mput=j5.mput
 deq:a.deq=j5.deq
 call:∀f rs K,a.call f rs K->j5.call f rs K
 callp:∀f rs,PtG (a.call f rs)
 calld:∀f vs o K,a.calld f vs o K->j5.calld f vs o K
 calldp:∀f vs o,PtG (a.calld f vs o)
 rep:∀n z K,a.rep n z K->j5.rep n z K
 repp:∀n z,PtG (a.rep n z)
 callo:∀f vs s K,a.callo f vs s K->j5.callo f vs s K
 callop:∀f vs s,PtG λK:V×S->Prop=>a.callo f vs s λv s'=>K (v,s')
 callx:∀f vs l s K,a.callx f vs l s K->j5.callx f vs l s K
 callxp:∀f vs l s,PtG λK:V×S->Prop=>a.callx f vs l s λv s'=>K (v,s')
 new:∀e K,a.new e K->j5.new e K
 newp:∀e,PtG (a.new e)
 lit:∀t K,a.lit t K->j5.lit t K
 litp:∀t,PtG (a.lit t)
 next:∀N s,a.next N s->N s
 nextp:∀N s,N s->a.next N s
 ext:∀op dst s K,¬a.ext op dst s K
 reg:∀ops s K,¬a.reg ops s K
 loop:∀c body s K,a.loop c body s K->(∀s K K',(∀x s,K x s->K' x s)->body s K->body s K')->b3R Eq body s K
 loopp:∀c body s,(∀s,PtG λK:X×S->Prop=>body s λx s=>K (x,s))->PtG λK:X×S->Prop=>a.loop c body s λx s=>K (x,s)
section
variable {a:Ar} (h:Ok a)
include h
end
structure Good (f:Nat) (fn:Func) (c:Code):Prop where
 f:Tryz.prog.funcs[f]?=some fn
 b:fn.body=some c
 n:(fn.name != "runtime.NumGoroutine")=true
 c:y6 Tryz.prog c=true
 r:T3 fn.results.toList=true
inductive Tab where
 | nil
 | cons (f:Nat) (fn:Func) (c:Code) (h:Good f fn c) (T:Tab)
 | own (f:Nat) (F:List V->List O->Option (V×List O×List Nat)) (h:∀vs o r,F vs o=some r->Y9 f vs o λx o' ks=>(x,o',ks)=r) (T:Tab)
 | pure (f:Nat) (F:List R->Option (List R)) (h:∀rs q,F rs=some q->o8 f rs q) (T:Tab)
inductive Ent where
 | none
 | code (fn:Func) (c:Code)
 | own (F:List V->List O->Option (V×List O×List Nat))
 | pure (F:List R->Option (List R))
def it (body:S->(X->S->Prop)->Prop) (K:X->S->Prop) (n:Nat):Nat->S->Prop
 | 0,_=>False
 | m+1,s=>match Nat.ble n (w8 s.o) with
  | true=>body s λe s'=>b22 (λs2=>it body K n m s2) K e s'
  | false=>False
section
variable {hint:Nat->Bool} {call:Nat->List R->(List R->Prop)->Prop} {calld:Nat->List V->List O->(V->Prop)->Prop} {callo:Nat->List V->S->(V->S->Prop)->Prop} {callx:Nat->List V->List Nat->S->(V->S->Prop)->Prop}
end
section
variable {qa:IntKind->Int->Int} {qb:Int->Int->Int} {qc:Int->Int->Int} {qd:Int->Int->Int} {qe:Int->Int->Int} {qg:Int->Int->Int} {qh:BinOp->IntKind->Int->IntKind->Int->Option Int} {qi:Int->Int->Bool} {qj:Int->Int->Bool} {qk:Int->Int->Bool} {ql:Int->Prop->Prop} {qm:List UInt8->List UInt8->Bool} {qo:List UInt8->List UInt8->Bool} {qp:ByteArray->List UInt8} {qq:ByteArray->ByteArray->ByteArray} {qt:ByteArray->ByteArray->Prop->Prop} {qu:ByteArray->Int} {qv:ByteArray->Int->Option Int} {qw:ByteArray->Int->Int->Option ByteArray} {qx:List (List D)->Option ByteArray} {qy:ByteArray->List (List D)} {qz:Int->Nat->Option Nat} {va:List (List D)->Int} {vc:List (List D)->Int->Option (List D)} {vd:List (List D)->Int->Int->Option (List (List D))} {ve:List (List D)->List (List D)->List (List D)} {vf:List (List D)->Int->List D->List (List D)} {vg:List (List D)->List (List D)->Prop->Prop} {vh:List (R×R)->R->Option R} {vj:List (R×R)->R->R->List (R×R)} {vk:List D->List D->Bool} {vl:Int->List D->(List (List D)->Prop)->Prop} {vm:Nat->List R->(List R->Prop)->Prop} {vn:Nat->List V->List O->(V->Prop)->Prop} {vo:Nat->List V->S->(V->S->Prop)->Prop} {vq:Nat->List V->List Nat->S->(V->S->Prop)->Prop} {vr:Nat->(Bool->Prop)->Prop} {vt:Nat->(Bool->Prop)->Prop} {vu:Nat->(List V->List O->Prop)->List V->S->Prop} {vv:(S->Prop)->S->Prop} {vw:Op->Option Nat->S->(S->Prop)->Prop} {vx:Array Oper->S->(S->Prop)->Prop} {vy:Code->(S->(X->S->Prop)->Prop)->S->(X->S->Prop)->Prop}
end
end
end Go.Proofs.YtdjnoafijjepcaaGreat.Vm
end
section
namespace Go.Proofs.YtdjnoafijjepcaaGreat.Vm
open Go.RowKit Go.Proofs
section
variable {F:Fence} {n:Nat} {P:Program} {w:World}
def c2L (B:Nat) (Kp:World->World->Prop) (I:World->Prop) (Ix:Code->World->Prop) (W:World):Exit->Act->World->Prop
 | .normal,_,W'=>KeepsFrom B W W'/\Kp W W'/\I W'
 | .ret,_,W'=>KeepsFrom B W W'/\Ix .ret W'
 | .exit i,_,W'=>KeepsFrom B W W'/\Ix (.exit i) W'
 | _,_,_=>False
def b60 (F:Fence) (n:Nat) (P:Program) (gf:Nat) (lb:Array Value) (encs:Nat->Array Value) (Kp:World->World->Prop) (N:Nat) (w:World):Prop :=
 ∀(l:Nat) (J:Nat->World->Prop) (Jx:Unit->World->Prop) (W:World),Below w.heap.size w W ->
  (∀k W1,k<N->J k W1->YieldAt F (n - 1) P l (encs k) W1 λe W'=>(e=.returned (.bool true)/\J (k+1) W'/\Kp W1 W')\/(e=.returned (.bool false)/\Jx () W')) ->
  J 0 W->CallsIn F n P gf (#[.func (.yield l) #[] #[]]++lb) W λe W'=>(∃v,e=.returned v)/\(J N W'\/Jx () W')
def b4O (L:Nat) (p:World->Prop):Prop:=∀(W:World) (r r':Loop),p W->W.heap[L]?=some (.loop r)->p (W.putObj L (.loop r'))
theorem c5K {g:Operand} {ps:Array Tmp} {assign body:Code} {Q:Exit->Act->World->Prop} {a:Act}
  (hro:F.round=none) (h1:1<=n) {gf:Nat} {lb:Array Value} (hg:a.eval g=.func (.func gf) #[] lb) (hFg:F.fn gf) (eg:∀args w,(callFunc gf args).run P w=.ok (.enter gf args) w)
  {encs:Nat->Array Value} {Kp:World->World->Prop} {N:Nat} (hseq:b60 F (n - 1) P gf lb encs Kp N w)
  (hKt:∀ {A B C:World},Kp A B->Kp B C->Kp A C) (hKb:∀(W:World) (l:Nat) (o o':Obj),w.heap.size<=l->W.heap[l]?=some o->o.isCells=false->o.isWalk=false->Kp W (W.putObj l o')) (hps:∀k,(encs k).size=ps.size)
  (I:Nat->World->Prop) (Ix:Code->World->Prop) (hI:∀k,b4O (w.heap.size+1) (I k)) (hIx:∀c,b4O (w.heap.size+1) (Ix c)) (h0:∀r:Loop,I 0 ((w.alloc (.deferred (some []))).alloc (.loop r)))
  (hround:∀(l k:Nat) (W:World),k<N->I k W->((∃r:Loop,W.heap[w.heap.size+1]?=some (.loop r))/\W.heap[w.heap.size]?=some (.deferred (some [])))->assign.wpIn (F.inRound l) (n - 1 - 1) P (Exit.then (λa' W1=>KeepsFrom w.heap.size W W1/\Kp W W1/\∃R:World->Prop,b4O (w.heap.size+1) R/\R W1/\∀W2,R W2->body.wpIn (F.inRound l) (n - 1 - 1) P (c2L w.heap.size Kp (I (k+1)) Ix W2) a' W2) (λ_ _ _=>False))
   { tmps:=(ps.zip (encs k)).foldl (λt (p,v)=>t.setIfInBounds p v) a.tmps,defers:=[] } W)
  (hdone:∀(D:Nat) (W:World),D=w.heap.size->I N W->W.heap[D]?=some (.deferred (some []))->Q .normal { a with defers:={ target:=.collected D,args:=#[] }::a.defers } W)
  (hstop:∀(D:Nat) (c:Code) (W:World),w.heap.size<=D->Ix c W->W.heap[D]?=some (.deferred (some []))->c.wpIn F n P Q { a with defers:={ target:=.collected D,args:=#[] }::a.defers } W) :
  (Code.rangeFunc g ps assign body).wpIn F n P Q a w:=by
 refine wpIn_rangeFunc λfn hfn=>?_
 rw[hro];obtain⟨D,hD⟩:∃D,D=w.heap.size:=⟨_,rfl⟩;obtain⟨rec,hrec⟩:∃rec:LoopState->Option Code->Loop,rec=λst pe=>{ state:=st,pending:=pe,fn,tmps:=a.tmps,params:=ps,assign,body,defers:=w.heap.size }:=⟨_,rfl⟩
 obtain⟨W1,hW1⟩:∃W1,W1=(w.alloc (.deferred (some []))).alloc (.loop (rec .ready none)):=⟨_,rfl⟩;have hs1:W1.heap.size=D+1+1:=by rw[hW1,hD];simp
 have hbel:Below D w W1:=by rw[hW1,hD];exact((Below.refl _ w).alloc (d3Q _) _).alloc (by simp) _
 have hL1:W1.heap[D+1]?=some (.loop (rec .ready none)):=by
  have:=World.alloc_heap_new (w.alloc (.deferred (some []))) (.loop (rec .ready none));rw[World.size_alloc,<-hD,<-hW1] at this;exact this
 have hD1:W1.heap[D]?=some (.deferred (some [])):=by
  rw[hW1,hD];exact(Below.heap_alloc _ _ _ (by simp)).trans (World.alloc_heap_new w _)
 have hI1:I 0 W1:=by rw[hW1];exact h0 _
 refine⟨D+1,[{ target:=.collected D,args:=#[] }],W1,{ target:=.fn (.func gf) lb,args:=#[.func (.yield (D+1)) #[] #[]] },W1,gf,#[.func (.yield (D+1)) #[] #[]]++lb,W1,
  by rw[hW1,hrec,hD];exact run_enterLoop_outer _ _ _ _ _,by simp only[resolve,hg];simp[go_sem],λf' hf=>by simp[Target.leads] at hf;subst hf;exact hFg,by simp[invoke,go_sem,eg],λ_=>h1,?_⟩
 refine(hseq (D+1) (λk W=>I k W/\W.heap[D+1]?=some (.loop (rec .ready none))/\W.heap[D]?=some (.deferred (some [])))
  (λ_ W=>∃c,Ix c W/\W.heap[D+1]?=some (.loop (rec .done (some c)))/\W.heap[D]?=some (.deferred (some []))) W1 (hD ▸ hbel) ?_ ⟨hI1,hL1,hD1⟩).mono ?_
 ·rintro k W hk ⟨hi,hl,hd⟩
  have hy:=run_yield (P:=P) (args:=encs k) hl (by rw[hrec];exact hps k);rw[hrec] at hy;refine⟨fn,_,assign,body,hy,roundIn_of_wpIn hfn (wpIn_mono (hround (D+1) k W hk hi ⟨⟨_,hD ▸ hl⟩,hD ▸ hd⟩) λe a' Wa h=>?_)⟩;cases e with
  | normal =>
   obtain⟨ha1,ha2,R,hR,hr1,hb⟩:=h;have hl2:=ha1.same _ _ (by omega) hl rfl;have hd2:=ha1.same _ _ (by omega) hd rfl;refine⟨_,run_beginRound hl2 (by rw[hrec]),?_⟩;obtain⟨W2,hW2⟩:∃W2,W2=Wa.putObj (D+1) (.loop { rec .ready none with state:=.busy }):=⟨_,rfl⟩;have hl3:W2.heap[D+1]?=some (.loop { rec .ready none with state:=.busy }):=by rw[hW2];exact World.putObj_heap_same (d3Z.1 hl2).1
   have hd3:W2.heap[D]?=some (.deferred (some [])):=by rw[hW2];exact(World.putObj_heap_other (by omega)).trans hd2
   have hk3:Kp Wa W2:=by rw[hW2];exact hKb _ _ _ _ (by omega) hl2 rfl rfl
   have hr2:R W2:=by rw[hW2];rw[hD] at hl2 ⊢;exact hR _ _ _ hr1 hl2
   rw[<-hW2];refine wpIn_mono (hb W2 hr2) λe a3 W3 hp=>?_
   have fin:∀jump:Option Code,KeepsFrom w.heap.size W2 W3->∃W4,W4=W3.putObj (D+1) (.loop (rec (if jump.isNone then .ready else .done) jump))/\(Instr.endRound (D+1) jump).run P W3=.ok (.bool jump.isNone) W4 /\
     W3.heap[D+1]?=some (.loop { rec .ready none with state:=.busy })/\W4.heap[D+1]?=some (.loop (rec (if jump.isNone then .ready else .done) jump))/\W4.heap[D]?=some (.deferred (some [])):=λjump hk=>by
    have h3:=hk.same _ _ (by omega) hl3 rfl;refine⟨_,rfl,?_,h3,World.putObj_heap_same (d3Z.1 h3).1,(World.putObj_heap_other (by omega)).trans (hk.same _ _ (by omega) hd3 rfl)⟩;have:=run_endRound (P:=P) jump h3;rw[hrec] at this ⊢;exact this
   cases e with
   | normal =>
    obtain⟨h5,h6,h7⟩:=hp;obtain⟨W4,e4,hr4,hl4,hl5,hd5⟩:=fin none h5;exact⟨_,W4,hr4,.inl ⟨rfl,⟨by rw[e4];rw[hD] at hl4 ⊢;exact hI _ _ _ _ h7 hl4,hl5,hd5⟩,hKt ha2 (hKt (hKt hk3 h6) (by rw[e4];exact hKb _ _ _ _ (by omega) hl4 rfl rfl))⟩⟩
   | ret =>
    obtain⟨h5,h7⟩:=hp;obtain⟨W4,e4,hr4,hl4,hl5,hd5⟩:=fin (some .ret) h5;exact⟨_,W4,hr4,.inr ⟨rfl,.ret,by rw[e4];rw[hD] at hl4 ⊢;exact hIx _ _ _ _ h7 hl4,hl5,hd5⟩⟩
   | exit i =>
    obtain⟨h5,h7⟩:=hp;obtain⟨W4,e4,hr4,hl4,hl5,hd5⟩:=fin (some (.exit i)) h5;exact⟨_,W4,hr4,.inr ⟨rfl,.exit i,by rw[e4];rw[hD] at hl4 ⊢;exact hIx _ _ _ _ h7 hl4,hl5,hd5⟩⟩
   | goto t=>exact hp.elim
   | panic ch=>exact hp.elim
   | outgrown=>exact hp.elim
  | _=>exact h.elim
 ·rintro e W2 ⟨⟨v,rfl⟩,⟨hi,hl,hd⟩|⟨c,hi,hl,hd⟩⟩
  ·exact⟨none,_,by have:=run_endLoop (P:=P) hl (by rw[hrec];simp);rw[hrec] at this;exact this,hdone D _ hD (by rw[hD] at hl ⊢;exact hI _ _ _ _ hi hl) ((World.putObj_heap_other (by omega)).trans hd)⟩
  ·exact⟨some c,_,by have:=run_endLoop (P:=P) hl (by rw[hrec];simp);rw[hrec] at this;exact this,hstop D c _ (by omega) (by rw[hD] at hl ⊢;exact hIx _ _ _ _ hi hl) ((World.putObj_heap_other (by omega)).trans hd)⟩
end
end Go.Proofs.YtdjnoafijjepcaaGreat.Vm
end
section
namespace Go.Proofs.YtdjnoafijjepcaaGreat.Vm
open Go.RowKit Go.Shelf Go.Proofs
attribute [local go_sem] Oper.semAt_some
def KpB (Bs b off m:Nat) (W W':World):Prop:=(∀v,W.cell? ⟨Bs,0,none⟩=some v->W'.cell? ⟨Bs,0,none⟩=some v)/\∀i,i<m->∀v,W.cell? ⟨b,off+i,none⟩=some v->W'.cell? ⟨b,off+i,none⟩=some v
theorem KpB.refl {Bs b off m:Nat} (W:World):KpB Bs b off m W W:=⟨λ_ h=>h,λ_ _ _ h=>h⟩
theorem KpB.trans {Bs b off m:Nat} {A B C:World} (h:KpB Bs b off m A B) (h':KpB Bs b off m B C):KpB Bs b off m A C:=⟨λv hv=>h'.1 v (h.1 v hv),λi hi v hv=>h'.2 i hi v (h.2 i hi v hv)⟩
theorem KpB.turn {Bs b off m:Nat} (W:World) (l:Nat) (o o':Obj) (hl:W.heap[l]?=some o) (ho:o.isCells=false):KpB Bs b off m W (W.putObj l o') :=
 ⟨λv hv=>cell_kept hv (grownBy_putObj' W l o') (λr e=>by cases e;exact⟨o,hl,ho⟩),λi hi v hv=>cell_kept hv (grownBy_putObj' W l o') (λr e=>by cases e;exact⟨o,hl,ho⟩)⟩
set_option maxRecDepth 100000 in
set_option maxHeartbeats 4000000 in
theorem c2M (e:Nat->Nat->Value) (F:Fence) (n:Nat) (hf:F.fn 120) (hro:F.round=none) (hn:1<=n) (l Bs b off len cap:Nat) (hreach:len * 80<=140737488351232) (J:Nat->World->Prop) (Jx:Unit->World->Prop)
  (hY:∀(k:Nat) (W:World),k<len->J k W->YieldAt F (n - 1) Tryz.prog l #[.int .i64 ((len - 1 - k:Nat):Int),.agg #[e (len - 1 - k) 0,e (len - 1 - k) 1,e (len - 1 - k) 2,e (len - 1 - k) 3,e (len - 1 - k) 4]] W λr W' =>
   (r=.returned (.bool true)/\J (k+1) W'/\KpB Bs b off (len * 5) W W')\/(r=.returned (.bool false)/\Jx () W'))
  (W:World) (hBs:W.cell? ⟨Bs,0,none⟩=some (.slice (some ⟨b,off,none⟩) len cap)) (hc:∀j,j<len->∀i,i<5->W.cell? ⟨b,off+(j * 5+i),none⟩=some (e j i)) (h0:J 0 W) :
  CallsIn F n Tryz.prog 120 #[.func (.yield l) #[] #[],.pointer (some ⟨Bs,0,none⟩)] W λr W'=>(∃v,r=.returned v)/\(J len W'\/Jx () W'):=by
 refine callsIn_of_wp Tryz.func120 rfl hf ?_ hro;simp only[Tryz.ntmps120,d5d,d3O,d3Y,Nat.reduceAdd,Nat.reduceSub,d5o,d5p,d51,d5v,d44,d43]
 gi_wp2
 gi_loopw [3] (λi wr=>∃k r:Nat,k+r=len/\i=.int .i64 ((r:Int) - 1)/\J k wr/\KpB Bs b off (len * 5) W wr)
  (λi _=>(intOf i+1).toNat)
 case atStart=>exact⟨0,len,by omega,rfl,h0,KpB.refl W⟩
 case round =>
  obtain⟨k,r,hk,rfl,hJs,hnx⟩:=hrel;have hbx:=hnx.1 _ hBs;cases r with
  | succ q =>
   have eq:(((q+1:Nat):Int) - 1)=(q:Int):=by omega
   have hq:len - 1 - k=q:=by omega
   rw[eq];have hy0:=hY k wr (by omega) hJs;rw[hq] at hy0;obtain⟨fn,tmps,assign,body,hy,hR⟩:=hy0;have h2:∀i,i<5->wr.cell? ⟨b,off+q * 5+i,none⟩=some (e q i):=λi hi=>by rw[d48];exact hnx.2 _ (by omega) _ (hc q (by omega) i hi)
   have c0:=h2 0 (by omega);have c1:=h2 1 (by omega);have c2:=h2 2 (by omega);have c3:=h2 3 (by omega);have c4:=h2 4 (by omega);clear h2 hc hY;simp only[d4E] at c0;have hqn:(0:Int)<=(q:Int):=by omega
   have hql:(q:Int)<(len:Int):=by omega
   have hqlt:q<len:=by omega
   gi_wp2
   refine hR.mono ?_
   rintro r W3 (⟨rfl,hJ3,hk3⟩|⟨rfl,hJx3⟩)
   ·gi_wp2
    go_roundw
    case rel=>exact⟨k+1,q,by omega,by simp,hJ3,hnx.trans hk3⟩
    case measure=>simp[intOf]
   ·gi_wp2
    refine bodyPost_ret (results_none rfl _ _ _) rfl ?_;exact⟨⟨_,rfl⟩,.inr hJx3⟩
  | zero =>
   obtain rfl:k=len:=by omega
   clear hY
   gi_wp2
   go_end0
   exact⟨⟨_,rfl⟩,.inl hJs⟩
set_option maxRecDepth 100000 in
set_option maxHeartbeats 2000000 in
theorem b9J (A:Option Addr) (cap:Nat) (F:Fence) (n:Nat) (hf:F.fn 120) (hro:F.round=none) (l Bs:Nat) (J:World->Prop) (W:World) (hBs:W.cell? ⟨Bs,0,none⟩=some (.slice A 0 cap)) (h0:J W) :
  CallsIn F n Tryz.prog 120 #[.func (.yield l) #[] #[],.pointer (some ⟨Bs,0,none⟩)] W λe W'=>(∃v,e=.returned v)/\J W':=by
 refine callsIn_of_wp Tryz.func120 rfl hf ?_ hro;simp only[Tryz.ntmps120,d5d,d3O,d3Y,Nat.reduceAdd,Nat.reduceSub,d5o,d5p,d51,d5v,d44,d43]
 gi_wp2
 gi_loopw [3] (λi wr=>i=.int .i64 (-1)/\J wr) (λ_ _=>0)
 case atStart=>exact⟨rfl,h0⟩
 case round =>
  obtain⟨rfl,hJs⟩:=hrel
  gi_wp2
  go_end0
  exact⟨⟨_,rfl⟩,hJs⟩
theorem b9K {I:Nat->Nat->Prop} {w:World} {v:Value} {rows:List (List D)} {Bs:Nat} (hlt:∀b h,I b h->b<w.heap.size) (hv:AtD I w v (.sl 5 rows)) (hBl:Bs<w.heap.size) (hBs:w.cell? ⟨Bs,0,none⟩=some v) (hreach:rows.length * 80<=140737488351232) :
    ∃(b off:Nat) (us:List Value),us.length=rows.length * 5/\(rows≠[]->Up I b (off+rows.length * 5))/\F8 I w us rows.flatten/\(∀r∈rows,r.length=5) /\
      ∀(F:Fence) (n:Nat),F.fn 120->F.round=none->1<=n->b60 F n Tryz.prog 120 #[.pointer (some ⟨Bs,0,none⟩)] (λk=>#[.int .i64 ((rows.length - 1 - k:Nat):Int),.agg (((us.drop ((rows.length - 1 - k) * 5)).take 5).toArray)]) (KpB Bs b off (rows.length * 5)) rows.length w:=by
  obtain⟨A,cap,rfl,hcap,h⟩:=hv.slice
  rcases h with rfl|⟨b,off,us,rfl,hI,hr,hl,hc,hd⟩
  · exact⟨0,0,[],rfl,λh=>absurd rfl h,.nil I w,λr hr=>(by cases hr),λF n hf hro hn l J Jx W hW hY h0 =>
      (b9J A cap F n hf hro l Bs (J 0) W ((hW.cell (p:=⟨Bs,0,none⟩) hBl).trans hBs) h0).mono λe W' h=>⟨h.1,.inl h.2⟩⟩
  · refine⟨b,off,us,hl,λ_=>hI,hd,hr,λF n hf hro hn l J Jx W hW hY h0=>?_⟩
    have hbl:b<w.heap.size:=by obtain⟨k,h1,h2⟩:=hI;exact hlt _ _ h2
    refine c2M (λj i=>us.getD (j * 5+i) undef) F n hf hro hn l Bs b off rows.length cap hreach J Jx (λk W1 hk hj=>?_) W ((hW.cell (p:=⟨Bs,0,none⟩) hBl).trans hBs) (λj hj i hi=>?_) h0
    · have:=hY k W1 hk hj
      have hlen:(rows.length - 1 - k) * 5+5<=us.length:=by rw[hl,<-d4R];exact d4A _ (by omega)
      have e:((us.drop ((rows.length - 1 - k) * 5)).take 5)=[us.getD ((rows.length - 1 - k) * 5+0) undef,us.getD ((rows.length - 1 - k) * 5+1) undef,us.getD ((rows.length - 1 - k) * 5+2) undef,us.getD ((rows.length - 1 - k) * 5+3) undef,us.getD ((rows.length - 1 - k) * 5+4) undef]:=by
        apply d5e
        intro i;rw[d4y]
        split
        · rename_i hi
          rw[d4r];have h3:(rows.length - 1 - k) * 5+i<us.length:=by omega
          have hu:∀j,(rows.length - 1 - k) * 5+j<us.length->us[(rows.length - 1 - k) * 5+j]?=some (us.getD ((rows.length - 1 - k) * 5+j) undef):=λj hj=>by rw[d3W,d3H hj];rfl
          rw[hu i h3]
          match i,hi with
          | 0,_=>rfl
           | 1,_=>rfl
           | 2,_=>rfl
           | 3,_=>rfl
           | 4,_=>rfl
          
        · rename_i hi
          rw[d49 (by simp;omega)]
      dsimp only at this;rw[e] at this;exact this
    · refine(hW.cell (p:=⟨b,off+(j * 5+i),none⟩) hbl).trans ?_
      have h3:j * 5+i<us.length:=by
        have h4:j * 5+5<=rows.length * 5:=by rw[<-d4R];exact d4A _ (by omega)
        omega
      have:=hc (j * 5+i) _ (d3H h3);rw[this,d3W,d3H h3];rfl
end Go.Proofs.YtdjnoafijjepcaaGreat.Vm
end
section
namespace Go.Proofs.YtdjnoafijjepcaaGreat.Vm
open Go.RowKit
set_option maxRecDepth 100000
set_option maxHeartbeats 4000000
section
section
variable {I0:Nat->Nat->Prop} {X:Nat->Prop} {w0:W0} {I:Nat->Nat->Prop} {g:Nat->Value} {s:S} {a:Act} {w:World}
def other:Obj->Bool
 | .cells _ _ _=>false
 | .map _ _=>false
 | _=>true
theorem a1u {L:Nat} {o:Obj} (hI:∀k,¬I L k):C3 I w (w.putObj L o):=λb k hb i hi=>by
 have hne:b≠L:=λe=>hI k (e ▸ hb)
 show (match (w.putObj L o).heap[b]? with|some (.cells c _ _)=>c[i]?|_=>none)=_;rw[World.putObj_heap_other hne];rfl
theorem a2z {L:Nat} {y:Obj} (hl:w.heap[L]?=some y) (hy:other y=true) {k:Nat} {o:O} (h:a1k X w0 I w g k o) (hd:o≠.dead):¬gbl (g k) L:=λhg=>by
 cases o with
 | dead=>exact hd rfl
 | box cs =>
  obtain⟨b,us,t,h1,h2,_⟩:=h;rw[h1] at hg;obtain rfl:b=L:=hg;rw[hl] at h2;rw[Option.some.inj h2] at hy;cases hy
 | row z e rows =>
  obtain⟨us,h1,_⟩:=h
  rcases h1.2 with⟨e0,_⟩|⟨g',cap,cur,e0,_,hh,_⟩
  ·rw[e0] at hg;exact hg.elim
  ·rw[e0] at hg;have hg:g'=L:=hg;subst hg;rw[hl] at hh;rw[Option.some.inj hh] at hy;cases hy
 | ob T vs =>
  obtain⟨b,h1,h2,_⟩:=h;rw[h1] at hg;obtain rfl:b=L:=hg;rw[hl] at h2;rw[Option.some.inj h2] at hy;cases hy
 | mp kt es =>
  obtain⟨b,l,c,h1,h2,_⟩:=h;rw[h1] at hg;obtain rfl:b=L:=hg;rw[hl] at h2;rw[Option.some.inj h2] at hy;cases hy
 | it P =>
  obtain⟨A,n,cap,F,h1,h2,h3,h4⟩:=h;rw[h1,a3j] at hg;obtain⟨c,t,h5⟩:=(h4 L hg).1;rw[hl] at h5;rw[Option.some.inj h5] at hy;cases hy
 | kl ks =>
  obtain⟨us,h1,_⟩:=h;rw[h1] at hg;exact hg.elim
theorem b4P {L:Nat} {y y':Obj} (hl:w.heap[L]?=some y) (hy:other y=true) (hI:∀k,¬I L k) {k:Nat} {o:O} (h:a1k X w0 I w g k o):a1k X w0 I (w.putObj L y') g k o:=by
 cases hd:o with
 | dead=>exact True.intro
 | _ =>
  rw[hd] at h;exact h.keep (λ_ _ h=>h) (a1u hI) (λb hb=>World.putObj_heap_other λe=>a2z hl hy h (by simp) (e ▸ hb)) (λb hb h' hh=>hh)
theorem RelI.turned (h:RelI I0 X w0 I g s a w) {L:Nat} {y y':Obj} (hl:w.heap[L]?=some y) (hy:other y=true) (h0:w0.w.heap.size<=L) (hI:∀k,¬I L k):RelI I0 X w0 I g s a (w.putObj L y'):=by
 have hk:=a1u (w:=w) (o:=y') hI;refine⟨h.im,λb k hb=>⟨?_,(h.lt b k hb).2⟩,⟨h.fr.os,h.fr.tape,h.fr.output,?_,λb hb hX=>(World.putObj_heap_other (by omega)).trans (h.fr.block b hb hX)⟩,h.kp.trans λb k hb i hi=>hk b k (h.im b k hb) i hi,h.lo,h.st,λk o ho=>b4P hl hy hI (h.obj k o ho),h.dis,h.out,h.tmp.mono (λ_ _ h=>h) hk,h.dfr⟩
 ·have:=(h.lt b k hb).1;simpa using this
 ·have:=h.fr.size;simpa using this
end
section
variable {I0:Nat->Nat->Prop} {X:Nat->Prop} {w0:W0} {I:Nat->Nat->Prop} {g:Nat->Value} {s:S} {a:Act} {w:World}
theorem RelI.turnBoth (h:RelI I0 X w0 I g s a w) {L:Nat} {y y0 y':Obj} (hl:w.heap[L]?=some y) (hy:other y=true) (hl0:w0.w.heap[L]?=some y0) (hI:∀k,¬I L k):RelI I0 X ⟨w0.w.putObj L y',w0.g,w0.n,w0.d⟩ I g s a (w.putObj L y'):=by
 have hk:=a1u (w:=w) (o:=y') hI;have hk0:=a1u (w:=w0.w) (o:=y') (I:=I0) (λk hk=>hI k (h.im L k hk))
 have hM:∀b,a3F X w0 b->a3F X ⟨w0.w.putObj L y',w0.g,w0.n,w0.d⟩ b:=λb hb=>by
  rcases hb with hb|hb
  ·exact .inl (by simpa using hb)
  ·exact .inr hb
 refine⟨h.im,λb k hb=>⟨?_,λhlt=>(h.lt b k hb).2 (by simpa using hlt)⟩,⟨h.fr.os,h.fr.tape,h.fr.output,?_,λb hb hX=>?_⟩,?_,h.lo,h.st,λk o ho=>?_,h.dis,h.out,h.tmp.mono (λ_ _ h=>h) hk,h.dfr.1,?_⟩
 ·have:=(h.lt b k hb).1;simpa using this
 ·have:=h.fr.size;simpa using this
 ·by_cases e:b=L
  ·subst e;rw[World.putObj_heap_same (d3Z.1 hl).1,World.putObj_heap_same (d3Z.1 hl0).1]
  ·rw[World.putObj_heap_other e,World.putObj_heap_other e];exact h.fr.block b (by simpa using hb) hX
 ·intro b k hb i hi;exact((hk b k (h.im b k hb) i hi).trans (h.kp b k hb i hi)).trans (hk0 b k hb i hi).symm
 ·have:=b4P (y':=y') hl hy hI (h.obj k o ho);cases o with
  | dead=>exact True.intro
  | box cs=>obtain⟨b,us,t,h1,h2,h3,h4,h5,h6⟩:=this;exact⟨b,us,t,h1,h2,h3,h4,h5,hM b h6⟩
  | mp kt es=>obtain⟨b,l,c,h1,h2,h3,h4,h6⟩:=this;exact⟨b,l,c,h1,h2,h3,h4,hM b h6⟩
  | it P=>obtain⟨A,n,cap,F,h1,h2,h3,h4⟩:=this;exact⟨A,n,cap,F,h1,h2,h3,λb hb=>⟨(h4 b hb).1,(h4 b hb).2.1,hM b (h4 b hb).2.2⟩⟩
  | kl ks=>exact this
  | ob T vs=>obtain⟨b,h1,h2,h3,h4⟩:=this;exact⟨b,h1,h2,h3,hM b h4⟩
  | row z e rows=>obtain⟨us,h1,h2,h3,h4⟩:=this;exact⟨us,h1,h2,h3,λb hb=>⟨(h4 b hb).1,(h4 b hb).2.1,hM b (h4 b hb).2.2⟩⟩
 ·intro t ht;obtain⟨h1,h2⟩:=h.dfr.2 t ht;obtain⟨gl,ty,c,e1,e2,e3⟩:=c1c h1
  have hne:gl≠L:=λe=>by
   subst e;have:=(h.fr.block gl e3 (h2 gl e1)).trans e2;rw[hl] at this;injection this with this;subst this;cases hy
  exact⟨c1d e1 ((World.putObj_heap_other hne).trans e2),h2⟩
theorem a6N {B:Nat} {g':Nat->Value} {os:List O} {nn:Nat} {d:List Deferred} {I2:Nat->Nat->Prop} {g2:Nat->Value} {s2:S} {a2:Act} {w2:World} (h:∀k o,os[k]?=some o->a1k X w0 I w g' k o) (hmp:∀j kt es b,os[j]?=some (.mp kt es)->gbl (g' j) b->b<B)
  (h2:RelI I (Xof g' os) ⟨w,g',nn,d⟩ I2 g2 s2 a2 w2):KeepsFrom B w w2:=by
 refine⟨h2.fr.size,λk o hk ho hc=>(h2.fr.block k (d3Z.1 ho).1 λ⟨j,x,hj,hd,hb⟩=>?_).trans ho⟩;have hob:=h j x hj;cases x with
 | dead=>exact hd rfl
 | box cs =>
  obtain⟨b,us,t,h1,h2,_⟩:=hob;rw[h1] at hb;obtain rfl:b=k:=hb;rw[ho] at h2;injection h2 with h2;rw[h2] at hc;cases hc
 | row z e rows =>
  obtain⟨us,h1,_⟩:=hob
  rcases h1.2 with⟨e0,_⟩|⟨g3,cap,cur,e0,_,hh,_⟩
  ·rw[e0] at hb;exact hb.elim
  ·rw[e0] at hb;have hb:g3=k:=hb;subst hb;rw[ho] at hh;injection hh with hh;rw[hh] at hc;cases hc
 | mp kt es=>have:=hmp j kt es k hj hb;omega
 | ob T vs =>
  obtain⟨b,h1,h2,_⟩:=hob;rw[h1] at hb;obtain rfl:b=k:=hb;rw[ho] at h2;injection h2 with h2;rw[h2] at hc;cases hc
 | it P =>
  obtain⟨A,n,cap,F,h1,h2,h3,h4⟩:=hob;rw[h1,a3j] at hb;obtain⟨c,t,h5⟩:=(h4 k hb).1;rw[ho] at h5;injection h5 with h5;rw[h5] at hc;cases hc
 | kl ks =>
  obtain⟨us,h1,_⟩:=hob;rw[h1] at hb;exact hb.elim
end
def b4Q:O->Bool
 | .mp _ _=>true
 | _=>false
def a1W:List O->List O->Bool
 | _,[]=>true
 | [],o::l=>match b4Q o with|true=>false|false=>a1W [] l
 | x::k,o::l=>match b4Q o with|true=>(match b4Q x with|true=>a1W k l|false=>false)|false=>a1W k l
theorem c5L {o:O} (h:b4Q o=true):∃kt es,o=.mp kt es:=by
 cases o with
 | mp kt es=>exact⟨kt,es,rfl⟩
 | _=>cases h
theorem a6O:∀ {k l:List O} {j:Nat} {kt:Nat} {es:List (R×R)},a1W k l=true->l[j]?=some (.mp kt es)->∃kt' es',k[j]?=some (.mp kt' es')
 | _,[],j,_,_,_,h=>by simp at h
 | [],o::l,j,kt,es,hs,h=>by
  simp only[a1W] at hs;cases ho:b4Q o with
  | true=>rw[ho] at hs;cases hs
  | false =>
   rw[ho] at hs;cases j with
   | zero=>simp at h;subst h;cases ho
   | succ j =>
    obtain⟨a,b,hx⟩:=a6O hs (show l[j]?=_ by simpa using h)
    simp at hx
 | x::k,o::l,j,kt,es,hs,h=>by
  simp only[a1W] at hs;cases j with
  | zero =>
   simp at h
   subst h;cases hx:b4Q x with
   | true=>obtain⟨a,b,rfl⟩:=c5L hx;exact⟨a,b,rfl⟩
   | false=>rw[hx] at hs;cases hs
  | succ j =>
   have hs':a1W k l=true:=by
    cases ho:b4Q o with
    | true =>
     rw[ho] at hs;cases hx:b4Q x with
     | true=>rw[hx] at hs;exact hs
     | false=>rw[hx] at hs;cases hs
    | false=>rw[ho] at hs;exact hs
   obtain⟨a,b,hx⟩:=a6O hs' (show l[j]?=_ by simpa using h);exact⟨a,b,by simpa using hx⟩
def b0x (ks1 ks2:List Nat) (n:Nat) (o o':List O) (m:Nat) (s2:S):Prop:=C1 s2.o m=.kl ks1/\C1 s2.o n=.kl ks2/\a50 n s2.o=o'/\a3q n o'=true/\a1W o o'=true
def c2N (n:Nat) (o o':List O) (m:Nat) (s2:S):Prop:=C1 s2.o m=.kl []/\C1 s2.o n=.kl []/\a50 n s2.o=o'/\a3q n o'=true/\a1W o o'=true
def b61 (ks1 ks2:List Nat) (asg bdy:Code) (tk:List V) (o o':List O):Prop :=
 E9 j5 asg ⟨tk,B4 o (.kl [])⟩ (λx s1=>x=.normal/\a1W o s1.o=true/\E9 j5 bdy ⟨s1.t,B4 s1.o (.kl [])⟩ (λx s2=>x=.normal/\b0x ks1 ks2 (w8 o) o o' (w8 s1.o) s2))
def c8W (asg bdy:Code) (tk:List V) (o o':List O):Prop :=
 E9 j5 asg ⟨tk,B4 o (.kl [])⟩ (λx s1=>x=.normal/\a1W o s1.o=true/\E9 j5 bdy ⟨s1.t,B4 s1.o (.kl [])⟩ (λx s2=>x=.normal/\c2N (w8 o) o o' (w8 s1.o) s2))
section
variable {I0:Nat->Nat->Prop} {X:Nat->Prop} {w0:W0} {I:Nat->Nat->Prop} {g:Nat->Value} {t:List V} {o:List O} {a:Act} {W:World}
def a3Y (I0:Nat->Nat->Prop) (X:Nat->Prop) (w0:W0) (I:Nat->Nat->Prop) (L B:Nat) (t:List V) (a:Act) (o:List O) (W:World):Prop :=
 ∃I' g',(∀b k,I b k->I' b k)/\(∀k,¬I' L k/\¬I' B k)/\RelI I0 X w0 I' g' ⟨t,o⟩ a W/\∀j kt es b,o[j]?=some (.mp kt es)->gbl (g' j) b->b<B
theorem c2O {asg bdy:Code} {ro:Option Nat} {n L B:Nat} {r:Loop} {us:List Value} {tk:List V} {o':List O} {ks1 ks2:List Nat} (hA:y6 Tryz.prog asg=true) (hB:y6 Tryz.prog bdy=true)
  (h:RelI I0 X w0 I g ⟨t,o⟩ a W) (hL:W.heap[L]?=some (.loop r)) {dd:Option (List Deferred)} (hD:W.heap[B]?=some (.deferred dd)) (hL0:w0.w.heap.size<=L) (hI2:∀k,¬I L k/\¬I B k) (hmp:∀j kt es b,o[j]?=some (.mp kt es)->gbl (g j) b->b<B) (hv:o7 I W g us tk) (ht:E5 ks2 t=t) (hx:b61 ks1 ks2 asg bdy tk o o') :
  asg.wpIn (FW ro) n Tryz.prog (Exit.then (λa' W1=>KeepsFrom B W W1/\C3 I W W1/\∃R:World->Prop,b4O L R/\R W1/\∀W2,R W2->bdy.wpIn (FW ro) n Tryz.prog (c2L B (C3 I) (a3Y I0 X w0 I L B t a o') (λ_ _=>False) W2) a' W2) (λ_ _ _=>False)) { tmps:=us.toArray,defers:=[] } W:=by
 obtain⟨g',hg,hgn,h1⟩:=h.rebase hv;have hLt:L<W.heap.size:=(d3Z.1 hL).1;have hDt:B<W.heap.size:=(d3Z.1 hD).1;have hIL:∀k,¬I L k:=λk=>(hI2 k).1
 have hmp1:∀j kt es b,(B4 o (.kl []))[j]?=some (.mp kt es)->gbl (g' j) b->b<B:=λj kt es b hj hb=>by
  rw[a0U] at hj
  have hlt:j<o.length:=by
   have:=(d3J.1 hj).1;rw[d3K,d5f] at this
   rcases d4F j o.length with h|h
   ·exact h
   ·have:j=o.length:=by omega
    subst this
    simp at hj
  rw[d4b hlt] at hj;rw[hg j hlt] at hb;exact hmp j kt es b hj hb
 have hXL:¬Xof g' (B4 o (.kl [])) L:=λ⟨j,x,hj,hd,hb⟩=>a2z hL rfl (h1.obj j x hj) hd hb
 have hXD:¬Xof g' (B4 o (.kl [])) B:=λ⟨j,x,hj,hd,hb⟩=>a2z hD rfl (h1.obj j x hj) hd hb
 refine N0 asg _ _ _ _ _ hA ⟨I,g',h1⟩ hx λe s1 a' W1 hr hk=>?_
 obtain⟨he,hms,hx2⟩:=hk;subst he;obtain⟨I1,g1,h1a⟩:=hr
 have hI1L:∀k,¬I1 L k:=λk hk=>by
  rcases (h1a.lt L k hk).2 hLt with h2|h2
  ·exact hIL k h2
  ·exact hXL h2
 have hI1D:∀k,¬I1 B k:=λk hk=>by
  rcases (h1a.lt B k hk).2 hDt with h2|h2
  ·exact(hI2 k).2 h2
  ·exact hXD h2
 have hmp2:∀j kt es b,s1.o[j]?=some (.mp kt es)->gbl (g1 j) b->b<B:=λj kt es b hj hb=>by
  obtain⟨kt',es',ho⟩:=a6O hms hj;have hlt:=(d3J.1 ho).1;obtain⟨b0,l0,c0,e0,_⟩:=h.obj j _ ho;have e1:=hg j hlt;rw[e0] at e1;have e2:=h1a.st j (Nat.lt_succ_of_lt hlt) (by show a0H (g' j)=true;rw[e1];rfl);have e2:g1 j=g' j:=e2;rw[e2,e1] at hb;exact hmp j kt' es' b ho (by rw[e0];exact hb)
 refine⟨a6N h1.obj hmp1 h1a,h1a.kp,λW2=>∃(Wb:World) (rb r2:Loop),RelI I0 X w0 I g ⟨t,o⟩ a Wb/\Wb.heap[L]?=some (.loop rb)/\W2.heap[L]?=some (.loop r2)/\(B≠L->W2.heap[B]?=some (.deferred dd))/\RelI I (Xof g' (B4 o (.kl []))) ⟨Wb,g',o.length+1,[]⟩ I1 g1 s1 a' W2,?_,?_,?_⟩
 ·rintro W2 r3 r' ⟨Wb,rb,r2,b1,b2,b3,bd,b4⟩ hl
  exact⟨Wb.putObj L (.loop r'),r',r',b1.turned b2 rfl hL0 hIL,World.putObj_heap_same (d3Z.1 b2).1,World.putObj_heap_same (d3Z.1 b3).1,λhne=>(World.putObj_heap_other hne).trans (bd hne),b4.turnBoth hl rfl b2 hI1L⟩
 ·exact⟨W,r,r,h,hL,(h1a.fr.block L hLt hXL).trans hL,λ_=>(h1a.fr.block B hDt hXD).trans hD,h1a⟩
 ·rintro W2 ⟨Wb,rb,r2,b1,b2,b3,bd,b4⟩
  have hne:B≠L:=λe=>by rw[e,hL] at hD;cases hD
  have bd:=bd hne;obtain⟨g3,hg3,hgn3,h5⟩:=b4.rebase b4.tmp
  have ea:({ tmps:=a'.tmps.toList.toArray,defers:=[] }:Act)=a':=by
   have:=b4.dfr.1;cases a';simp only at this;subst this;rfl
  rw[ea] at h5
  have hmp3:∀j kt es b,(B4 s1.o (.kl []))[j]?=some (.mp kt es)->gbl (g3 j) b->b<B:=λj kt es b hj hb=>by
   rw[a0U] at hj
   have hlt:j<s1.o.length:=by
    have:=(d3J.1 hj).1;rw[d3K,d5f] at this
    rcases d4F j s1.o.length with h|h
    ·exact h
    ·have:j=s1.o.length:=by omega
     subst this
     simp at hj
   rw[d4b hlt] at hj;rw[hg3 j hlt] at hb;exact hmp2 j kt es b hj hb
  refine N0 bdy _ _ _ _ _ hB ⟨I1,g3,h5⟩ hx2 λe s2 a3 W3 hr hk=>?_
  obtain⟨he,k1,k2,k3,k4,k5⟩:=hk;subst he;obtain⟨I2,g2,h6⟩:=hr;have hlo:o.length+1<=s1.o.length:=h1a.lo;have k1:=C7 k1 (by simp);have k2:=C7 k2 (by simp);rw[A0] at k1 k2 k3 k4;rw[a6B] at k3;obtain⟨_,h7⟩:=b4.unbase hg3 hgn3 h6 k1;obtain⟨hcut,h8⟩:=b1.unbase hg hgn h7 (ks:=ks2) (by rw[d4i (by show s1.o.length≠o.length;omega)];exact k2)
  have e3:((s2.o.set s1.o.length .dead).set o.length .dead).take o.length=o':=by
   rw[d5M (d3Q _),d5M (by omega),k3]
  have hl2:o.length<s2.o.length:=(d3J.1 k2).1;have h9:=h8.trim (n:=o.length) h.lo (by show o.length<=((s2.o.set _ _).set _ _).length;rw[d4k,d4k];omega) hcut (by show a3q _ (((s2.o.set _ _).set _ _).take _)=true;rw[e3];exact k4);have e4:(⟨E5 ks2 t,((s2.o.set s1.o.length .dead).set o.length .dead).take o.length⟩:S)=⟨t,o'⟩:=by rw[e3,ht]
  have h9':RelI I0 X w0 I2 (a6z o.length g2) ⟨t,o'⟩ a W3:=by rw[<-e4];exact h9
  refine⟨a6N h5.obj hmp3 h6,λb k hb=>h6.kp b k (h1a.im b k hb),I2,a6z o.length g2,h7.im,λk=>?_,h9',λj kt es b hj hb=>?_⟩
  ·constructor
   ·intro hk
    rcases (h6.lt L k hk).2 (d3Z.1 b3).1 with h2|⟨j,x,hj,hd,hb⟩
    ·exact hI1L k h2
    ·exact a2z b3 rfl (h5.obj j x hj) hd hb
   ·intro hk
    rcases (h6.lt B k hk).2 (d3Z.1 bd).1 with h2|⟨j,x,hj,hd,hb⟩
    ·exact hI1D k h2
    ·exact a2z bd rfl (h5.obj j x hj) hd hb
  ·obtain⟨kt',es',ho⟩:=a6O k5 hj;have hlt:=(d3J.1 ho).1;obtain⟨b0,l0,c0,e0,_⟩:=h.obj j _ ho;have e1:=hg j hlt;rw[e0] at e1;have e2:g2 j=g' j:=h7.st j (Nat.lt_succ_of_lt hlt) (by show a0H (g' j)=true;rw[e1];rfl);rw[show a6z o.length g2 j=g2 j from d3I hlt,e2,e1] at hb;exact hmp j kt' es' b ho (by rw[e0];exact hb)
end
theorem b2c {s:S} {k i:Nat} (h:U7 ⟨s.t,s.o.set k .dead⟩ i):U7 s i:=by
 obtain⟨o,ho,hd⟩:=h
 by_cases e:k=i
 ·subst e;rw[List.getElem?_set] at ho
  split at ho
  ·split at ho
   ·exact absurd (Option.some.inj ho).symm hd
   ·cases ho
  ·exact absurd rfl ‹¬_›
 ·exact⟨o,by simpa [d4i e] using ho,hd⟩
section
variable {I0:Nat->Nat->Prop} {X:Nat->Prop} {w0:W0} {I:Nat->Nat->Prop} {g:Nat->Value} {s:S} {a:Act} {w:World}
theorem RelI.frzBox (h:RelI I0 X w0 I g s a w) {k:Nat} {cs:List V} (hk:s.o[k]?=some (.box cs)):∃(b:Nat) (us:List Value) (t:TypeId×List Value),g k=.pointer (some ⟨b,0,none⟩)/\w.heap[b]?=some (.cells (us++t.2).toArray t.1 (0,0))/\o7 I w g us cs /\
  RelI I0 X w0 (λb' n=>I b' n\/(b'=b/\n<=us.length)) g ⟨s.t,s.o.set k .dead⟩ a w:=by
 obtain⟨b,us,t,h1,h2,h3,h4,h5,h6⟩:=h.obj k _ hk;have hlk:U7 s k:=⟨_,hk,by simp⟩;have hgk:gbl (g k) b:=by rw[h1];rfl
 have hkp:C3 I w w:=C3.refl I w;refine⟨b,us,t,h1,h2,h3,λb n hb=>.inl (h.im b n hb),λb' n hb=>?_,h.fr,h.kp,by simpa using h.lo,h.st,λj o hj=>?_,λi j b hi hj=>h.dis i j b (b2c hi) (b2c hj),λj hj=>h.out j (by simpa using hj),h.tmp.mono (λ_ _ h=>.inl h) hkp,h.dfr⟩
 ·rcases hb with hb|⟨rfl,_⟩
  ·exact h.lt b' n hb
  ·refine⟨(d3Z.1 h2).1,λhlt=>.inr ?_⟩
   rcases h6 with hM|hM
   ·omega
   ·exact hM
 ·by_cases hjk:k=j
  ·subst hjk;have hlt:k<s.o.length:=(d3J.1 hk).1;simp only[d4v hlt] at hj;injection hj with hj;subst hj;exact True.intro
  ·simp only[d4i hjk] at hj
   by_cases hd:o=.dead
   ·subst hd;exact True.intro
   refine(h.obj j o hj).keep (λ_ _ h=>.inl h) hkp (λ_ _=>rfl) λb' hb n hn=>?_
   rcases hn with hn|⟨rfl,_⟩
   ·exact hn
   ·exact absurd (h.dis k j b' hlk ⟨o,hj,hd⟩ hgk hb) hjk
end
section
variable {I0:Nat->Nat->Prop} {X:Nat->Prop} {w0:W0} {I:Nat->Nat->Prop} {g:Nat->Value} {t:List V} {a:Act} {w:World}
theorem a3Y.turned {L B:Nat} {o:List O} (h0:w0.w.heap.size<=L):b4O L (a3Y I0 X w0 I L B t a o):=by
 rintro W r r' ⟨I',g',h1,h2,h3,h4⟩ hl
 exact⟨I',g',h1,h2,h3.turned hl rfl h0 (λk=>(h2 k).1),h4⟩
theorem b4R {asg bdy:Code} {n:Nat} {g0:Operand} {p1 p2 gf N:Nat} {lb:Array Value} {u1 u2:Nat->Value} {Kp:World->World->Prop} {st:Nat->List O} {tk:Nat->List V} {Q:Exit->Act->World->Prop} {ks1 ks2:List Nat} (hA:y6 Tryz.prog asg=true) (hB:y6 Tryz.prog bdy=true)
  (h:RelI I0 X w0 I g ⟨t,st 0⟩ a w) (h1:1<=n) (hg:a.eval g0=.func (.func gf) #[] lb) (eg:∀args w,(callFunc gf args).run Tryz.prog w=.ok (.enter gf args) w)
  (hseq:b60 (FW none) (n - 1) Tryz.prog gf lb (λk=>#[u1 k,u2 k]) Kp N w) (hKt:∀ {A B C:World},Kp A B->Kp B C->Kp A C) (hKb:∀(W:World) (l:Nat) (o o':Obj),w.heap.size<=l->W.heap[l]?=some o->o.isCells=false->o.isWalk=false->Kp W (W.putObj l o')) (hKp:∀W W',C3 I W W'->Kp W W')
  (hv:∀k W I' g',k<N->(∀b j,I b j->I' b j)->C3 I w W->o7 I' W g' a.tmps.toList t->o7 I' W g' ((a.tmps.setIfInBounds p1 (u1 k)).setIfInBounds p2 (u2 k)).toList (tk k))
  (ht:E5 ks2 t=t) (hx:∀k,k<N->b61 ks1 ks2 asg bdy (tk k) (st k) (st (k+1)))
  (hQ:∀(D:Nat) (W:World),D=w.heap.size->a3Y I0 X w0 I (w.heap.size+1) w.heap.size t a (st N) W->W.heap[D]?=some (.deferred (some []))->Q .normal { a with defers:={ target:=.collected D,args:=#[] }::a.defers } W) :
  (Code.rangeFunc g0 #[p1,p2] asg bdy).wpIn (FW none) n Tryz.prog Q a w:=by
 obtain⟨L,hL⟩:∃L,L=w.heap.size+1:=⟨_,rfl⟩;have hL0:w0.w.heap.size<=L:=by have:=h.fr.size;omega
 have hIL:∀k,¬I L k/\¬I w.heap.size k:=λk=>⟨λhk=>by have:=(h.lt L k hk).1;omega,λhk=>by have:=(h.lt _ k hk).1;omega⟩
 have hIL1:∀k,¬I L k:=λk=>(hIL k).1
 refine c5K (F:=FW none) rfl h1 hg trivial eg hseq hKt hKb (λ_=>rfl) (λk W=>a3Y I0 X w0 I L w.heap.size t a (st k) W/\C3 I w W) (λ_ _=>False) (λk W r r' hw hl=>?_) (λ_ _ _ _ hw _=>hw) (λr=>?_) (λl k W hk hw hl=>?_) (λD W hD hw hd=>?_) (λ_ _ _ _ hw _=>hw.elim)
 ·rw[<-hL] at hl ⊢;exact⟨a3Y.turned hL0 W r r' hw.1 hl,hw.2.trans (a1u hIL1)⟩
 ·have hbel:Below w.heap.size w ((w.alloc (.deferred (some []))).alloc (.loop r)):=((Below.refl _ w).alloc (d3Q _) _).alloc (by simp) _;refine⟨⟨I,g,λ_ _ h=>h,hIL,h.grow hbel (λ_ _ h=>h) (λ_ _ h=>.inl h),λj kt es b hj hb=>((h.obj j _ hj).blk (by simp) b hb).1⟩,λb j hb i _=>hbel.cell (p:=⟨b,i,none⟩) (h.lt b j hb).1⟩
 ·obtain⟨⟨I',g',h2,h3,h4,h5⟩,hk2⟩:=hw;obtain⟨⟨r,hl⟩,hdd⟩:=hl;rw[<-hL] at hl;have key:=c2O (ro:=some l) (n:=n - 1 - 1) hA hB h4 hl hdd hL0 h3 h5 (hv k W I' g' hk h2 hk2 h4.tmp) ht (hx k hk);have ez:(#[p1,p2].zip #[u1 k,u2 k]).foldl (λt (x:Tmp×Value)=>match x with|(p,v)=>t.setIfInBounds p v) a.tmps=(a.tmps.setIfInBounds p1 (u1 k)).setIfInBounds p2 (u2 k):=by simp
  rw[Array.toArray_toList,<-ez] at key;refine wpIn_mono key λe a' W1 he=>?_
  cases e with
  | normal =>
   obtain⟨e1,e2,R,e3,e4,e5⟩:=he;have hkI:∀ {A B:World},C3 I' A B->C3 I A B:=λh b j hb=>h b j (h2 b j hb)
   refine⟨e1,hKp _ _ (hkI e2),λW2=>R W2/\C3 I w W2,?_,⟨e4,hk2.trans (hkI e2)⟩,?_⟩
   ·rintro W2 r1 r2 ⟨f1,f2⟩ hl2
    rw[<-hL] at hl2 ⊢;exact⟨e3 W2 r1 r2 f1 hl2,f2.trans (a1u hIL1)⟩
   ·rintro W2 ⟨f1,f2⟩
    refine wpIn_mono (e5 W2 f1) λe a3 W3 he=>?_
    cases e with
    | normal =>
     obtain⟨q1,q2,I2,g2,q3,q4,q5,q6⟩:=he;exact⟨q1,hKp _ _ (hkI q2),⟨I2,g2,λb j hb=>q3 b j (h2 b j hb),q4,q5,q6⟩,f2.trans (hkI q2)⟩
    | ret=>exact he
    | exit i=>exact he
    | goto t=>exact he
    | panic c=>exact he
    | outgrown=>exact he
  | ret=>exact he.elim
  | exit i=>exact he.elim
  | goto t=>exact he.elim
  | panic c=>exact he.elim
  | outgrown=>exact he.elim
 ·rw[hL] at hw;exact hQ D W hD hw.1 hd
theorem c2P {asg bdy:Code} {n:Nat} {g0:Operand} {p1 p2 gf N:Nat} {lb:Array Value} {u1 u2:Nat->Value} {Kp:World->World->Prop} {st:Nat->List O} {tk:Nat->List V} {Q:Exit->Act->World->Prop} (hA:y6 Tryz.prog asg=true) (hB:y6 Tryz.prog bdy=true)
  (h:RelI I0 X w0 I g ⟨t,st 0⟩ a w) (h1:1<=n) (hg:a.eval g0=.func (.func gf) #[] lb) (eg:∀args w,(callFunc gf args).run Tryz.prog w=.ok (.enter gf args) w)
  (hseq:b60 (FW none) (n - 1) Tryz.prog gf lb (λk=>#[u1 k,u2 k]) Kp N w) (hKt:∀ {A B C:World},Kp A B->Kp B C->Kp A C) (hKb:∀(W:World) (l:Nat) (o o':Obj),w.heap.size<=l->W.heap[l]?=some o->o.isCells=false->o.isWalk=false->Kp W (W.putObj l o')) (hKp:∀W W',C3 I W W'->Kp W W')
  (hv:∀k W I' g',k<N->(∀b j,I b j->I' b j)->C3 I w W->o7 I' W g' a.tmps.toList t->o7 I' W g' ((a.tmps.setIfInBounds p1 (u1 k)).setIfInBounds p2 (u2 k)).toList (tk k))
  (hx:∀k,k<N->c8W asg bdy (tk k) (st k) (st (k+1)))
  (hQ:∀(D:Nat) (W:World),D=w.heap.size->a3Y I0 X w0 I (w.heap.size+1) w.heap.size t a (st N) W->W.heap[D]?=some (.deferred (some []))->Q .normal { a with defers:={ target:=.collected D,args:=#[] }::a.defers } W) :
  (Code.rangeFunc g0 #[p1,p2] asg bdy).wpIn (FW none) n Tryz.prog Q a w :=
 b4R (ks1:=[]) (ks2:=[]) hA hB h h1 hg eg hseq hKt hKb hKp hv rfl hx hQ
end
section
variable {I0:Nat->Nat->Prop} {X:Nat->Prop} {w0:W0} {I:Nat->Nat->Prop} {g:Nat->Value} {s:S} {a:Act} {w:World}
theorem RelI.mark (h:RelI I0 X w0 I g s a w) (d:List Deferred):RelI I0 X ⟨w0.w,w0.g,w0.n,d⟩ I g s { a with defers:=d } w :=
 ⟨h.im,h.lt,h.fr,h.kp,h.lo,h.st,h.obj,h.dis,h.out,h.tmp,rfl,h.dfr.2⟩
end
def d1l (l:List ResultVar) (q:List R) (m:Nat):Vm.X->S->Prop
 | .exit _,_=>False
 | _,s=>C1 s.o m=.kl []/\b1c j5 s l q
theorem b9L {c2:Code} {n D:Nat} {fn:Func} {q:List R} {w:World} {I IN:Nat->Nat->Prop} {gN:Nat->Value} {t:List V} {oN:List O} {a:Act} {W:World} (hc:y6 Tryz.prog c2=true) (hr:T3 fn.results.toList=true)
  (h:RelI I (λ_=>False) ⟨w,λ_=>.nilFunc,0,[]⟩ IN gN ⟨t,oN⟩ a W) (hID:∀k,¬IN D k) (hD0:w.heap.size<=D) (hD:W.heap[D]?=some (.deferred (some [])))
  (hx:E9 j5 c2 ⟨t,B4 oN (.kl [])⟩ (λx s=>d1l fn.results.toList q (w8 oN) x s)) :
  c2.wpIn (FW none) n Tryz.prog (bodyPostM (FW none) n Tryz.prog fn (λe w'=>∃v,e=.returned v/\a3o (nxt I w w') w' v q/\Below w.heap.size w w')) { a with defers:={ target:=.collected D,args:=#[] }::a.defers } W:=by
 obtain⟨g',hg,hgn,h1⟩:=h.rebase h.tmp;have hDt:D<W.heap.size:=(d3Z.1 hD).1;have hXD:¬Xof g' (B4 oN (.kl [])) D:=λ⟨j,x,hj,hd,hb⟩=>a2z hD rfl (h1.obj j x hj) hd hb
 have h2:=h1.mark [{ target:=.collected D,args:=#[] }]
 have ea:({ ({ tmps:=a.tmps.toList.toArray,defers:=[] }:Act) with defers:=[{ target:=.collected D,args:=#[] }] }:Act)={ a with defers:={ target:=.collected D,args:=#[] }::a.defers }:=by
  have:=h.dfr.1;cases a;simp only at this;subst this;rfl
 rw[ea] at h2;refine N0 c2 _ _ _ _ _ hc ⟨IN,g',h2⟩ hx λe s2 a2 W2 hrel hk=>?_
 obtain⟨I2,g2,h3⟩:=hrel;have hD2:W2.heap[D]?=some (.deferred (some [])):=(h3.fr.block D hDt hXD).trans hD
 have hI2D:∀k,¬I2 D k:=λk hk=>by
  rcases (h3.lt D k hk).2 hDt with h4|h4
  ·exact hID k h4
  ·exact hXD h4
 have key:C1 s2.o (w8 oN)=.kl []/\b1c j5 s2 fn.results.toList q->LeavesInM (FW none) n Tryz.prog fn a2.tmps (λe w'=>∃v,e=.returned v/\a3o (nxt I w w') w' v q/\Below w.heap.size w w') a2.defers .returning W2:=λ⟨hkl,hres⟩=>by
  rw[h3.dfr.1];have h4:=h3.turnBoth (y':=.deferred none) hD2 rfl hD hI2D;have h5:=h.turned (y':=.deferred none) hD rfl hD0 hID;have h6:=h4.mark [];have hkl:=C7 hkl (by simp);rw[A0] at hkl;obtain⟨_,h7⟩:=h5.unbase hg hgn h6 hkl;obtain⟨v,r1,r2⟩:=a5P h4 hr hres;refine⟨by simp,.inl ⟨_,_,rfl,run_takeDeferred hD2,?_⟩⟩;refine⟨v,r1,v,rfl,?_,⟨h7.fr.os,h7.fr.tape,h7.fr.output,h7.fr.size,λb hb=>h7.fr.block b hb (λhx=>hx)⟩⟩
  have hnx:∀b k,I2 b k->nxt I w _ b k:=λb k hbk=>by
   obtain⟨h3,h4⟩:=h7.lt b k hbk
   rcases d4F b w.heap.size with hlt|hge
   ·exact .inl ((h4 hlt).resolve_right (λhx=>hx))
   ·exact .inr ⟨hge,h3⟩
  match q,r2 with
  | [],⟨us,e,hu⟩=>exact⟨us,e,hu.mono hnx (C3.refl _ _)⟩
  | [r],hu=>exact AtR.mono hnx (C3.refl _ _) hu
  | r::r'::q,⟨us,e,hu⟩=>exact⟨us,e,hu.mono hnx (C3.refl _ _)⟩
 cases e with
 | normal=>exact key hk
 | exit i=>exact hk.elim
 | ret=>exact key hk
theorem b62 {f:Nat} {fn:Func} {c0 c1 cp c2 asg bdy:Code} {bi:Nat} {g0:Operand} {ps:Array Tmp} {rs q:List R} {Pre:S->Prop} (hf:Tryz.prog.funcs[f]?=some fn)
  (hb:fn.body=some (.seq c0 (.seq c1 (.seq (.seq cp (.block bi (.rangeFunc g0 ps asg bdy))) c2)))) (hn:(fn.name != "runtime.NumGoroutine")=true) (h0:y6 Tryz.prog c0=true) (h1:y6 Tryz.prog c1=true) (hp:y6 Tryz.prog cp=true)
  (hpre:E9 j5 (.seq c0 (.seq c1 cp)) (a45 rs (fn.ntmps - G7 rs)) (λx s=>x=.normal/\Pre s))
  (hmid:∀(I I':Nat->Nat->Prop) (g:Nat->Value) (w W:World) (s:S) (a:Act),Pre s->RelI I (λ_=>False) ⟨w,λ_=>.nilFunc,0,[]⟩ I' g s a W ->
   (Code.rangeFunc g0 ps asg bdy).wpIn (FW none) 3 Tryz.prog (Exit.inBlock bi (Exit.then (c2.wpIn (FW none) 3 Tryz.prog (bodyPostM (FW none) 3 Tryz.prog fn (λe w'=>∃v,e=.returned v/\a3o (nxt I w w') w' v q/\Below w.heap.size w w')))
    (bodyPostM (FW none) 3 Tryz.prog fn (λe w'=>∃v,e=.returned v/\a3o (nxt I w w') w' v q/\Below w.heap.size w w')))) a W):o8 f rs q:=by
 refine⟨by unfold a3p;rw[hf];simp only[hn,hb];rfl,?_⟩;intro I w args hI hat;have hlen:=hat.len;have hsz:args.toArray.size=G7 rs:=by rw[M9];simp[hlen]
 refine callsIn_wide.1 (callsIn_of_wp_marks (n:=3) hf hb trivial ?_);rw[hsz];have hst:=a9P hI hat (fn.ntmps - G7 rs);refine wpIn_seq (N0 (ro:=none) c0 _ _ _ _ _ h0 ⟨I,_,hst⟩ hpre λe s1 a1 W1 hr1 hk1=>?_);cases e with
 | normal =>
  obtain⟨F1,hg1,hk1⟩:=hk1;obtain⟨z1,hf1,hr1'⟩:=hg1 _ _ _ _ _ hr1;refine wpIn_seq (N0 (ro:=none) c1 _ _ _ _ _ h1 hr1' (hk1 z1 hf1) λe s2 a2 W2 hr2 hk2=>?_);cases e with
  | normal =>
   obtain⟨F2,hg2,hk2⟩:=hk2;obtain⟨z2,hf2,hr2'⟩:=hg2 _ _ _ _ _ hr2;refine wpIn_seq (wpIn_seq (N0 (ro:=none) cp _ _ _ _ _ hp hr2' (hk2 z2 hf2) λe s3 a3 W3 hr3 hk3=>?_));obtain⟨he,hP⟩:=hk3;subst he;obtain⟨I',g',h3⟩:=hr3;exact wpIn_block (hmid I I' g' w W3 s3 a3 hP h3)
  | exit i=>exact absurd hk2.1 (by simp)
  | ret=>exact absurd hk2.1 (by simp)
 | exit i=>exact absurd hk1.1 (by simp)
 | ret=>exact absurd hk1.1 (by simp)
end
section
def P9:Code->Code
 | .seq c _=>c
 | c=>c
def A7:Code->Code
 | .seq _ c=>c
 | c=>c
def jT (rows:List (List D)) (d0 d1 d2 d3:D):List V:=[.d (.sl 5 rows),.ag [.d d0,.d d1,.d d2,.d d3],.tu [],.ptr 0 0,.ptr 1 0,.ptr 2 0,.tu [],.tu [],.ag [.d d0,.d d1,.d d2,.d d3],.ag [.d d0,.d d1,.d d2,.d d3],.d (.sl 5 rows),
 .cl 120 [4],.tu [],.tu [],.tu [],.tu [],.tu [],.tu [],.tu [],.tu [],.tu [],.tu [],.tu []]
def jO (d0 d1 d2 d3:D) (acc:List V) (b:O):List O:=[.box [.d d0,.d d1,.d d2,.d d3],.box [.d (.sc (.int .u8 0)),.d (.sc (.string ⟨#[]⟩)),.d (.sc (.int .i64 0)),.em],.box acc,.dead,b]
set_option maxRecDepth 100000
set_option maxHeartbeats 4000000
theorem c2Q (rows:List (List D)) (d0 d1 d2 d3:D) (hcp:o8 109 [.ag [d0,d1,d2,d3]] [.ag [d0,d1,d2,d3]]) (P:S->Prop) (hP:P ⟨jT rows d0 d1 d2 d3,jO d0 d1 d2 d3 [.d d0,.d d1,.d d2,.d d3] (.box [.d (.sl 5 rows)])⟩):∀qa qb qc qd qe qg qh qi qj qk ql qm qo qp qq qt qu qv qw qx qy qz va vc vd ve vf vg vh vj vk vl vm vn vo vq vr vt vu vv vw vx vy,Ar.mk qa qb qc qd qe qg qh qi qj qk ql qm qo qp qq qt qu qv qw qx qy qz va vc vd ve vf vg vh vj vk vl vm vn vo vq vr vt vu vv vw vx vy=j5->E9 (Ar.mk qa qb qc qd qe qg qh qi qj qk ql qm qo qp qq qt qu qv qw qx qy qz va vc vd ve vf vg vh vj vk vl vm vn vo vq vr vt vu vv vw vx vy) (.seq (P9 (Tryz.f102.body.getD .skip)) (.seq (P9 (A7 (Tryz.f102.body.getD .skip))) (P9 (P9 (A7 (A7 (Tryz.f102.body.getD .skip)))))))
  (a45 [.one (.sl 5 rows),.ag [d0,d1,d2,d3]] (Tryz.f102.ntmps - G7 [R.one (.sl 5 rows),.ag [d0,d1,d2,d3]])) (λx s=>x=.normal/\P s):=by
 intro _ _ _ _ _ _ _ _ _ _ _ _ _ _ _ _ _ _ _ _ _ _ _ _ _ _ _ _ _ _ _ _ _ _ _ _ _ _ _ _ _ vx _ hA;cbv
 repeat ((with_reducible apply j6 hA);cbv)
 refine j8 hA _ hcp ?_ ?_
 ·rfl
 cbv
 repeat ((with_reducible apply j6 hA);cbv)
 refine a9T hA Tryz.func110 rfl (by kernel_rfl) (by kernel_rfl) (by kernel_rfl) ?_;cbv
 repeat ((with_reducible apply j6 hA);cbv)
 exact hP
def a20:Code->Code
 | .block _ (.rangeFunc _ _ a _)=>a
 | c=>c
def a21:Code->Code
 | .block _ (.rangeFunc _ _ _ b)=>b
 | c=>c
theorem b63 (rows:List (List D)) (d0 d1 d2 d3 a0 a1 a2 a3 nm c0 c1 c2 c3:D) (i:Int) (hcp:o8 109 [.ag [c0,c1,c2,c3]] [.ag [c0,c1,c2,c3]]):∀qa qb qc qd qe qg qh qi qj qk ql qm qo qp qq qt qu qv qw qx qy qz va vc vd ve vf vg vh vj vk vl vm vn vo vq vr vt vu vv vw vx vy,Ar.mk qa qb qc qd qe qg qh qi qj qk ql qm qo qp qq qt qu qv qw qx qy qz va vc vd ve vf vg vh vj vk vl vm vn vo vq vr vt vu vv vw vx vy=j5 ->
  E9 (Ar.mk qa qb qc qd qe qg qh qi qj qk ql qm qo qp qq qt qu qv qw qx qy qz va vc vd ve vf vg vh vj vk vl vm vn vo vq vr vt vu vv vw vx vy) (a20 (A7 (P9 (A7 (A7 (Tryz.f102.body.getD .skip)))))) ⟨H5 (H5 (jT rows d0 d1 d2 d3) 12 (vi .i64 i)) 13 (.ag [.d nm,.d c0,.d c1,.d c2,.d c3]),B4 (jO d0 d1 d2 d3 [.d a0,.d a1,.d a2,.d a3] .dead) (.kl [])⟩
   (λx s1=>x=.normal/\a1W (jO d0 d1 d2 d3 [.d a0,.d a1,.d a2,.d a3] .dead) s1.o=true/\E9 (Ar.mk qa qb qc qd qe qg qh qi qj qk ql qm qo qp qq qt qu qv qw qx qy qz va vc vd ve vf vg vh vj vk vl vm vn vo vq vr vt vu vv vw vx vy) (a21 (A7 (P9 (A7 (A7 (Tryz.f102.body.getD .skip)))))) ⟨s1.t,B4 s1.o (.kl [])⟩ (λx s2=>x=.normal /\
    c2N 5 (jO d0 d1 d2 d3 [.d a0,.d a1,.d a2,.d a3] .dead) (jO d0 d1 d2 d3 [.d (.sc (.int .u8 11)),.d nm,.d (.sc (.int .i64 0)),.d (.sl 4 [[c0,c1,c2,c3],[a0,a1,a2,a3]])] .dead) (w8 s1.o) s2)):=by
 intro _ _ _ _ _ _ _ _ _ _ _ _ _ _ _ _ _ _ _ _ _ _ _ _ _ _ _ _ _ _ _ _ _ _ _ _ _ _ _ _ _ vx _ hA;cbv
 repeat ((with_reducible apply j6 hA);cbv)
 refine l9 hA _ hcp ?_;cbv
 repeat ((with_reducible first|apply j6 hA|apply E2 hA true);cbv)
 exact⟨rfl,trivial⟩
def a6P:List (List D)->List D->List D
 | [],tl=>tl
 | r::rows,tl=>[.sc (.int .u8 11),r.headD (.sl 0 []),.sc (.int .i64 0),.sl 4 [r.tail,a6P rows tl]]
theorem b0y (rows:List (List D)) (d0 d1 d2 d3:D):∃a0 a1 a2 a3,a6P rows [d0,d1,d2,d3]=[a0,a1,a2,a3]:=by
 cases rows <;> exact⟨_,_,_,_,rfl⟩
def b1h (rows:List (List D)) (tl:List D) (k:Nat):List D:=a6P (rows.drop (rows.length - k)) tl
theorem b9M {rows:List (List D)} {tl r:List D} {k:Nat} (hk:k<rows.length) (hr:rows[rows.length - 1 - k]?=some r):b1h rows tl (k+1)=a6P (r::rows.drop (rows.length - k)) tl:=by
 have h1:rows.length - (k+1)<rows.length:=by omega
 have h2:=d4c h1;have e1:rows.length - 1 - k=rows.length - (k+1):=by omega
 rw[e1,d3H h1] at hr;rw[b1h,h2,Option.some.inj hr,show rows.length - (k+1)+1=rows.length - k by omega]
theorem b64 {W:World} {b:Nat} {us:Array Value} {t:TypeId} {m:Nat×Nat} {i:Nat} (h:W.heap[b]?=some (.cells us t m)):W.cell? ⟨b,i,none⟩=us[i]?:=by
 show (match W.heap[b]? with|some (.cells c _ _)=>c[i]?|_=>none)=_;rw[h]
theorem c2R (rows:List (List D)) (d0 d1 d2 d3 a0 a1 a2 a3:D):∀qa qb qc qd qe qg qh qi qj qk ql qm qo qp qq qt qu qv qw qx qy qz va vc vd ve vf vg vh vj vk vl vm vn vo vq vr vt vu vv vw vx vy,Ar.mk qa qb qc qd qe qg qh qi qj qk ql qm qo qp qq qt qu qv qw qx qy qz va vc vd ve vf vg vh vj vk vl vm vn vo vq vr vt vu vv vw vx vy=j5->E9 (Ar.mk qa qb qc qd qe qg qh qi qj qk ql qm qo qp qq qt qu qv qw qx qy qz va vc vd ve vf vg vh vj vk vl vm vn vo vq vr vt vu vv vw vx vy) (A7 (A7 (A7 (Tryz.f102.body.getD .skip)))) ⟨jT rows d0 d1 d2 d3,B4 (jO d0 d1 d2 d3 [.d a0,.d a1,.d a2,.d a3] .dead) (.kl [])⟩
  (λx s=>d1l Tryz.f102.results.toList [.ag [a0,a1,a2,a3]] 5 x s):=by
 intro _ _ _ _ _ _ _ _ _ _ _ _ _ _ _ _ _ _ _ _ _ _ _ _ _ _ _ _ _ _ _ _ _ _ _ _ _ _ _ _ _ vx _ hA;cbv
 repeat ((with_reducible apply j6 hA);cbv)
end
theorem c5M:Tryz.f102.body=some (.seq (P9 (Tryz.f102.body.getD .skip)) (.seq (P9 (A7 (Tryz.f102.body.getD .skip))) (.seq (.seq (P9 (P9 (A7 (A7 (Tryz.f102.body.getD .skip))))) (.block 0 (.rangeFunc (.tmp 11) #[12,13] (a20 (A7 (P9 (A7 (A7 (Tryz.f102.body.getD .skip)))))) (a21 (A7 (P9 (A7 (A7 (Tryz.f102.body.getD .skip))))))))) (A7 (A7 (A7 (Tryz.f102.body.getD .skip))))))):=by kernel_rfl
theorem c5N:(Tryz.f102.name != "runtime.NumGoroutine")=true:=by kernel_rfl
theorem c5O:y6 Tryz.prog (P9 (Tryz.f102.body.getD .skip))=true:=by kernel_rfl
theorem c5P:y6 Tryz.prog (P9 (A7 (Tryz.f102.body.getD .skip)))=true:=by kernel_rfl
theorem c5Q:y6 Tryz.prog (P9 (P9 (A7 (A7 (Tryz.f102.body.getD .skip)))))=true:=by kernel_rfl
theorem c5R:y6 Tryz.prog (A7 (A7 (A7 (Tryz.f102.body.getD .skip))))=true:=by kernel_rfl
theorem c5S:T3 Tryz.f102.results.toList=true:=by kernel_rfl
theorem c5T:y6 Tryz.prog (a20 (A7 (P9 (A7 (A7 (Tryz.f102.body.getD .skip))))))=true:=by kernel_rfl
theorem c5U:y6 Tryz.prog (a21 (A7 (P9 (A7 (A7 (Tryz.f102.body.getD .skip))))))=true:=by kernel_rfl
theorem b9N (rows:List (List D)) (d0 d1 d2 d3:D) (hcp:o8 109 [.ag [d0,d1,d2,d3]] [.ag [d0,d1,d2,d3]]) (P:S->Prop) (hP:P ⟨jT rows d0 d1 d2 d3,jO d0 d1 d2 d3 [.d d0,.d d1,.d d2,.d d3] (.box [.d (.sl 5 rows)])⟩) :
  E9 j5 (.seq (P9 (Tryz.f102.body.getD .skip)) (.seq (P9 (A7 (Tryz.f102.body.getD .skip))) (P9 (P9 (A7 (A7 (Tryz.f102.body.getD .skip))))))) (a45 [.one (.sl 5 rows),.ag [d0,d1,d2,d3]] (Tryz.f102.ntmps - G7 [R.one (.sl 5 rows),.ag [d0,d1,d2,d3]])) (λx s=>x=.normal/\P s) :=
 c2Q rows d0 d1 d2 d3 hcp P hP _ _ _ _ _ _ _ _ _ _ _ _ _ _ _ _ _ _ _ _ _ _ _ _ _ _ _ _ _ _ _ _ _ _ _ _ _ _ _ _ _ _ _ rfl
theorem c2S (rows:List (List D)) (d0 d1 d2 d3:D) (hlen:rows.length * 80<=140737488351232) (htl:o8 109 [.ag [d0,d1,d2,d3]] [.ag [d0,d1,d2,d3]]) (hrows:∀r∈rows,∃nm c0 c1 c2 c3,r=[nm,c0,c1,c2,c3]/\o8 109 [.ag [c0,c1,c2,c3]] [.ag [c0,c1,c2,c3]]) :
  o8 102 [.one (.sl 5 rows),.ag [d0,d1,d2,d3]] [.ag (a6P rows [d0,d1,d2,d3])]:=by
 refine b62 (Pre:=λs=>s=⟨jT rows d0 d1 d2 d3,jO d0 d1 d2 d3 [.d d0,.d d1,.d d2,.d d3] (.box [.d (.sl 5 rows)])⟩) Tryz.func102 c5M c5N c5O c5P c5Q ?_ ?_
 ·exact b9N rows d0 d1 d2 d3 htl _ rfl
 intro I I' g w W s a hs h;subst hs;obtain⟨b,us,ty,h1,h2,h3,h4⟩:=h.frzBox (k:=4) rfl;obtain⟨v,us',rfl,hv,hn⟩:=h3.uncons;obtain rfl:=hn.unnil;have hvD:AtD I' W v (.sl 5 rows):=by cases hv with|d h=>exact h
 have hBs:W.cell? ⟨b,0,none⟩=some v:=b64 h2;have hbl:b<W.heap.size:=(d3Z.1 h2).1;obtain⟨bb,off,vs,hl,hup,hds,hr5,hseq⟩:=b9K (λb k hb=>(h.lt b k hb).1) hvD hbl hBs hlen
 have hcl:a.eval (.tmp 11)=.func (.func 120) #[] #[.pointer (some ⟨b,0,none⟩)]:=by
  have h5:=h4.get (.tmp 11);have h5:AtV _ W g (a.eval (.tmp 11)) (.cl 120 [4]):=h5;generalize a.eval (.tmp 11)=ax at h5 ⊢;cases h5 with
  | cl f us ks hl hh =>
   match us,hl with
   | [u],_=>rw[(hh 0 u 4 rfl rfl).1,h1]
 have hst0:RelI I (λ_=>False) ⟨w,λ_=>.nilFunc,0,[]⟩ (λb' n=>I' b' n\/(b'=b/\n<=1)) g ⟨jT rows d0 d1 d2 d3,jO d0 d1 d2 d3 (C0 (b1h rows [d0,d1,d2,d3] 0)) .dead⟩ a W:=by
  have e:b1h rows [d0,d1,d2,d3] 0=[d0,d1,d2,d3]:=by rw[b1h,d4w (by omega)];rfl
  rw[e];exact h4
 refine c2P (t:=jT rows d0 d1 d2 d3) (p1:=12) (p2:=13) (gf:=120) (N:=rows.length) (lb:=#[.pointer (some ⟨b,0,none⟩)])
  (u1:=λk=>.int .i64 ((rows.length - 1 - k:Nat):Int)) (u2:=λk=>.agg (((vs.drop ((rows.length - 1 - k) * 5)).take 5).toArray)) (Kp:=KpB b bb off (rows.length * 5)) (st:=λk=>jO d0 d1 d2 d3 (C0 (b1h rows [d0,d1,d2,d3] k)) .dead)
  (tk:=λk=>H5 (H5 (jT rows d0 d1 d2 d3) 12 (vi .i64 ((rows.length - 1 - k:Nat):Int))) 13 (.ag (C0 (rows.getD (rows.length - 1 - k) []))))
  c5T c5U hst0 (by decide) hcl (enters_of Tryz.func120 (by kernel_rfl) rfl) (hseq (FW none) 2 trivial rfl (by decide)) KpB.trans (λW l o o' _ hl ho _=>KpB.turn W l o o' hl ho) ?_ ?_ ?_ ?_
 ·intro W1 W2 hk;refine⟨λv hv=>?_,λi hi v hv=>?_⟩
  ·rw[hk b 1 (.inr ⟨rfl,d3Q _⟩) 0 (by decide)];exact hv
  ·obtain⟨n,hn1,hn2⟩:=hup (λe=>by rw[e] at hi;simp at hi);rw[hk bb n (.inl hn2) (off+i) (by omega)];exact hv
 ·intro k W1 I1 g1 hk hI1 hk1 hvs;have hlt:rows.length - 1 - k<rows.length:=by omega
  have e1:∀(ts:Array Value) (i:Nat) (u:Value),(ts.setIfInBounds i u).toList=ts.toList.set i u:=λts i u=>by simp
  rw[e1,e1,a0l,a0l];refine(hvs.set (.d (.sc _ rfl)) 12).set (Z6 ?_) 13;refine F8.toV g1 ?_;have h5:=(hds.drop ((rows.length - 1 - k) * 5)).take 5
  have e2:(rows.flatten.drop ((rows.length - 1 - k) * 5)).take 5=rows.getD (rows.length - 1 - k) []:=by
   have hg:rows[rows.length - 1 - k]?=some (rows.getD (rows.length - 1 - k) []):=by rw[d3W,d3H hlt];rfl
   apply d5e
   intro i;rw[d4y];have h6:(rows.getD (rows.length - 1 - k) []).length=5:=hr5 _ (d3U hg)
   split
   ·rename_i hi;rw[d4r,a16 hr5 hg hi]
   ·rename_i hi;rw[d49 (by omega)]
  rw[e2] at h5;exact h5.mono (λb j hb=>hI1 b j (.inl hb)) (λb j hb=>hk1 b j (.inl hb))
 ·intro k hk;have hlt:rows.length - 1 - k<rows.length:=by omega
  have hg:rows[rows.length - 1 - k]?=some (rows.getD (rows.length - 1 - k) []):=by rw[d3W,d3H hlt];rfl
  have ea:=b9M (tl:=[d0,d1,d2,d3]) hk hg;obtain⟨nm,c0,c1,c2,c3,er,hsp⟩:=hrows _ (d3U hg);obtain⟨a0,a1,a2,a3,e4⟩:=b0y (rows.drop (rows.length - k)) d0 d1 d2 d3;have e5:b1h rows [d0,d1,d2,d3] k=[a0,a1,a2,a3]:=e4;have e6:b1h rows [d0,d1,d2,d3] (k+1)=[.sc (.int .u8 11),nm,.sc (.int .i64 0),.sl 4 [[c0,c1,c2,c3],[a0,a1,a2,a3]]]:=by rw[ea,er];show [_,_,_,D.sl 4 [_,a6P _ _]]=_;rw[e4];rfl
  try dsimp only
  rw[e5,e6,er];exact b63 rows d0 d1 d2 d3 a0 a1 a2 a3 nm c0 c1 c2 c3 _ hsp _ _ _ _ _ _ _ _ _ _ _ _ _ _ _ _ _ _ _ _ _ _ _ _ _ _ _ _ _ _ _ _ _ _ _ _ _ _ _ _ _ _ _ rfl
 ·rintro D W1 hD ⟨I1,g1,q1,q2,q3,q4⟩ hd
  obtain⟨a0,a1,a2,a3,e4⟩:=b0y rows d0 d1 d2 d3;have e5:b1h rows [d0,d1,d2,d3] rows.length=[a0,a1,a2,a3]:=by rw[b1h,d4V];exact e4
  rw[e4]
  try dsimp only at q3
  rw[e5] at q3;have hID:∀k,¬I1 D k:=λk=>by rw[hD];exact(q2 k).2
  have hD0:w.heap.size<=D:=by rw[hD];exact h.fr.size
  refine b9L c5R c5S q3 hID hD0 hd ?_;exact c2R rows d0 d1 d2 d3 a0 a1 a2 a3 _ _ _ _ _ _ _ _ _ _ _ _ _ _ _ _ _ _ _ _ _ _ _ _ _ _ _ _ _ _ _ _ _ _ _ _ _ _ _ _ _ _ _ rfl
theorem b0z (tl:Ty):∀fs:List (ByteArray×Ty),a6P (rF fs) (cT tl)=cT (a0E fs tl)
 | []=>rfl
 | f::fs=>by
  rw[a2v,cT];have ih:=b0z tl fs;show a6P ((.sc (.string f.1)::cT f.2)::rF fs) (cT tl)=_;rw[a6P,ih];rfl
theorem b4S:∀(m:Nat) (t:Ty),t.parts.length<=m->m<=1048576->(∀x∈t.parts,a03 x)->o8 96 [.ag (cT t)] [.ag (cT (y9 t))]:=by
 intro m
 induction m with
 | zero=>intro t h;have:=F9 t;omega
 | succ m ih =>
  intro t hm hm2 hsp;have hself:t∈t.parts:=by rw[J4];exact d3L ..
  have hkl:=J7 t;obtain⟨op,nm,n,ks⟩:=t;generalize ht:Ty.mk op nm n ks=t at *;have hc:cT t=[.sc (.int .u8 op),.sc (.string nm),.sc (.int .i64 n),.sl 4 (rT ks)]:=by rw[<-ht,cT]
  have hks:t.kids=ks:=by rw[<-ht];rfl
  rw[hks] at hkl
  by_cases hop:op=11
  ·have hF:=c8V t (hsp t hself) (by omega);have hcr:=a36 (t:=t) (by rw[<-ht];exact hop)
   have hfs:∀f∈r7 ltF (A4 t),f.2.parts.length<=m/\G5 f.2:=λf hf=>by
    have h1:=T4 hf;have h2:=a0d _ t (d3Q _) f h1;have h3:=a3X _ t (d3Q _) f h1;exact⟨by omega,λx hx=>hsp x (a0O hx h3)⟩
   have hih:∀f∈r7 ltF (A4 t),o8 96 [.ag (cT f.2)] [.ag (cT (y9 f.2))]:=λf hf=>ih f.2 (hfs f hf).1 (by omega) (hfs f hf).2
   have hlen:(r7 ltF (A4 t)).length<=1048576:=by
    rw[a37];have:=a4I _ t (d3Q _);omega
   have htl:(N4 t).parts.length<=1048576:=by
    have h1:=a8n _ t (d3Q _) (hsp t hself);omega
   rw[hc] at hF ⊢;obtain⟨K0,hK0⟩:∃K,K=rT ks:=⟨_,rfl⟩;rw[<-hK0] at hF ⊢;generalize r7 ltF (A4 t)=L at *;have hj:=b0z (N4 t) (L.map cfS);rw[show a0E (L.map cfS) (N4 t)=y9 t from hcr.symm] at hj;have hct:=a1J (N4 t) htl
   have hcf:∀r∈rF (L.map cfS),∃nm c0 c1 c2 c3,r=[nm,c0,c1,c2,c3]/\o8 109 [.ag [c0,c1,c2,c3]] [.ag [c0,c1,c2,c3]]:=λr hr=>by
    obtain⟨f,hf,rfl⟩:=d4U.1 hr;obtain⟨f0,hf0,rfl⟩:=d4U.1 hf;have h1:=hfs f0 hf0;have h2:=a5g _ f0.2 (d3Q _) h1.2;have h3:=a1J (y9 f0.2) (by omega);obtain⟨c0,c1,c2,c3,hcc⟩:=m8 (y9 f0.2);rw[hcc] at h3;exact⟨_,c0,c1,c2,c3,by show D.sc _::cT (y9 f0.2)=_;rw[hcc],h3⟩
   obtain⟨y0,y1,y2,y3,hy⟩:=m8 (y9 t);obtain⟨q0,q1,q2,q3,hq⟩:=m8 (N4 t);rw[hq] at hF hct hj;rw[hy] at hj ⊢;have hJ:=c2S (rF (L.map cfS)) q0 q1 q2 q3 (by rw[a2u,d4g];omega) hct hcf;rw[hj] at hJ;obtain⟨M0,hM0⟩:∃M,M=rF L:=⟨_,rfl⟩;rw[<-hM0] at hF;refine Q5 Tryz.func96 rfl λqa qb qc qd qe qg qh qi qj qk ql qm qo qp qq qt qu qv qw qx qy qz va vc vd ve vf vg vh vj vk vl vm vn vo vq vr vt vu vv vw vx vy hA=>?_
   cbv;refine gn ?_;have h11:qk op 11=decide (op=11):=by have e:=m6 hA;exact e.2.2.2.2.2.2.2.2 _ _
   rw[d3S hop] at h11;rw[h11];cbv;refine gn ?_;refine A1 hA [] hF ⟨rfl,rfl,rfl,rfl,rfl,rfl,rfl⟩ ?_
   rintro res os2 ⟨rfl,rfl⟩
   cbv;refine gn ?_;obtain⟨e1,e2,e3,e4,e5,e6,e7,e8,e9⟩:=m6 hA;obtain⟨r1,r2,r3,r4⟩:=B3 hA;obtain⟨m1,m2,m3,m4⟩:=a0X hA;refine n9 hA (γ:=Int×List (List D)) (λx=>[(19,vi .i64 x.1),(12,.jk),(14,.jk)]) (λx=>[(2,.row false 124 x.2)]) (λx=>∃k:Nat,x.1=(k:Int)/\k<=L.length/\x.2=rF ((L.take k).map cfS++L.drop k)) (λx=>L.length - x.1.toNat) (0,M0) ?_ ?_ ?_
   ·exact⟨0,rfl,d4o _,hM0⟩
   ·cbv
   ·intro x hinv;obtain⟨z,M⟩:=x;cbv;refine gn ?_;try simp only[nc] at *
    obtain⟨k,hz,hk,hM⟩:=hinv;have hll:va M0=((L.length:Nat):Int):=by rw[r1,hM0,a2u]
    have hlt:qi z (va M0)=decide (k<L.length):=by rw[e7,hll,hz];exact d3X.2 (by omega)
    by_cases h9:k<L.length
    ·rw[d3S h9] at hlt;obtain⟨x,hx⟩:∃x,L[k]?=some x:=⟨_,d3H h9⟩;have hspx:=hih x (d3U hx)
     have hxe:((L.take k).map cfS++L.drop k)[k]?=some x:=by
      rw[d3V (by simp;omega)]
      simp
      rw[d5Q (by omega),d4V,d4E];exact hx
     have hset:((L.take k).map cfS++L.drop k).set k (cfS x)=(L.take (k+1)).map cfS++L.drop (k+1):=by
      obtain⟨hi,e⟩:=d3J.1 hx;have e0:k - ((L.take k).map cfS).length=0:=by rw[d4g,d4n];omega
      rw[d5k _ _ (by rw[d4g,d4n];omega),d5D,hx,d45,d4q,d4c hi,e0];rfl
     obtain⟨xn,xt⟩:=x;obtain⟨x0,x1,x2,x3,hxx⟩:=m8 xt;obtain⟨v0,v1,v2,v3,hvv⟩:=m8 (y9 xt);simp only at hspx;rw[hxx,hvv] at hspx;have gx:vc M z=some [.sc (.string xn),x0,x1,x2,x3]:=by rw[r2,hz,d3I (by omega),hM,show ((k:Int)).toNat=k by omega,b3i hxe,hxx]
     have hz1:qa .i64 (qb z 1)=((k+1:Nat):Int):=by rw[e1,e2,hz,IntWalk.i64_in _ (by omega)];omega
     have hmu:L.length - (qa .i64 (qb z 1)).toNat<L.length - z.toNat:=by rw[hz1,hz];omega
     have hnew:vf M z [.sc (.string xn),v0,v1,v2,v3]=rF ((L.take (k+1)).map cfS++L.drop (k+1)):=by
      rw[m4,<-hset,hM,hz,show ((k:Int)).toNat=k by omega];unfold rF;rw[List.map_set];show _=List.set _ k (.sc (.string xn)::cT (y9 xt));rw[hvv]
     rw[hlt]
     iterate 2 (try cbv;repeat ((first|with_reducible apply j6 hA|rw[gx]|refine j8 hA _ hspx rfl ?_);cbv))
     try simp (maxSteps:=4000000) only [nc] at *
     refine⟨(qa .i64 (qb z 1),vf M z [.sc (.string xn),v0,v1,v2,v3]),⟨k+1,hz1,h9,hnew⟩,hmu,?_⟩;cbv
    ·rw[d3P h9] at hlt;have hM2:M=rF (L.map cfS):=by rw[hM,d4z (by omega),d5w (by omega),d4d]
     rw[<-hM2] at hJ;rw[hlt];cbv;refine c1R hA [2] ?_;cbv
     repeat (first|(with_reducible apply j6 hA;cbv)|(refine j8 hA _ hJ rfl ?_;cbv))
  ·have hcn:=a1t (t:=t) (by rw[<-ht];exact hop);rw[hks,show t.op=op by rw[<-ht];rfl,show t.name=nm by rw[<-ht];rfl,show t.n=n by rw[<-ht];rfl] at hcn
   have hih:∀x∈ks,o8 96 [.ag (cT x)] [.ag (cT (y9 x))]:=λx hx=>by
    have h2:=hkl.2 x hx;exact ih x (by omega) (by omega) λy hy=>hsp y (by rw[B5,hks];exact d3M _ (d40.2 ⟨x,hx,hy⟩))
   rw[hcn,cT,hc];obtain⟨K,hK⟩:∃K,K=rT ks:=⟨_,rfl⟩;obtain⟨Q,hQ⟩:∃Q,Q=rT (ks.map y9):=⟨_,rfl⟩;rw[<-hK,<-hQ];refine Q5 Tryz.func96 rfl λqa qb qc qd qe qg qh qi qj qk ql qm qo qp qq qt qu qv qw qx qy qz va vc vd ve vf vg vh vj vk vl vm vn vo vq vr vt vu vv vw vx vy hA=>?_
   cbv;refine gn ?_;obtain⟨e1,e2,e3,e4,e5,e6,e7,e8,e9⟩:=m6 hA;obtain⟨r1,r2,r3,r4⟩:=B3 hA;have h11:qk op 11=decide (op=11):=e9 _ _;rw[d3P hop] at h11;rw[h11];cbv
   repeat (first|(refine a3b hA 6 27 true rfl ?_;cbv)|(with_reducible apply j6 hA;cbv))
   refine n9 hA (γ:=Int×List (List D)) (λx=>[(39,vi .i64 x.1),(6,.own 2)]) (λx=>[(2,.row true 27 x.2)]) (λx=>∃k:Nat,x.1=(k:Int)/\k<=ks.length/\x.2=rT ((ks.map y9).take k)) (λx=>ks.length - x.1.toNat) (0,[]) ?_ ?_ ?_
   ·exact⟨0,rfl,d4o _,rfl⟩
   ·cbv
   ·intro x hinv;obtain⟨z,M⟩:=x;cbv;refine gn ?_;try simp only[nc] at *
    obtain⟨k,hz,hk,hM⟩:=hinv;have hll:va K=((ks.length:Nat):Int):=by rw[r1,hK,M4]
    have hlt:qi z (va K)=decide (k<ks.length):=by rw[e7,hll,hz];exact d3X.2 (by omega)
    by_cases h9:k<ks.length
    ·rw[d3S h9] at hlt;obtain⟨x,hx⟩:∃x,ks[k]?=some x:=⟨_,d3H h9⟩;have hspx:=hih x (d3U hx);have hx2:(ks.map y9)[k]?=some (y9 x):=by rw[d4p,hx];rfl
     have hsn:=a8Q hx2;obtain⟨x0,x1,x2,x3,hxx⟩:=m8 x;obtain⟨v0,v1,v2,v3,hvv⟩:=m8 (y9 x);rw[hxx,hvv] at hspx;rw[hvv] at hsn;have gx:vc K z=some [x0,x1,x2,x3]:=by rw[r2,hz,d3I (by omega),hK,show ((k:Int)).toNat=k by omega,a1q hx,hxx]
     have hz1:qa .i64 (qb z 1)=((k+1:Nat):Int):=by rw[e1,e2,hz,IntWalk.i64_in _ (by omega)];omega
     have hmu:ks.length - (qa .i64 (qb z 1)).toNat<ks.length - z.toNat:=by rw[hz1,hz];omega
     have hnew:ve M [[v0,v1,v2,v3]]=rT ((ks.map y9).take (k+1)):=by rw[r4,hsn,hM]
     have hMl:M.length<=1048576:=by rw[hM,M4,d4n];omega
     rw[hlt]
     iterate 2 (try cbv;repeat ((first|with_reducible apply j6 hA|rw[gx]|refine l9 hA _ hspx ?_|refine j8 hA _ hspx rfl ?_|refine E2 hA true ?_|(refine F3 hA (by simp only[r4,d3K,d3O,d3Y];omega) ?_));cbv))
     try simp (maxSteps:=4000000) only [nc] at *
     refine⟨(qa .i64 (qb z 1),ve M [[v0,v1,v2,v3]]),⟨k+1,hz1,h9,hnew⟩,hmu,?_⟩;cbv
    ·rw[d3P h9] at hlt;have hM2:M=Q:=by rw[hM,hQ,d4z (by rw[d4g];omega)]
     rw[hlt];cbv;refine gn ?_;exact⟨by rw[hM2],trivial⟩
theorem c2T {t:Ty} (h:∀x∈t.parts,∀y∈t.parts,a2t x y=false):a2L t=true:=by
 unfold a2L;rw[d4f];intro x hx;rw[d4f];intro y hy;rw[h x hx y hy];rfl
def vbl (t:Ty):Option (Int×Bool):=if t.op=7 then some (t.n,false) else if t.op=10 then some (t.n,true) else none
def b00 {α:Type} (s:Int->Option α) (n:Int) (r:α):Int->Option α:=λx=>if x=n then some r else s x
def M6:List Ty->(Int->Option Bool)->Option (Int->Option Bool)
 | [],s=>some s
 | t::ts,s=>match vbl t with
  | none=>M6 ts s
  | some p=>if s p.1=some (!p.2) then none else M6 ts (b00 s p.1 p.2)
theorem a4J:∀(a b:List Ty) (s:Int->Option Bool),M6 (a++b) s=(M6 a s).bind (M6 b)
 | [],b,s=>rfl
 | t::ts,b,s=>by
  rw[d43,M6,M6];cases vbl t with
  | none=>exact a4J ts b s
  | some p =>
   simp only
   split
   ·rfl
   ·exact a4J ts b _
theorem b3t:∀(ts:List Ty) (s:Int->Option Bool),(M6 ts s).isSome=true↔(∀x∈ts,∀p,vbl x=some p->s p.1≠some (!p.2))/\∀x∈ts,∀y∈ts,∀p q,vbl x=some p->vbl y=some q->p.1=q.1->p.2=q.2
 | [],s=>by simp[M6]
 | t::ts,s=>by
  rw[M6];cases hv:vbl t with
  | none =>
   simp only;rw[b3t ts s]
   constructor
   ·rintro ⟨h1,h2⟩
    refine⟨λx hx p hp=>?_,λx hx y hy p q hp hq e=>?_⟩
    ·rcases d3R.1 hx with rfl|hx
     ·rw[hv] at hp;cases hp
     ·exact h1 x hx p hp
    ·rcases d3R.1 hx with rfl|hx
     ·rw[hv] at hp;cases hp
     ·rcases d3R.1 hy with rfl|hy
      ·rw[hv] at hq;cases hq
      ·exact h2 x hx y hy p q hp hq e
   ·rintro ⟨h1,h2⟩
    exact⟨λx hx=>h1 x (d3M _ hx),λx hx y hy=>h2 x (d3M _ hx) y (d3M _ hy)⟩
  | some p =>
   obtain⟨n,r⟩:=p;simp only
   by_cases hs:s n=some (!r)
   ·rw[d3I hs]
    constructor
    ·intro h;cases h
    ·rintro ⟨h1,_⟩
     exact absurd hs (h1 t (d3L ..) _ hv)
   ·rw[d3G hs,b3t ts]
    constructor
    ·rintro ⟨h1,h2⟩
     have h3:∀x∈ts,∀p,vbl x=some p->p.1=n->p.2=r:=λx hx p hp e=>by
      have:=h1 x hx p hp;unfold b00 at this;rw[d3I e] at this;cases r <;> cases hp2:p.2 <;> simp_all
     refine⟨λx hx p hp=>?_,λx hx y hy p q hp hq e=>?_⟩
     ·rcases d3R.1 hx with rfl|hx
      ·rw[hv] at hp;cases hp;exact hs
      ·by_cases e:p.1=n
       ·rw[h3 x hx p hp e,e];exact hs
       ·have:=h1 x hx p hp;unfold b00 at this;rw[d3G e] at this;exact this
     ·rcases d3R.1 hx with rfl|hx
      ·rw[hv] at hp;cases hp
       rcases d3R.1 hy with rfl|hy
       ·rw[hv] at hq;cases hq;rfl
       ·exact(h3 y hy q hq e.symm).symm
      ·rcases d3R.1 hy with rfl|hy
       ·rw[hv] at hq;cases hq;exact h3 x (by assumption) p hp e
       ·exact h2 x (by assumption) y hy p q hp hq e
    ·rintro ⟨h1,h2⟩
     refine⟨λx hx p hp=>?_,λx hx y hy=>h2 x (d3M _ hx) y (d3M _ hy)⟩;unfold b00
     by_cases e:p.1=n
     ·rw[d3I e,<-h2 t (d3L ..) x (d3M _ hx) (n,r) p hv hp e.symm];cases r <;> simp
     ·rw[d3G e];exact h1 x (d3M _ hx) p hp
theorem b9O (t:Ty):(M6 t.parts λ_=>none).isSome=a2L t:=by
 rw[d5r,b3t]
 constructor
 ·rintro ⟨_,h⟩
  refine c2T λx hx y hy=>?_
  cases hc:a2t x y with
  | false=>rfl
  | true =>
   unfold a2t at hc;simp only[d3N,d4H] at hc;have:=h x hx y hy (x.n,false) (y.n,true) (by unfold vbl;rw[d3I hc.1]) (by unfold vbl;rw[d3G (by rw[hc.2.1];decide),d3I hc.2.1]) hc.2.2;cases this
 ·intro h;refine⟨by simp,λx hx y hy p q hp hq e=>?_⟩;unfold a2L at h;rw[d4f] at h;have hxy:=h x hx;have hyx:=h y hy;rw[d4f] at hxy hyx;have h1:=hxy y hy;have h2:=hyx x hx;unfold a2t at h1 h2;unfold vbl at hp hq
  split at hp
  ·rename_i ex;cases hp
   split at hq
   ·cases hq;rfl
   ·split at hq
    ·rename_i ey;cases hq;simp only at e
     simp[ex,ey,e] at h1
    ·cases hq
  ·split at hp
   ·rename_i ex;cases hp
    split at hq
    ·rename_i ey;cases hq;simp only at e
     simp[ex,ey,e] at h2
    ·split at hq
     ·cases hq;rfl
     ·cases hq
   ·cases hp
def kz:Bool->Bool->Bool->Bool->Int
 | true,_,_,_=>1
 | _,true,_,_=>2
 | _,_,true,_=>3
 | _,_,_,true=>4
 | _,_,_,_=>0
theorem c8X (c:Int):o8 82 [.one (.sc (.int .u8 c))] [.one (.sc (.int .i64 (a6F c)))]:=by
 obtain⟨p,hp⟩:∃p,a0Z c=p:=⟨_,rfl⟩;obtain⟨q,hq⟩:∃p,a48 c=p:=⟨_,rfl⟩;obtain⟨r,hr⟩:∃p,I4 c=p:=⟨_,rfl⟩;obtain⟨v,hv⟩:∃p,(c == 95)=p:=⟨_,rfl⟩
 have hb:a6F c=kz p q r v:=by
  unfold a6F;rw[hp,hq,hr];have h4:(c=95)=(v=true):=by rw[<-hv];simp
  simp only[h4];cases p <;> cases q <;> cases r <;> cases v <;> rfl
 generalize a6F c=b at *;unfold a0Z at hp;unfold a48 at hq;unfold I4 at hr;refine Q5 Tryz.func82 rfl ?_;intro _ _ _ _ _ _ _ _ qj;intros;rename_i hA;cbv;refine gn ?_;obtain⟨e1,e2,e3,e4,e5,e6,e7,e8,e9⟩:=m6 hA;rw[<-e8,<-e8] at hp hq hr;rw[<-e9] at hv;cases p
 ·have h:qj 97 c=false\/(qj 97 c=true/\qj c 122=false):=by cases h1:qj 97 c <;> simp_all
  rcases h with h|⟨h,h'⟩
  all_goals
   rw[h];cbv;refine gn ?_
   try (rw[h'];cbv)
   cases q
   ·have g:qj 65 c=false\/(qj 65 c=true/\qj c 90=false):=by cases h1:qj 65 c <;> simp_all
    rcases g with g|⟨g,g'⟩
    all_goals
     rw[g];cbv;refine gn ?_
     try (rw[g'];cbv)
     cases r
     ·have i:qj 48 c=false\/(qj 48 c=true/\qj c 57=false):=by cases h1:qj 48 c <;> simp_all
      rcases i with i|⟨i,i'⟩
      all_goals
       rw[i];cbv;refine gn ?_
       try (rw[i'];cbv)
       rw[hv];cases v
       ·cbv;refine gn ?_;exact c1Z hb.symm
       ·cbv;refine gn ?_;exact c1Z hb.symm
     ·have i:qj 48 c=true/\qj c 57=true:=by cases h1:qj 48 c <;> simp_all
      rw[i.1];cbv;refine gn ?_;rw[i.2];cbv;refine gn ?_;exact c1Z hb.symm
   ·have g:qj 65 c=true/\qj c 90=true:=by cases h1:qj 65 c <;> simp_all
    rw[g.1];cbv;refine gn ?_;rw[g.2];cbv;refine gn ?_;exact c1Z hb.symm
 ·have h:qj 97 c=true/\qj c 122=true:=by cases h1:qj 97 c <;> simp_all
  rw[h.1];cbv;refine gn ?_;rw[h.2];cbv;refine gn ?_;exact c1Z hb.symm
theorem c5V (q:Bool) (c:Int):okB q c=!((a6F c == 0) || ((a6F c == 2) || (q && !(a6F c == 1)))):=by
 unfold okB a6F;have h4:(c=95)=((c == 95)=true):=by simp
 have hs:=b1P c;have hg:=b1Q c;have hd:=a5c c;have h9:(c == 95)=true↔c=95:=by simp
 simp only[h4];generalize a0Z c=a1 at *;generalize a48 c=a2 at *;generalize I4 c=a3 at *;generalize (c == 95)=a4 at *;cases a1 <;> cases a2 <;> cases a3 <;> cases a4 <;> cases q <;> first|rfl|(exfalso;simp at hs hg hd h9;omega)
theorem c2U (s:ByteArray) (hs:s.size<=4611686018427387904):o8 61 [.one (.sc (.string s))] [.one (.sc (.bool (Q6 s)))]:=by
 generalize hb:Q6 s=b;unfold Q6 at hb;refine Q5 Tryz.func61 rfl ?_;intro qa qb _ _ _ _ _ qi _ qk _ _ _ _ _ _ qu qv;intros;rename_i hA;cbv;refine gn ?_;obtain⟨e1,e2,e3,e4,e5,e6,e7,e8,e9⟩:=m6 hA;obtain⟨s1,s2,s3,s4,s5,s6,-⟩:=G1 hA;refine n9 hA (γ:=Int) (λz=>[(3,vi .i64 z)]) (λ_=>[]) (λz=>∃k:Nat,z=(k:Int)/\k<=s.size/\(okL (k == 0) ((btl s).drop k) && decide (0<s.size))=b) (λz=>s.size - z.toNat) 0 ?_ ?_ ?_
 ·exact⟨0,rfl,d4o _,hb⟩
 ·cbv
 ·intro z hinv;cbv;refine gn ?_;obtain⟨k,hz,hk,hE⟩:=hinv;replace hz:z=(k:Int):=hz;replace s5:qu s=((s.size:Nat):Int):=s5 s;have hlt:qi z (qu s)=decide (k<s.size):=by rw[e7,s5,hz];exact d3X.2 (by omega)
  by_cases h9:k<s.size
  ·rw[d3S h9] at hlt;obtain⟨c,hc⟩:∃c,(btl s)[k]?=some c:=⟨_,d3H (by rw[P3];exact h9)⟩;have g1:qv s z=some (c.toNat:Int):=by rw[s6,hz];exact a5b hc
   rw[b6m hc] at hE;have hd1:=c8X (c.toNat:Int)
   have hz0:qk z 0=(k == 0):=by
    rw[e9,hz];cases k with
    | zero=>rfl
    | succ k=>exact d4x.2 (by omega)
   have hz1:qa .i64 (qb z 1)=((k+1:Nat):Int):=by rw[e1,e2,hz,IntWalk.i64_in _ (by omega)];omega
   have hm:s.size - (qa .i64 (qb z 1)).toNat<s.size - z.toNat:=by rw[hz1,hz];omega
   rw[c5V] at hE;generalize a6F (c.toNat:Int)=kk at *;have k0:qk kk 0=(kk == 0):=e9 _ _;have k1:qk kk 1=(kk == 1):=e9 _ _;have k2:qk kk 2=(kk == 2):=e9 _ _;generalize (c.toNat:Int)=cc at *;generalize (kk == 0)=p0 at *;generalize (kk == 1)=p1 at *;generalize (kk == 2)=p2 at *;generalize (k == 0)=q0 at *;rw[hlt];cbv;refine gn ?_;rw[g1];cbv;refine gn ?_;refine j8 hA _ hd1 ?_ ?_
   ·rfl
   cbv;refine gn ?_;rw[k0];cases p0
   ·cbv;refine gn ?_;rw[k2];cases p2
    ·cbv;refine gn ?_;rw[hz0];cases q0
     ·cbv;refine gn ?_;exact⟨_,⟨k+1,hz1,h9,hE⟩,hm,by cbv⟩
     ·cbv;refine gn ?_;rw[k1];cases p1
      ·cbv;refine gn ?_;exact L3 hE
      ·cbv;refine gn ?_;exact⟨_,⟨k+1,hz1,h9,hE⟩,hm,by cbv⟩
    ·cbv;refine gn ?_;exact L3 hE
   ·cbv;refine gn ?_;exact L3 hE
  ·rw[d3P h9] at hlt;have hk:k=s.size:=by omega
   rw[hk,d4w (by rw[P3];exact d3Q _),okL] at hE
   have hq:qi 0 (qu s)=b:=by
    rw[e7,s5,<-hE,d59];exact d3X.2 (by omega)
   rw[hlt];cbv;refine gn ?_;rw[hq];exact L3 rfl
theorem d1m:o8 60 [] [.one (.sl 1 (rS Y3)),.one (.sl 1 (rS c2l))]:=by
 refine Q5 Tryz.func60 rfl ?_;intros;rename_i hA;cbv
 repeat ((with_reducible first|apply j6 hA|apply E2 hA true);cbv)
theorem d2W (ws:List ByteArray) (x:ByteArray) (hn:ws.length<=1099511627776):o8 62 [.one (.sl 1 (rS ws)),.one (.sc (.string x))] [.one (.sc (.bool (inB ws x)))]:=by
 obtain⟨L,hL⟩:∃L,L=rS ws:=⟨_,rfl⟩;rw[<-hL];generalize hb:inB ws x=b;refine Q5 Tryz.func62 rfl ?_;intro qa qb _ _ _ _ _ qi _ _ _ qm _ qp _ _ _ _ _ _ _ _ va vc;intros;rename_i hA;cbv;refine gn ?_;obtain⟨e1,e2,e3,e4,e5,e6,e7,e8,e9⟩:=m6 hA;obtain⟨s1,s2,s3,s4,s5,s6,-⟩:=G1 hA;obtain⟨r1,r2,-⟩:=B3 hA;refine n9 hA (γ:=Int) (λz=>[(5,vi .i64 z)]) (λ_=>[]) (λz=>∃k:Nat,z=(k:Int)/\k<=ws.length/\inB (ws.drop k) x=b) (λz=>ws.length - z.toNat) 0 ?_ ?_ ?_
 ·exact⟨0,rfl,d4o _,hb⟩
 ·cbv
 ·intro z hinv;cbv;refine gn ?_;obtain⟨k,hz,hk,hE⟩:=hinv;replace hz:z=(k:Int):=hz;have hlen:va L=((ws.length:Nat):Int):=by rw[r1,hL,c86]
  have hlt:qi z (va L)=decide (k<ws.length):=by rw[e7,hlen,hz];exact d3X.2 (by omega)
  by_cases h9:k<ws.length
  ·rw[d3S h9] at hlt;obtain⟨y,hy⟩:∃y,ws[k]?=some y:=⟨_,d3H h9⟩;have g1:vc L z=some [.sc (.string y)]:=by rw[r2,hz,d3I (by omega),hL];exact c1Y hy
   have hdr:inB (ws.drop k) x=((y.toList == x.toList) || inB (ws.drop (k+1)) x):=by
    obtain⟨hi,e⟩:=d3J.1 hy;rw[d4c hi,e];rfl
   rw[hdr] at hE;have hq:qm (qp y) (qp x)=(y.toList == x.toList):=by rw[s1,s3,s3]
   have hz1:qa .i64 (qb z 1)=((k+1:Nat):Int):=by rw[e1,e2,hz,IntWalk.i64_in _ (by omega)];omega
   have hm:ws.length - (qa .i64 (qb z 1)).toNat<ws.length - z.toNat:=by rw[hz1,hz];omega
   generalize (y.toList == x.toList)=q at *;rw[hlt];cbv;refine gn ?_;rw[g1];cbv;refine gn ?_;rw[hq];cases q
   ·cbv;refine gn ?_;exact⟨_,⟨k+1,hz1,h9,hE⟩,hm,by cbv⟩
   ·cbv;refine gn ?_;exact L3 hE
  ·rw[d3P h9] at hlt;rw[d4w (by omega)] at hE;rw[hlt];cbv;refine gn ?_;exact L3 hE
theorem a4K (s:ByteArray) (hs:s.size<=4611686018427387904):o8 40 [.one (.sc (.string s))] [.one (.sc (.bool (A3 s)))]:=by
 have h0:=d1m;have h1:=c2U s hs;have h2:=d2W Y3 s (by decide)
 have hbb:A3 s=(Q6 s && (!inB Y3 s && decide (s.size<=32))):=by
  unfold A3 a7D;cases Q6 s <;> cases inB Y3 s <;> cases decide (s.size<=32) <;> rfl
 rw[hbb];generalize rS Y3=L at *;generalize rS c2l=L2 at *;generalize inB Y3 s=q2 at *;generalize Q6 s=q1 at *;generalize hb:(q1 && (!q2 && decide (s.size<=32)))=b;refine Q5 Tryz.func40 rfl ?_;intro _ _ _ _ _ _ _ _ qj _ _ _ _ _ _ _ qu;intros;rename_i hA;cbv;refine gn ?_;obtain⟨e1,e2,e3,e4,e5,e6,e7,e8,e9⟩:=m6 hA;obtain⟨s1,s2,s3,s4,s5,s6,-⟩:=G1 hA;have hle:qj (qu s) 32=decide (s.size<=32):=by rw[e8,s5];exact d3X.2 (by omega)
 generalize decide (s.size<=32)=q at *;refine j8 hA _ h0 ?_ ?_
 ·rfl
 cbv;refine gn ?_;refine j8 hA _ h1 ?_ ?_
 ·rfl
 cases q1
 ·cbv;refine gn ?_;exact L3 hb
 ·cbv;refine gn ?_;refine j8 hA _ h2 ?_ ?_
  ·rfl
  cases q2
  ·cbv;refine gn ?_;rw[hle];exact L3 hb
  ·cbv;refine gn ?_;exact L3 hb
theorem b8n:∀t:Ty,t.parts.length<=1048576->o8 65 [.ag (cT t)] [.one (.sl 4 (rT t.parts))]:=by
 intro t
 induction t using Ty.ind with
 | h t ih =>
  intro hN;have hkl:=J7 t;have hP:=J4 t;generalize t.parts=P at *;obtain⟨op,nm,n,ks⟩:=t;simp only[Ty.kids] at hkl ih hP;obtain⟨R,hR⟩:∃R,R=rT P:=⟨_,rfl⟩;rw[<-hR,cT];obtain⟨K,hK⟩:∃K,K=rT ks:=⟨_,rfl⟩;rw[<-hK];refine Q5 Tryz.func65 rfl ?_;intro qa qb _ _ _ _ _ qi _ _ _ _ _ _ _ _ _ _ _ _ _ _ va vc _ ve;intros;rename_i hA;cbv
  repeat ((with_reducible first|apply j6 hA|apply E2 hA false|apply a3c hA true);cbv)
  obtain⟨e1,e2,e3,e4,e5,e6,e7,e8,e9⟩:=m6 hA;obtain⟨r1,r2,r3,r4⟩:=B3 hA;refine n9 hA (γ:=Int×List (List D)) (λx=>[(4,vi .i64 x.1),(3,.own 1),(6,.jk)]) (λx=>[(1,.row true 27 x.2)]) (λx=>∃k:Nat,x.1=(k:Int)/\k<=ks.length/\x.2++rT (F7 (ks.drop k))=R) (λx=>ks.length - x.1.toNat) (0,[cT (.mk op nm n ks)]) ?_ ?_ ?_
  ·exact⟨0,rfl,d4o _,by rw[hR,hP];rfl⟩
  ·rw[cT,<-hK];cbv
  ·intro x hinv;obtain⟨z,L⟩:=x;cbv;refine gn ?_;obtain⟨k,hz,hk,hE⟩:=hinv;have hz:z=(k:Int):=hz;replace hE:L++rT (F7 (ks.drop k))=R:=hE;have hlen:va K=(ks.length:Int):=by rw[r1,hK,M4]
   have hlt:qi z (va K)=decide (k<ks.length):=by rw[e7,hlen,hz];exact d3X.2 (by omega)
   by_cases h9:k<ks.length
   ·rw[d3S h9] at hlt;obtain⟨x,hx⟩:∃x,ks[k]?=some x:=⟨_,d3H h9⟩;have g1:vc K z=some (cT x):=by rw[r2,hz,d3I (by omega),hK];exact a1q hx
    have hsp:=ih x (d3U hx) (by have:=hkl.2 x (d3U hx);omega)
    have hdr:ks.drop k=x::ks.drop (k+1):=by
     have h:=d4c h9;rw[d3H h9] at hx;rw[h,Option.some.inj hx]
    rw[hdr,F7] at hE;generalize x.parts=XP at *;obtain⟨o1,m1,n1,l1⟩:=x;rw[cT] at g1 hsp;generalize rT l1=L1 at *;obtain⟨Y,hY⟩:∃Y,Y=rT XP:=⟨_,rfl⟩;rw[<-hY] at hsp;rw[hlt];cbv;refine gn ?_;rw[g1];cbv;refine j8 hA _ hsp ?_ ?_
    ·rfl
    cbv;have hap:∀l m:List Ty,rT (l++m)=rT l++rT m:=λl m=>by rw[a4B,a4B,a4B,d45]
    rw[hap,<-hY,<-d4q] at hE
    have hlenR:L.length+Y.length<=1048576:=by
     have h1:R.length<=1048576:=by rw[hR,M4];exact hN
     rw[<-hE,d3K,d3K] at h1;omega
    refine F3 hA (by omega) ?_;cbv;refine gn ?_;replace hz:z=(k:Int):=hz;have hz1:qa .i64 (qb z 1)=((k+1:Nat):Int):=by rw[e1,e2,hz,IntWalk.i64_in _ (by omega)];omega
    refine⟨(qa .i64 (qb z 1),ve L Y),⟨k+1,hz1,h9,by rw[r4];exact hE⟩,by show ks.length - (qa .i64 (qb z 1)).toNat<ks.length - z.toNat;rw[hz1,hz];omega,?_⟩;cbv
   ·rw[d3P h9] at hlt;rw[hlt];cbv;refine gn ?_
    have hE2:L=R:=by
     rw[d4w (by omega),F7] at hE;rw[<-hE];exact(d4d L).symm
    rw[hE2];exact⟨rfl,trivial⟩
end Go.Proofs.YtdjnoafijjepcaaGreat.Vm
end

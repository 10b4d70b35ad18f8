/- Part 10 of the proof. Conditions: none. -/
import Derived.Test.YtahpnackkmbmgaaGreatE4
import Derived.Test.YtahpnackkmbmgaaGreatE6
import Derived.Test.YtahpnackkmbmgaaGreatE9
import Derived.Shelf.Small.Strs
import Derived.Test.YtahpnackkmbmgaaGreatProg
import Derived.IntWalk
import Derived.RangeFuncNested
import Derived.RangeFuncBound
import Derived.RangeFuncCalls
import Derived.RangeFuncLeaves
import Derived.RangeFuncFrom
import Derived.Shelf.Abstract
import Derived.WalkKit
import Derived.OwnWalkIn
import Derived.TacticsInMore
import Derived.LoopNIn
import Derived.LoopIn
import Derived.Test.YtahpnackkmbmgaaGreatE0
set_option linter.all false
set_option linter.unusedVariables false
set_option linter.unusedSimpArgs false
section
namespace Go.Proofs
open Go.Shelf
def Tryz.lays106_ren:Go.Shelf.Ren:=⟨fun|106=>146|213=>157|265=>170|n=>n,fun|9=>9|3=>3|n=>n,fun|n=>n⟩
theorem Tryz.lays106:Go.Proofs.Lays.n106 Tryz.prog Tryz.lays106_ren:={
 mixed:=by kernel_rfl
 f106:=Tryz.func146.trans (congrArg some (by kernel_rfl))
 f213:=Tryz.func157.trans (congrArg some (by kernel_rfl))
 f265:=Tryz.func170.trans (congrArg some (by kernel_rfl))
 t3:=Tryz.underlying3
 a3:=Tryz.isAgg3
 z3:=Tryz.sizeOf3
 v3:=Tryz.zeroValue3
 t9:=Tryz.underlying9
 a9:=Tryz.isAgg9
 z9:=Tryz.sizeOf9
 v9:=Tryz.zeroValue9 }
open Go.RowKit in
theorem Tryz.strings_Compare (a b:ByteArray) (w:World) :
  Calls Tryz.prog 146 #[.string a,.string b] w fun e w'=>e=.returned (.int .i64 (Lib.compareBytes a.data.toList b.data.toList))∧w'=w:=Any.strings_Compare Tryz.lays106 a b w
end Go.Proofs
end
section
namespace Go.Proofs.YtahpnackkmbmgaaGreat.Vm
open Go.RowKit
set_option maxRecDepth 100000
set_option maxHeartbeats 4000000
theorem c9o (a b:ByteArray):o9 146 [.one (.sc (.string a)),.one (.sc (.string b))] [.one (.sc (.int .i64 (Lib.compareBytes a.data.toList b.data.toList)))]:=by
 refine ⟨by kernel_rfl,fun I w args hI hat=>?_⟩
 match args,hat with
 | [v1,v2],⟨h1,h2,_⟩ =>
  have h1:AtD I w v1 (.sc (.string a)):=h1
  have h2:AtD I w v2 (.sc (.string b)):=h2
  cases h1
  cases h2
  refine (Tryz.strings_Compare a b w).mono ?_
  rintro e w' ⟨rfl,rfl⟩
  exact ⟨_,rfl,.sc _ rfl,Below.refl _ _⟩
theorem a9R:∀a b:List UInt8,Lib.compareBytes a b=a4Y a b
 | [],[]=>rfl
 | [],_::_=>by simp [Lib.compareBytes,a4Y,Op.bytesLess]
 | _::_,[]=>by simp [Lib.compareBytes,a4Y,Op.bytesLess]
 | x::a,y::b=>by
  rw [Lib.compareBytes,a9R a b]
  unfold a4Y
  simp only [Op.bytesLess]
  by_cases h1:x<y
  ·simp [h1]
  ·by_cases h2:y<x
   ·have hne:x≠y:=fun e=>by rw [e] at h2;exact h1 (by rw [e];exact h2)
    simp [h1,h2,hne]
   ·have e:x=y:=by
     rw [d4D] at h1 h2
     exact d48.1 (by omega)
    subst e
    simp [h1]
theorem c4h:b2M 145:=by
 intro n m x1 x2 x3 x4 y1 y2 y3 y4
 have hc:=c9o n m
 rw [a9R,←ByteArray.toList_eq,←ByteArray.toList_eq] at hc
 generalize a4Y n.toList m.toList=cv at *
 refine N2 Tryz.func145 rfl ?_;intros;rename_i hA
 cbv
 repeat ((with_reducible apply f8 hA);cbv)
 refine f9 hA _ hc ?_ ?_
 ·rfl
 cbv
 repeat ((with_reducible apply f8 hA);cbv)
theorem c4i (nm:ByteArray) (x0 x1 x2 x3 r0 r1 r2 r3:D):o9 131 [.one (.sc (.string nm)),.ag [x0,x1,x2,x3],.ag [r0,r1,r2,r3]] [.ag [.sc (.int .u8 11),.sc (.string nm),.sc (.int .i64 0),.sl 4 [[x0,x1,x2,x3],[r0,r1,r2,r3]]]]:=by
 refine N2 Tryz.func131 rfl ?_;intros;rename_i hA
 cbv
 repeat ((with_reducible first|apply f8 hA|apply A6 hA true);cbv)
theorem b8K (f:ByteArray×Ty) (fs:List (ByteArray×Ty)) (tl:Ty):a0y (f::fs) tl=.mk 11 f.1 0 [f.2,a0y fs tl]:=rfl
theorem c6Y (fs:List (ByteArray×Ty)) (tl:Ty) (hn:fs.length≤1048576):o9 116 [.one (.sl 5 (rF fs)),.ag (cT tl)] [.ag (cT (a0y fs tl))]:=by
 obtain ⟨L,hL⟩:∃L,L=rF fs:=⟨_,rfl⟩
 rw [←hL]
 obtain ⟨t0,t1,t2,t3,ht⟩:=l8 tl
 obtain ⟨q0,q1,q2,q3,hq⟩:=l8 (a0y fs tl)
 rw [ht,hq]
 refine N2 Tryz.func116 rfl ?_;intro qa _ qc _ _ _ _ _ qj _ _ _ _ _ _ _ _ _ _ _ _ _ va vc;intros;rename_i hA
 cbv;refine gn ?_
 obtain ⟨e1,e2,e3,e4,e5,e6,e7,e8,e9⟩:=j7 hA
 obtain ⟨r1,r2,-⟩:=A8 hA
 have hlen:va L=((fs.length:Nat):Int):=by rw [r1,hL,a1G]
 have hz0:qa .i64 (qc (va L) 1)=((fs.length:Nat):Int) - 1:=by rw [e1,e3,hlen,IntWalk.i64_in _ (by omega)]
 refine j9 hA (γ:=Int×D×D×D×D) (fun x=>[(6,vi .i64 x.1)]) (fun x=>[(2,.box [.d x.2.1,.d x.2.2.1,.d x.2.2.2.1,.d x.2.2.2.2])]) (fun x=>∃k:Nat,x.1=(k:Int) - 1∧k≤fs.length∧cT (a0y (fs.drop k) tl)=[x.2.1,x.2.2.1,x.2.2.2.1,x.2.2.2.2]) (fun x=>(x.1+1).toNat) (qa .i64 (qc (va L) 1),t0,t1,t2,t3) ?_ ?_ ?_
 ·exact ⟨fs.length,hz0,d3b _,by rw [List.drop_length];exact ht⟩
 ·cbv
 ·intro x hinv
  obtain ⟨z,a0,a1,a2,a3⟩:=x
  cbv;refine gn ?_
  obtain ⟨k,hz,hk,hE⟩:=hinv
  replace hz:z=(k:Int) - 1:=hz
  replace hE:cT (a0y (fs.drop k) tl)=[a0,a1,a2,a3]:=hE
  have hge:qj 0 z=decide (0<k):=by rw [e8,hz];exact d3l.2 (by omega)
  by_cases h9:0<k
  ·rw [d3a h9] at hge
   obtain ⟨x,hx⟩:∃x,fs[k - 1]?=some x:=⟨_,d2P (by omega)⟩
   have g1:vc L z=some (.sc (.string x.1)::cT x.2):=by rw [r2,hz,d2S (by omega),hL,show ((k:Int) - 1).toNat=k - 1 by omega];exact b2G hx
   have d1:fs.drop (k - 1)=x::fs.drop k:=by obtain ⟨hi,e⟩:=d2Q.1 hx;rw [d3r hi,e,show k - 1+1=k by omega]
   have hz1:qa .i64 (qc z 1)=((k - 1:Nat):Int) - 1:=by rw [e1,e3,hz,IntWalk.i64_in _ (by omega)];omega
   have hm:(qa .i64 (qc z 1)+1).toNat<(z+1).toNat:=by rw [hz1,hz];omega
   obtain ⟨nm,x⟩:=x
   obtain ⟨x0,x1,x2,x3,hxx⟩:=l8 x
   simp only at g1
   rw [hxx] at g1
   have hsp:=c4i nm x0 x1 x2 x3 a0 a1 a2 a3
   have hnew:cT (a0y (fs.drop (k - 1)) tl)=[.sc (.int .u8 11),.sc (.string nm),.sc (.int .i64 0),.sl 4 [[x0,x1,x2,x3],[a0,a1,a2,a3]]]:=by
    rw [d1,b8K,cT,rT,rT,rT,hxx,hE]
   rw [hge]
   cbv;refine gn ?_
   rw [g1]
   cbv
   try (rw [g1];cbv)
   refine i7 hA _ hsp ?_
   cbv
   repeat ((with_reducible apply f8 hA);cbv)
   exact ⟨(_,_,_,_,_),⟨k - 1,hz1,by omega,hnew⟩,hm,by cbv⟩
  ·rw [d2U h9] at hge
   have hk0:k=0:=by omega
   rw [hk0,d4g,hq] at hE
   cases hE
   rw [hge]
   cbv
   repeat ((with_reducible apply f8 hA);cbv)
theorem a82 {ks:List Ty} {k:Nat} {x:Ty} (h:ks[k]?=some x):rT (ks.take (k+1))=rT (ks.take k)++[cT x]:=by
 obtain ⟨hi,e⟩:=d2Q.1 h
 rw [a9H,a9H,d3T hi,e,d3Q]
 rfl
theorem a18:∀t:Ty,t.parts.length≤1048576→o9 147 [.ag (cT t)] [.ag (cT t)]:=by
 intro t
 induction t using Ty.ind with
 | h t ih =>
  intro hN
  have hkl:=T5 t
  obtain ⟨op,nm,n,ks⟩:=t
  simp only [Ty.kids] at hkl ih
  rw [cT]
  obtain ⟨K,hK⟩:∃K,K=rT ks:=⟨_,rfl⟩
  rw [←hK]
  refine N2 Tryz.func147 rfl ?_;intro qa qb _ _ _ _ _ qi _ _ _ _ _ _ _ _ _ _ _ _ _ _ va vc _ ve;intros;rename_i hA
  cbv
  with_reducible apply f8 hA
  cbv
  refine a2j hA 3 27 true rfl ?_
  cbv
  repeat ((with_reducible apply f8 hA);cbv)
  obtain ⟨e1,e2,e3,e4,e5,e6,e7,e8,e9⟩:=j7 hA
  obtain ⟨r1,r2,r3,r4⟩:=A8 hA
  refine j9 hA (γ:=Int×List (List D)) (fun x=>[(9,vi .i64 x.1),(3,.own 2),(13,.jk)]) (fun x=>[(2,.row true 27 x.2)]) (fun x=>∃k:Nat,x.1=(k:Int)∧k≤ks.length∧x.2=rT (ks.take k)) (fun x=>ks.length - x.1.toNat) (0,[]) ?_ ?_ ?_
  ·exact ⟨0,rfl,d3t _,rfl⟩
  ·cbv
  ·intro x hinv
   obtain ⟨z,L⟩:=x
   cbv;refine gn ?_
   obtain ⟨k,hz,hk,hE⟩:=hinv
   have hz:z=(k:Int):=hz
   replace hE:L=rT (ks.take k):=hE
   have hlen:va K=(ks.length:Int):=by rw [r1,hK,a0m]
   have hlt:qi z (va K)=decide (k<ks.length):=by rw [e7,hlen,hz];exact d3l.2 (by omega)
   by_cases h9:k<ks.length
   ·rw [d3a h9] at hlt
    obtain ⟨x,hx⟩:∃x,ks[k]?=some x:=⟨_,d2P h9⟩
    have g1:vc K z=some (cT x):=by rw [r2,hz,d2S (by omega),hK];exact a5F hx
    have hsp:=ih x (d3e hx) (by have:=hkl.2 x (d3e hx);omega)
    have hsn:=a82 hx
    obtain ⟨o1,m1,n1,l1⟩:=x
    rw [cT] at g1 hsp hsn
    generalize rT l1=L1 at *
    rw [hlt]
    cbv;refine gn ?_
    rw [g1]
    cbv
    repeat ((with_reducible apply f8 hA);cbv)
    refine f9 hA _ hsp ?_ ?_
    ·rfl
    cbv
    refine A6 hA true ?_
    cbv
    refine B3 hA (by rw [hE,a0m];simp;omega) ?_
    cbv
    repeat ((with_reducible apply f8 hA);cbv)
    replace hz:z=(k:Int):=hz
    have hz1:qa .i64 (qb z 1)=((k+1:Nat):Int):=by rw [e1,e2,hz,IntWalk.i64_in _ (by omega)];omega
    refine ⟨(qa .i64 (qb z 1),ve L [[.sc (.int .u8 o1),.sc (.string m1),.sc (.int .i64 n1),.sl 4 L1]]),⟨k+1,hz1,h9,by show ve L _=_;rw [r4,hE,hsn]⟩,by show ks.length - (qa .i64 (qb z 1)).toNat<ks.length - z.toNat;rw [hz1,hz];omega,?_⟩
    cbv
   ·rw [d2U h9] at hlt
    rw [hlt]
    cbv;refine gn ?_
    have hE2:L=K:=by rw [hE,hK,d31 (by omega)]
    rw [hE2]
    exact ⟨rfl,trivial⟩
def cfS (f:ByteArray×Ty):ByteArray×Ty:=(f.1,y9 f.2)
theorem a4r:∀(n:Nat) (t:Ty),t.parts.length≤n→(y7 t).length<t.parts.length:=by
 intro n
 induction n with
 | zero=>intro t h;have:=H5 t;omega
 | succ n ih =>
  intro t h
  have hp:=H5 t
  obtain ⟨op,nm,k,ks⟩:=t
  match ks with
  | []=>exact hp
  | [x]=>exact hp
  | x::y::z::l=>exact hp
  | [x,r] =>
   have hk:=T5 (.mk op nm k [x,r])
   have hr:=hk.2 r (by simp [Ty.kids])
   unfold y7
   by_cases h11:op=11
   ·rw [d2S h11,d2X]
    have:=ih r (by omega)
    omega
   ·rw [d2T h11];exact hp
theorem b74:∀(m:Nat) (t:Ty),t.parts.length≤m→m≤1048576→(∀x∈t.parts,a0N x)→o9 97 [.ag (cT t)] [.ag (cT (y9 t))]:=by
 intro m
 induction m with
 | zero=>intro t h;have:=H5 t;omega
 | succ m ih =>
  intro t hm hm2 hsp
  have hself:t∈t.parts:=by rw [a0e];exact d2V ..
  have hkl:=T5 t
  obtain ⟨op,nm,n,ks⟩:=t
  generalize ht:Ty.mk op nm n ks=t at *
  have hc:cT t=[.sc (.int .u8 op),.sc (.string nm),.sc (.int .i64 n),.sl 4 (rT ks)]:=by rw [←ht,cT]
  have hks:t.kids=ks:=by rw [←ht];rfl
  rw [hks] at hkl
  by_cases hop:op=11
  ·have hF:=b8F t (hsp t hself) (by omega)
   have hcr:=a7x (t:=t) (by rw [←ht];exact hop)
   have hih:∀f∈n7 ltF (y7 t),o9 97 [.ag (cT f.2)] [.ag (cT (y9 f.2))]:=fun f hf=>by
    have h1:=a0u hf
    have h2:=a16 _ t (d3b _) f h1
    have h3:=a5I _ t (d3b _) f h1
    exact ih f.2 (by omega) (by omega) fun x hx=>hsp x (a4n hx h3)
   have hlen:(n7 ltF (y7 t)).length≤1048576:=by
    rw [a3i]
    have:=a4r _ t (d3b _)
    omega
   rw [hc] at hF ⊢
   obtain ⟨K0,hK0⟩:∃K,K=rT ks:=⟨_,rfl⟩
   rw [←hK0] at hF ⊢
   generalize n7 ltF (y7 t)=L at *
   have hOf:=c6Y (L.map cfS) (P5 t) (by rw [d3o];exact hlen)
   rw [show a0y (L.map cfS) (P5 t)=y9 t from hcr.symm] at hOf
   obtain ⟨y0,y1,y2,y3,hy⟩:=l8 (y9 t)
   obtain ⟨q0,q1,q2,q3,hq⟩:=l8 (P5 t)
   rw [hq] at hF hOf
   rw [hy] at hOf ⊢
   obtain ⟨M0,hM0⟩:∃M,M=rF L:=⟨_,rfl⟩
   rw [←hM0] at hF
   refine N2 Tryz.func97 rfl fun qa qb qc qd qe qg qh qi qj qk ql qm qo qp qq qt qu qv qw qx qy qz va vc vd ve vf vg vh vj vk vl vm vn vo vp vq vr vt vu vv vw vx hA=>?_
   cbv;refine gn ?_
   have h11:qk op 11=decide (op=11):=by have e:=j7 hA;exact e.2.2.2.2.2.2.2.2 _ _
   rw [d3a hop] at h11
   rw [h11]
   cbv;refine gn ?_
   refine y6 hA [] hF ⟨rfl,rfl,rfl,rfl,rfl,rfl,rfl⟩ ?_
   rintro res os2 ⟨rfl,rfl⟩
   cbv;refine gn ?_
   obtain ⟨e1,e2,e3,e4,e5,e6,e7,e8,e9⟩:=j7 hA
   obtain ⟨r1,r2,r3,r4⟩:=A8 hA
   obtain ⟨m1,m2,m3,m4⟩:=a0U hA
   refine j9 hA (γ:=Int×List (List D)) (fun x=>[(5,vi .i64 x.1),(11,.jk),(13,.jk)]) (fun x=>[(2,.row false 164 x.2)]) (fun x=>∃k:Nat,x.1=(k:Int)∧k≤L.length∧x.2=rF ((L.take k).map cfS++L.drop k)) (fun x=>L.length - x.1.toNat) (0,M0) ?_ ?_ ?_
   ·exact ⟨0,rfl,d3t _,hM0⟩
   ·cbv
   ·intro x hinv
    obtain ⟨z,M⟩:=x
    cbv;refine gn ?_
    obtain ⟨k,hz,hk,hM⟩:=hinv
    replace hz:z=(k:Int):=hz
    replace hM:M=rF ((L.take k).map cfS++L.drop k):=hM
    have hll:va M=((L.length:Nat):Int):=by rw [r1,hM,a1G];simp;omega
    have hlt:qi z (va M)=decide (k<L.length):=by rw [e7,hll,hz];exact d3l.2 (by omega)
    by_cases h9:k<L.length
    ·rw [d3a h9] at hlt
     obtain ⟨x,hx⟩:∃x,L[k]?=some x:=⟨_,d2P h9⟩
     have hspx:=hih x (d3e hx)
     have hxe:((L.take k).map cfS++L.drop k)[k]?=some x:=by
      rw [d3h (by simp;omega)]
      simp
      rw [d4Q (by omega),d4k,d4a]
      exact hx
     have hset:((L.take k).map cfS++L.drop k).set k (cfS x)=(L.take (k+1)).map cfS++L.drop (k+1):=by
      obtain ⟨hi,e⟩:=d2Q.1 hx
      have e0:k - ((L.take k).map cfS).length=0:=by rw [d3o,d3v];omega
      rw [d4n _ _ (by rw [d3o,d3v];omega),List.take_add_one,hx,d3Q,d37,d3r hi,e0]
      rfl
     obtain ⟨xn,xt⟩:=x
     obtain ⟨x0,x1,x2,x3,hxx⟩:=l8 xt
     obtain ⟨v0,v1,v2,v3,hvv⟩:=l8 (y9 xt)
     simp only at hspx
     rw [hxx,hvv] at hspx
     have gx:vc M z=some [.sc (.string xn),x0,x1,x2,x3]:=by rw [r2,hz,d2S (by omega),hM,show ((k:Int)).toNat=k by omega,b2G hxe,hxx]
     have hz1:qa .i64 (qb z 1)=((k+1:Nat):Int):=by rw [e1,e2,hz,IntWalk.i64_in _ (by omega)];omega
     have hmu:L.length - (qa .i64 (qb z 1)).toNat<L.length - z.toNat:=by rw [hz1,hz];omega
     have hnew:vf M z [.sc (.string xn),v0,v1,v2,v3]=rF ((L.take (k+1)).map cfS++L.drop (k+1)):=by
      rw [m4,←hset,hM,hz,show ((k:Int)).toNat=k by omega]
      unfold rF
      rw [List.map_set]
      show _=List.set _ k (.sc (.string xn)::cT (y9 xt))
      rw [hvv]
     rw [hlt]
     cbv
     repeat (first|(with_reducible apply f8 hA;cbv)|(rw [gx];cbv)|(refine f9 hA _ hspx rfl ?_;cbv))
     refine ⟨(qa .i64 (qb z 1),vf M z [.sc (.string xn),v0,v1,v2,v3]),⟨k+1,hz1,h9,hnew⟩,hmu,?_⟩
     cbv
    ·rw [d2U h9] at hlt
     have hM2:M=rF (L.map cfS):=by rw [hM,d31 (by omega),d4z (by omega),d3f]
     rw [←hM2] at hOf
     rw [hlt]
     cbv
     refine c0W hA [2] ?_
     cbv
     repeat (first|(with_reducible apply f8 hA;cbv)|(refine f9 hA _ hOf rfl ?_;cbv))
  ·have hcn:=a5H (t:=t) (by rw [←ht];exact hop)
   rw [hks,show t.op=op by rw [←ht];rfl,show t.name=nm by rw [←ht];rfl,show t.n=n by rw [←ht];rfl] at hcn
   have hih:∀x∈ks,o9 97 [.ag (cT x)] [.ag (cT (y9 x))]:=fun x hx=>by
    have h2:=hkl.2 x hx
    exact ih x (by omega) (by omega) fun y hy=>hsp y (by rw [C4,hks];exact d2W _ (d3K.2 ⟨x,hx,hy⟩))
   rw [hcn,cT,hc]
   obtain ⟨K,hK⟩:∃K,K=rT ks:=⟨_,rfl⟩
   obtain ⟨Q,hQ⟩:∃Q,Q=rT (ks.map y9):=⟨_,rfl⟩
   rw [←hK,←hQ]
   refine N2 Tryz.func97 rfl fun qa qb qc qd qe qg qh qi qj qk ql qm qo qp qq qt qu qv qw qx qy qz va vc vd ve vf vg vh vj vk vl vm vn vo vp vq vr vt vu vv vw vx hA=>?_
   cbv;refine gn ?_
   obtain ⟨e1,e2,e3,e4,e5,e6,e7,e8,e9⟩:=j7 hA
   obtain ⟨r1,r2,r3,r4⟩:=A8 hA
   have h11:qk op 11=decide (op=11):=e9 _ _
   rw [d2U hop] at h11
   rw [h11]
   cbv
   repeat (first|(refine a7u hA 2 3 27 true rfl rfl ?_;cbv)|(with_reducible apply f8 hA;cbv))
   refine j9 hA (γ:=Int×List (List D)) (fun x=>[(7,vi .i64 x.1)]) (fun x=>[(3,.row true 27 x.2)]) (fun x=>∃k:Nat,x.1=(k:Int)∧k≤ks.length∧x.2=rT ((ks.map y9).take k)) (fun x=>ks.length - x.1.toNat) (0,[]) ?_ ?_ ?_
   ·exact ⟨0,rfl,d3t _,rfl⟩
   ·cbv
   ·intro x hinv
    obtain ⟨z,M⟩:=x
    cbv;refine gn ?_
    obtain ⟨k,hz,hk,hM⟩:=hinv
    replace hz:z=(k:Int):=hz
    replace hM:M=rT ((ks.map y9).take k):=hM
    have hll:va K=((ks.length:Nat):Int):=by rw [r1,hK,a0m]
    have hlt:qi z (va K)=decide (k<ks.length):=by rw [e7,hll,hz];exact d3l.2 (by omega)
    by_cases h9:k<ks.length
    ·rw [d3a h9] at hlt
     obtain ⟨x,hx⟩:∃x,ks[k]?=some x:=⟨_,d2P h9⟩
     have hspx:=hih x (d3e hx)
     have hx2:(ks.map y9)[k]?=some (y9 x):=by rw [d3u,hx];rfl
     have hsn:=a82 hx2
     obtain ⟨x0,x1,x2,x3,hxx⟩:=l8 x
     obtain ⟨v0,v1,v2,v3,hvv⟩:=l8 (y9 x)
     rw [hxx,hvv] at hspx
     rw [hvv] at hsn
     have gx:vc K z=some [x0,x1,x2,x3]:=by rw [r2,hz,d2S (by omega),hK,show ((k:Int)).toNat=k by omega,a5F hx,hxx]
     have gx2:(Ar.mk qa qb qc qd qe qg qh qi qj qk ql qm qo qp qq qt qu qv qw qx qy qz va vc vd ve vf vg vh vj vk vl vm vn vo vp vq vr vt vu vv vw vx).get K z=some [x0,x1,x2,x3]:=gx
     have hz1:qa .i64 (qb z 1)=((k+1:Nat):Int):=by rw [e1,e2,hz,IntWalk.i64_in _ (by omega)];omega
     have hmu:ks.length - (qa .i64 (qb z 1)).toNat<ks.length - z.toNat:=by rw [hz1,hz];omega
     have hnew:ve M [[v0,v1,v2,v3]]=rT ((ks.map y9).take (k+1)):=by rw [r4,hsn,hM]
     have hMl:M.length≤1048576:=by rw [hM,a0m,d3v];omega
     rw [hlt]
     cbv
     repeat (first|(with_reducible apply f8 hA;cbv)|(rw [gx];cbv)|(rw [gx2];cbv)|(refine i7 hA _ hspx ?_;cbv)|(refine f9 hA _ hspx rfl ?_;cbv)|(refine A6 hA true ?_;cbv)|(refine B3 hA (by simp only [r4,d2R,d2X,d3g];omega) ?_;cbv))
     cbv
     repeat (first|(with_reducible apply f8 hA;cbv)|(rw [gx];cbv)|(rw [gx2];cbv)|(refine i7 hA _ hspx ?_;cbv)|(refine f9 hA _ hspx rfl ?_;cbv)|(refine A6 hA true ?_;cbv)|(refine B3 hA (by simp only [r4,d2R,d2X,d3g];omega) ?_;cbv))
     refine ⟨(qa .i64 (qb z 1),ve M [[v0,v1,v2,v3]]),⟨k+1,hz1,h9,hnew⟩,hmu,?_⟩
     cbv
    ·rw [d2U h9] at hlt
     have hM2:M=Q:=by rw [hM,hQ,d31 (by rw [d3o];omega)]
     rw [hlt]
     cbv;refine gn ?_
     exact ⟨by rw [hM2],trivial⟩
section
section
variable {W:ByteArray→Bool}
theorem a7Q {t:Ty} {s:Int} (h:I9 W t s=true):∃k,Z6 t.op=some k∧(decide (8≤t.op) == (s == 114))=true∧t.kids.length=k.length∧(if t.op=11 then W t.name else decide (t.name.toList=[]))=true∧0≤t.n∧(t.op=7∨t.op=10∨t.n=0)∧J0 W t.kids k=true:=by
 cases hk:Z6 t.op with
 | none=>rw [a9L hk] at h;cases h
 | some k =>
  obtain ⟨op,nm,n,kids⟩:=t
  rw [a0X (k:=k) (by exact hk)] at h
  unfold c3B c4B at h
  simp only [d2Z,d36,d4d] at h
  obtain ⟨⟨h1,h2,h3,h4,h5⟩,h6⟩:=h
  exact ⟨k,rfl,h1,h2,h3,h4,by simpa [or_assoc,Ty.op,Ty.n] using h5,h6⟩
theorem a9T {t:Ty} {s:Int} (h:I9 W t s=true):F3 t:=b4u W t s h
end
section
variable {W:ByteArray→Bool}
end
end
section
section
variable {W:ByteArray→Bool}
end
section
variable {W:ByteArray→Bool}
end
section
variable {W:ByteArray→Bool}
end
section
variable {W:ByteArray→Bool}
end
end
theorem c4j (fs:List (ByteArray×Ty)):n7 F6 (rF fs)=rF (n7 ltF fs):=b8G (f:=fun x:ByteArray×Ty=>D.sc (.string x.1)::cT x.2) (fun _ _=>rfl) fs
theorem c6Z (fs:List (ByteArray×Ty)):∀x∈rF fs,Ok5 x:=fun x hx=>by
 obtain ⟨f,_,rfl⟩:=d4r.1 hx
 obtain ⟨c0,c1,c2,c3,h⟩:=l8 f.2
 exact ⟨f.1,c0,c1,c2,c3,by show D.sc (.string f.1)::cT f.2=_;rw [h]⟩
theorem b2O (fs:List (ByteArray×Ty)) (f:ByteArray×Ty):rF (fs++[f])=rF fs++[.sc (.string f.1)::cT f.2]:=by unfold rF;rw [d3Q];rfl
theorem c7a (t:Ty) (hs:a0N t) (hN:t.parts.length≤1048576):v8 138 [.ag (A7 (cT t))] [] (fun res os'=>res=[.own 0,.ag (A7 (cT (P5 t)))]∧os'=[.row false 164 (rF (n7 ltF (y7 t)))]):=by
 have hso:=c1C 145 c4h (rF (y7 t)) (c6Z _) (by rw [a1G];have:=a4r _ t (d3b _);omega)
 rw [c4j] at hso
 obtain ⟨Q,hQ⟩:∃Q,Q=rF (n7 ltF (y7 t)):=⟨_,rfl⟩
 obtain ⟨M,hM⟩:∃M,M=rF (y7 t):=⟨_,rfl⟩
 rw [←hQ,←hM] at hso
 rw [←hQ]
 obtain ⟨q0,q1,q2,q3,hq⟩:=l8 (P5 t)
 rw [hq]
 obtain ⟨op,nm,n,ks⟩:=t
 generalize ht:Ty.mk op nm n ks=t at *
 have hc:cT t=[.sc (.int .u8 op),.sc (.string nm),.sc (.int .i64 n),.sl 4 (rT ks)]:=by rw [←ht,cT]
 obtain ⟨K0,hK0⟩:∃K,K=rT ks:=⟨_,rfl⟩
 rw [hc,←hK0]
 refine Z5 Tryz.func138 rfl ?_;intro _ _ _ _ _ _ _ _ _ qk _ _ _ _ _ _ _ _ _ _ _ _ _ vc _ ve;intros;rename_i hA
 cbv
 repeat (first|(refine a2j hA 4 164 false rfl ?_;cbv)|(with_reducible apply f8 hA;cbv))
 obtain ⟨e1,e2,e3,e4,e5,e6,e7,e8,e9⟩:=j7 hA
 obtain ⟨r1,r2,r3,r4⟩:=A8 hA
 refine j9 hA (γ:=Ty×Int×ByteArray×Int×List (List D)×List (List D)) (fun x=>[(4,.own 2)]) (fun x=>[(0,.box [.d (.sc (.int .u8 x.2.1)),.d (.sc (.string x.2.2.1)),.d (.sc (.int .i64 x.2.2.2.1)),.d (.sl 4 x.2.2.2.2.1)]),(2,.row false 164 x.2.2.2.2.2)])
  (fun x=>∃ks fs,x.1=.mk x.2.1 x.2.2.1 x.2.2.2.1 ks∧x.2.2.2.2.1=rT ks∧a0N x.1∧x.2.2.2.2.2=rF fs∧fs++y7 x.1=y7 t∧P5 x.1=P5 t∧fs.length+x.1.parts.length≤1048576) (fun x=>x.1.parts.length) (t,op,nm,n,K0,[]) ?_ ?_ ?_
 ·exact ⟨ks,[],ht.symm,hK0,hs,rfl,rfl,rfl,by simpa using hN⟩
 ·cbv
 ·intro x hinv
  obtain ⟨r,op,nm,n,K,L⟩:=x
  cbv;refine gn ?_;try simp only [nc] at *
  obtain ⟨ks,fs,hr,hK,hsr,hL,hfs,htl,hlen⟩:=hinv
  have h11:qk op 11=decide (op=11):=e9 _ _
  by_cases hop:op=11
  ·rw [d3a hop] at h11
   obtain ⟨a,b,hk,hsb,hfb,htb⟩:=a4l hsr (by rw [hr];exact hop)
   have hnmr:r.name=nm:=by rw [hr];rfl
   rw [hnmr] at hfb
   have hks:ks=[a,b]:=by rw [←hk,hr];rfl
   obtain ⟨a0,a1,a2,a3,ha⟩:=l8 a
   obtain ⟨op',nm',n',ks'⟩:=b
   generalize hb:Ty.mk op' nm' n' ks'=b at *
   have hcb:cT b=[.sc (.int .u8 op'),.sc (.string nm'),.sc (.int .i64 n'),.sl 4 (rT ks')]:=by rw [←hb,cT]
   obtain ⟨K',hK'⟩:∃K,K=rT ks':=⟨_,rfl⟩
   rw [←hK'] at hcb
   have g0:vc K 0=some [a0,a1,a2,a3]:=by rw [r2,d2S (by omega),hK,hks];exact congrArg some ha
   have g1:vc K 1=some [.sc (.int .u8 op'),.sc (.string nm'),.sc (.int .i64 n'),.sl 4 K']:=by rw [r2,d2S (by omega),hK,hks];exact congrArg some hcb
   have hLl:L.length≤1048576:=by rw [hL,a1G];omega
   have hbl:b.parts.length<r.parts.length:=(T5 r).2 b (by rw [hk];simp)
   have hnew:ve L [[.sc (.string nm),a0,a1,a2,a3]]=rF (fs++[(nm,a)]):=by rw [r4,b2O,hL,ha]
   rw [h11]
   iterate 2 (try cbv;repeat ((first|with_reducible apply f8 hA|rw [g0]|rw [g1]|refine A6 hA true ?_|(refine B3 hA (by simp only [r4,d2R,d2X,d3g];omega) ?_));cbv))
   try simp (maxSteps:=4000000) only [nc] at *
   refine ⟨(b,op',nm',n',K',ve L [[.sc (.string nm),a0,a1,a2,a3]]),⟨ks',fs++[(nm,a)],hb.symm,hK',hsb,hnew,by rw [←hfs,hfb];simp,by rw [←htl,htb],by rw [d2R];show fs.length+1+b.parts.length≤_;omega⟩,hbl,?_⟩
   cbv
  ·rw [d2U hop] at h11
   obtain ⟨hf0,ht0⟩:=a5G (t:=r) (by rw [hr];exact hop)
   rw [hf0,d3f] at hfs
   have hLM:L=M:=by rw [hL,hM,hfs]
   rw [ht0,hr] at htl
   rw [←htl,cT,←hK] at hq
   rw [h11,hLM]
   cases hq
   cbv;refine gn ?_
   refine I4 hA [2] hso ⟨rfl,rfl,rfl,rfl,rfl,rfl,rfl⟩ ?_
   rintro res os2 ⟨rfl,rfl⟩
   cbv;refine gn ?_
   exact m9 hA [2] ⟨rfl,rfl,rfl,rfl,rfl,rfl,rfl,rfl⟩ ⟨rfl,rfl⟩
section
def PtG {α:Type} (T:(α→Prop)→Prop):Prop:=∀K,T K→∃v,K v∧∀K',K' v→T K'
structure Ok (a:Ar):Prop where
 wrap:a.wrap=f7.wrap
 add:a.add=f7.add
 sub:a.sub=f7.sub
 mul:a.mul=f7.mul
 quo:a.quo=f7.quo
 rem:a.rem=f7.rem
 bits:a.bits=f7.bits
 lt:a.lt=f7.lt
 le:a.le=f7.le
 eq:a.eq=f7.eq
 nz:∀y k,a.nz y k→f7.nz y k
 nzp:∀y k k',a.nz y k→k'→a.nz y k'
 seq:a.seq=f7.seq
 slt:a.slt=f7.slt
 bytes:a.bytes=f7.bytes
 cat:a.cat=f7.cat
 fits:∀x y k,a.fits x y k→f7.fits x y k
 fitsp:∀x y k k',a.fits x y k→k'→a.fits x y k'
 slen:a.slen=f7.slen
 sget:a.sget=f7.sget
 ssub:a.ssub=f7.ssub
 txt:a.txt=f7.txt
 byt:a.byt=f7.byt
 nat:a.nat=f7.nat
 len:a.len=f7.len
 get:a.get=f7.get
 sub2:a.sub2=f7.sub2
 app:a.app=f7.app
 set:a.set=f7.set
 room:∀x y k,a.room x y k→f7.room x y k
 roomp:∀x y k k',a.room x y k→k'→a.room x y k'
 mlook:a.mlook=f7.mlook
 mput:a.mput=f7.mput
 deq:a.deq=f7.deq
 call:∀f rs K,a.call f rs K→f7.call f rs K
 callp:∀f rs,PtG (a.call f rs)
 calld:∀f vs o K,a.calld f vs o K→f7.calld f vs o K
 calldp:∀f vs o,PtG (a.calld f vs o)
 rep:∀n z K,a.rep n z K→f7.rep n z K
 repp:∀n z,PtG (a.rep n z)
 callo:∀f vs s K,a.callo f vs s K→f7.callo f vs s K
 callop:∀f vs s,PtG fun K:V×S→Prop=>a.callo f vs s fun v s'=>K (v,s')
 callx:∀f vs l s K,a.callx f vs l s K→f7.callx f vs l s K
 callxp:∀f vs l s,PtG fun K:V×S→Prop=>a.callx f vs l s fun v s'=>K (v,s')
 new:∀e K,a.new e K→f7.new e K
 newp:∀e,PtG (a.new e)
 lit:∀t K,a.lit t K→f7.lit t K
 litp:∀t,PtG (a.lit t)
 next:∀N s,a.next N s→N s
 nextp:∀N s,N s→a.next N s
 ext:∀op dst s K,¬a.ext op dst s K
 reg:∀ops s K,¬a.reg ops s K
 loop:∀c body s K,a.loop c body s K→(∀s K K',(∀x s,K x s→K' x s)→body s K→body s K')→b37 Eq body s K
 loopp:∀c body s,(∀s,PtG fun K:X×S→Prop=>body s fun x s=>K (x,s))→PtG fun K:X×S→Prop=>a.loop c body s fun x s=>K (x,s)
section
variable {a:Ar} (h:Ok a)
include h
end
structure Good (f:Nat) (fn:Func) (c:Code):Prop where
 f:Tryz.prog.funcs[f]?=some fn
 b:fn.body=some c
 n:(fn.name != "runtime.NumGoroutine")=true
 c:w8 Tryz.prog c=true
 r:P3 fn.results.toList=true
inductive Tab where
 | nil
 | cons (f:Nat) (fn:Func) (c:Code) (h:Good f fn c) (T:Tab)
 | own (f:Nat) (F:List V→List O→Option (V×List O×List Nat)) (h:∀vs o r,F vs o=some r→U9 f vs o fun x o' ks=>(x,o',ks)=r) (T:Tab)
 | pure (f:Nat) (F:List R→Option (List R)) (h:∀rs q,F rs=some q→o9 f rs q) (T:Tab)
inductive Ent where
 | none
 | code (fn:Func) (c:Code)
 | own (F:List V→List O→Option (V×List O×List Nat))
 | pure (F:List R→Option (List R))
def it (body:S→(X→S→Prop)→Prop) (K:X→S→Prop) (n:Nat):Nat→S→Prop
 | 0,_=>False
 | m+1,s=>match Nat.ble n (r8 s.o) with
  | true=>body s fun e s'=>b1Y (fun s2=>it body K n m s2) K e s'
  | false=>False
section
variable {hint:Nat→Bool} {call:Nat→List R→(List R→Prop)→Prop} {calld:Nat→List V→List O→(V→Prop)→Prop} {callo:Nat→List V→S→(V→S→Prop)→Prop} {callx:Nat→List V→List Nat→S→(V→S→Prop)→Prop}
end
section
variable {qa:IntKind→Int→Int} {qb:Int→Int→Int} {qc:Int→Int→Int} {qd:Int→Int→Int} {qe:Int→Int→Int} {qg:Int→Int→Int} {qh:BinOp→IntKind→Int→IntKind→Int→Option Int} {qi:Int→Int→Bool} {qj:Int→Int→Bool} {qk:Int→Int→Bool} {ql:Int→Prop→Prop} {qm:List UInt8→List UInt8→Bool} {qo:List UInt8→List UInt8→Bool} {qp:ByteArray→List UInt8} {qq:ByteArray→ByteArray→ByteArray} {qt:ByteArray→ByteArray→Prop→Prop} {qu:ByteArray→Int} {qv:ByteArray→Int→Option Int} {qw:ByteArray→Int→Int→Option ByteArray} {qx:List (List D)→Option ByteArray} {qy:ByteArray→List (List D)} {qz:Int→Nat→Option Nat} {va:List (List D)→Int} {vc:List (List D)→Int→Option (List D)} {vd:List (List D)→Int→Int→Option (List (List D))} {ve:List (List D)→List (List D)→List (List D)} {vf:List (List D)→Int→List D→List (List D)} {vg:List (List D)→List (List D)→Prop→Prop} {vh:List (R×R)→R→Option R} {vj:List (R×R)→R→R→List (R×R)} {vk:List D→List D→Bool} {vl:Int→List D→(List (List D)→Prop)→Prop} {vm:Nat→List R→(List R→Prop)→Prop} {vn:Nat→List V→List O→(V→Prop)→Prop} {vo:Nat→List V→S→(V→S→Prop)→Prop} {vp:Nat→List V→List Nat→S→(V→S→Prop)→Prop} {vq:Nat→(Bool→Prop)→Prop} {vr:Nat→(Bool→Prop)→Prop} {vt:Nat→(List V→List O→Prop)→List V→S→Prop} {vu:(S→Prop)→S→Prop} {vv:Op→Option Nat→S→(S→Prop)→Prop} {vw:Array Oper→S→(S→Prop)→Prop} {vx:Code→(S→(X→S→Prop)→Prop)→S→(X→S→Prop)→Prop}
end
end
end Go.Proofs.YtahpnackkmbmgaaGreat.Vm
end
section
namespace Go.Proofs.YtahpnackkmbmgaaGreat.Vm
open Go.RowKit Go.Proofs
section
variable {F:Fence} {n:Nat} {P:Program} {w:World}
def c1D (B:Nat) (Kp:World→World→Prop) (I:World→Prop) (Ix:Code→World→Prop) (W:World):Exit→Act→World→Prop
 | .normal,_,W'=>KeepsFrom B W W'∧Kp W W'∧I W'
 | .ret,_,W'=>KeepsFrom B W W'∧Ix .ret W'
 | .exit i,_,W'=>KeepsFrom B W W'∧Ix (.exit i) W'
 | _,_,_=>False
def b5R (F:Fence) (n:Nat) (P:Program) (gf:Nat) (lb:Array Value) (encs:Nat→Array Value) (Kp:World→World→Prop) (N:Nat) (w:World):Prop :=
 ∀(l:Nat) (J:Nat→World→Prop) (Jx:Unit→World→Prop) (W:World),Below w.heap.size w W →
  (∀k W1,k<N→J k W1→YieldAt F (n - 1) P l (encs k) W1 fun e W'=>(e=.returned (.bool true)∧J (k+1) W'∧Kp W1 W')∨(e=.returned (.bool false)∧Jx () W')) →
  J 0 W→CallsIn F n P gf (#[.func (.yield l) #[] #[]]++lb) W fun e W'=>(∃v,e=.returned v)∧(J N W'∨Jx () W')
def b40 (L:Nat) (p:World→Prop):Prop:=∀(W:World) (r r':Loop),p W→W.heap[L]?=some (.loop r)→p (W.putObj L (.loop r'))
theorem c4l {g:Operand} {ps:Array Tmp} {assign body:Code} {Q:Exit→Act→World→Prop} {a:Act}
  (hro:F.round=none) (h1:1≤n) {gf:Nat} {lb:Array Value} (hg:a.eval g=.func (.func gf) #[] lb) (hFg:F.fn gf) (eg:∀args w,(callFunc gf args).run P w=.ok (.enter gf args) w)
  {encs:Nat→Array Value} {Kp:World→World→Prop} {N:Nat} (hseq:b5R F (n - 1) P gf lb encs Kp N w)
  (hKt:∀ {A B C:World},Kp A B→Kp B C→Kp A C) (hKb:∀(W:World) (l:Nat) (o o':Obj),w.heap.size≤l→W.heap[l]?=some o→o.isCells=false→o.isWalk=false→Kp W (W.putObj l o')) (hps:∀k,(encs k).size=ps.size)
  (I:Nat→World→Prop) (Ix:Code→World→Prop) (hI:∀k,b40 (w.heap.size+1) (I k)) (hIx:∀c,b40 (w.heap.size+1) (Ix c)) (h0:∀r:Loop,I 0 ((w.alloc (.deferred (some []))).alloc (.loop r)))
  (hround:∀(l k:Nat) (W:World),k<N→I k W→((∃r:Loop,W.heap[w.heap.size+1]?=some (.loop r))∧W.heap[w.heap.size]?=some (.deferred (some [])))→assign.wpIn (F.inRound l) (n - 1 - 1) P (Exit.then (fun a' W1=>KeepsFrom w.heap.size W W1∧Kp W W1∧∃R:World→Prop,b40 (w.heap.size+1) R∧R W1∧∀W2,R W2→body.wpIn (F.inRound l) (n - 1 - 1) P (c1D w.heap.size Kp (I (k+1)) Ix W2) a' W2) (fun _ _ _=>False))
   { tmps:=(ps.zip (encs k)).foldl (fun t (p,v)=>t.setIfInBounds p v) a.tmps,defers:=[] } W)
  (hdone:∀(D:Nat) (W:World),D=w.heap.size→I N W→W.heap[D]?=some (.deferred (some []))→Q .normal { a with defers:={ target:=.collected D,args:=#[] }::a.defers } W)
  (hstop:∀(D:Nat) (c:Code) (W:World),w.heap.size≤D→Ix c W→W.heap[D]?=some (.deferred (some []))→c.wpIn F n P Q { a with defers:={ target:=.collected D,args:=#[] }::a.defers } W) :
  (Code.rangeFunc g ps assign body).wpIn F n P Q a w:=by
 refine wpIn_rangeFunc fun fn hfn=>?_
 rw [hro]
 obtain ⟨D,hD⟩:∃D,D=w.heap.size:=⟨_,rfl⟩
 obtain ⟨rec,hrec⟩:∃rec:LoopState→Option Code→Loop,rec=fun st pe=>{ state:=st,pending:=pe,fn,tmps:=a.tmps,params:=ps,assign,body,defers:=w.heap.size }:=⟨_,rfl⟩
 obtain ⟨W1,hW1⟩:∃W1,W1=(w.alloc (.deferred (some []))).alloc (.loop (rec .ready none)):=⟨_,rfl⟩
 have hs1:W1.heap.size=D+1+1:=by rw [hW1,hD];simp
 have hbel:Below D w W1:=by rw [hW1,hD];exact ((Below.refl _ w).alloc (d3b _) _).alloc (by simp) _
 have hL1:W1.heap[D+1]?=some (.loop (rec .ready none)):=by
  have:=World.alloc_heap_new (w.alloc (.deferred (some []))) (.loop (rec .ready none))
  rw [World.size_alloc,←hD,←hW1] at this;exact this
 have hD1:W1.heap[D]?=some (.deferred (some [])):=by
  rw [hW1,hD];exact (Below.heap_alloc _ _ _ (by simp)).trans (World.alloc_heap_new w _)
 have hI1:I 0 W1:=by rw [hW1];exact h0 _
 refine ⟨D+1,[{ target:=.collected D,args:=#[] }],W1,{ target:=.fn (.func gf) lb,args:=#[.func (.yield (D+1)) #[] #[]] },W1,gf,#[.func (.yield (D+1)) #[] #[]]++lb,W1,
  by rw [hW1,hrec,hD];exact run_enterLoop_outer _ _ _ _ _,by simp only [resolve,hg];simp [go_sem],fun f' hf=>by simp [Target.leads] at hf;subst hf;exact hFg,by simp [invoke,go_sem,eg],fun _=>h1,?_⟩
 refine (hseq (D+1) (fun k W=>I k W∧W.heap[D+1]?=some (.loop (rec .ready none))∧W.heap[D]?=some (.deferred (some [])))
  (fun _ W=>∃c,Ix c W∧W.heap[D+1]?=some (.loop (rec .done (some c)))∧W.heap[D]?=some (.deferred (some []))) W1 (hD ▸ hbel) ?_ ⟨hI1,hL1,hD1⟩).mono ?_
 ·rintro k W hk ⟨hi,hl,hd⟩
  have hy:=run_yield (P:=P) (args:=encs k) hl (by rw [hrec];exact hps k)
  rw [hrec] at hy
  refine ⟨fn,_,assign,body,hy,roundIn_of_wpIn hfn (wpIn_mono (hround (D+1) k W hk hi ⟨⟨_,hD ▸ hl⟩,hD ▸ hd⟩) fun e a' Wa h=>?_)⟩
  cases e with
  | normal =>
   obtain ⟨ha1,ha2,R,hR,hr1,hb⟩:=h
   have hl2:=ha1.same _ _ (by omega) hl rfl
   have hd2:=ha1.same _ _ (by omega) hd rfl
   refine ⟨_,run_beginRound hl2 (by rw [hrec]),?_⟩
   obtain ⟨W2,hW2⟩:∃W2,W2=Wa.putObj (D+1) (.loop { rec .ready none with state:=.busy }):=⟨_,rfl⟩
   have hl3:W2.heap[D+1]?=some (.loop { rec .ready none with state:=.busy }):=by rw [hW2];exact World.putObj_heap_same (d3i.1 hl2).1
   have hd3:W2.heap[D]?=some (.deferred (some [])):=by rw [hW2];exact (World.putObj_heap_other (by omega)).trans hd2
   have hk3:Kp Wa W2:=by rw [hW2];exact hKb _ _ _ _ (by omega) hl2 rfl rfl
   have hr2:R W2:=by rw [hW2];rw [hD] at hl2 ⊢;exact hR _ _ _ hr1 hl2
   rw [←hW2]
   refine wpIn_mono (hb W2 hr2) fun e a3 W3 hp=>?_
   have I5:∀jump:Option Code,KeepsFrom w.heap.size W2 W3→∃W4,W4=W3.putObj (D+1) (.loop (rec (if jump.isNone then .ready else .done) jump))∧(Instr.endRound (D+1) jump).run P W3=.ok (.bool jump.isNone) W4 ∧
     W3.heap[D+1]?=some (.loop { rec .ready none with state:=.busy })∧W4.heap[D+1]?=some (.loop (rec (if jump.isNone then .ready else .done) jump))∧W4.heap[D]?=some (.deferred (some [])):=fun jump hk=>by
    have h3:=hk.same _ _ (by omega) hl3 rfl
    refine ⟨_,rfl,?_,h3,World.putObj_heap_same (d3i.1 h3).1,(World.putObj_heap_other (by omega)).trans (hk.same _ _ (by omega) hd3 rfl)⟩
    have:=run_endRound (P:=P) jump h3
    rw [hrec] at this ⊢
    exact this
   cases e with
   | normal =>
    obtain ⟨h5,h6,h7⟩:=hp
    obtain ⟨W4,e4,hr4,hl4,hl5,hd5⟩:=I5 none h5
    exact ⟨_,W4,hr4,.inl ⟨rfl,⟨by rw [e4];rw [hD] at hl4 ⊢;exact hI _ _ _ _ h7 hl4,hl5,hd5⟩,hKt ha2 (hKt (hKt hk3 h6) (by rw [e4];exact hKb _ _ _ _ (by omega) hl4 rfl rfl))⟩⟩
   | ret =>
    obtain ⟨h5,h7⟩:=hp
    obtain ⟨W4,e4,hr4,hl4,hl5,hd5⟩:=I5 (some .ret) h5
    exact ⟨_,W4,hr4,.inr ⟨rfl,.ret,by rw [e4];rw [hD] at hl4 ⊢;exact hIx _ _ _ _ h7 hl4,hl5,hd5⟩⟩
   | exit i =>
    obtain ⟨h5,h7⟩:=hp
    obtain ⟨W4,e4,hr4,hl4,hl5,hd5⟩:=I5 (some (.exit i)) h5
    exact ⟨_,W4,hr4,.inr ⟨rfl,.exit i,by rw [e4];rw [hD] at hl4 ⊢;exact hIx _ _ _ _ h7 hl4,hl5,hd5⟩⟩
   | goto t=>exact hp.elim
   | panic ch=>exact hp.elim
   | outgrown=>exact hp.elim
  | _=>exact h.elim
 ·rintro e W2 ⟨⟨v,rfl⟩,⟨hi,hl,hd⟩|⟨c,hi,hl,hd⟩⟩
  ·exact ⟨none,_,by have:=run_endLoop (P:=P) hl (by rw [hrec];simp);rw [hrec] at this;exact this,hdone D _ hD (by rw [hD] at hl ⊢;exact hI _ _ _ _ hi hl) ((World.putObj_heap_other (by omega)).trans hd)⟩
  ·exact ⟨some c,_,by have:=run_endLoop (P:=P) hl (by rw [hrec];simp);rw [hrec] at this;exact this,hstop D c _ (by omega) (by rw [hD] at hl ⊢;exact hIx _ _ _ _ hi hl) ((World.putObj_heap_other (by omega)).trans hd)⟩
end
end Go.Proofs.YtahpnackkmbmgaaGreat.Vm
end
section
namespace Go.Proofs.YtahpnackkmbmgaaGreat.Vm
open Go.RowKit Go.Shelf Go.Proofs
attribute [local go_sem] Oper.semAt_some
def KpB (Bs b off m:Nat) (W W':World):Prop:=(∀v,W.cell? ⟨Bs,0,none⟩=some v→W'.cell? ⟨Bs,0,none⟩=some v)∧∀i,i<m→∀v,W.cell? ⟨b,off+i,none⟩=some v→W'.cell? ⟨b,off+i,none⟩=some v
theorem KpB.refl {Bs b off m:Nat} (W:World):KpB Bs b off m W W:=⟨fun _ h=>h,fun _ _ _ h=>h⟩
theorem KpB.trans {Bs b off m:Nat} {A B C:World} (h:KpB Bs b off m A B) (h':KpB Bs b off m B C):KpB Bs b off m A C:=⟨fun v hv=>h'.1 v (h.1 v hv),fun i hi v hv=>h'.2 i hi v (h.2 i hi v hv)⟩
theorem KpB.turn {Bs b off m:Nat} (W:World) (l:Nat) (o o':Obj) (hl:W.heap[l]?=some o) (ho:o.isCells=false):KpB Bs b off m W (W.putObj l o') :=
 ⟨fun v hv=>cell_kept hv (grownBy_putObj' W l o') (fun r e=>by cases e;exact ⟨o,hl,ho⟩),fun i hi v hv=>cell_kept hv (grownBy_putObj' W l o') (fun r e=>by cases e;exact ⟨o,hl,ho⟩)⟩
set_option maxRecDepth 100000 in
set_option maxHeartbeats 4000000 in
theorem c1E (e:Nat→Nat→Value) (F:Fence) (n:Nat) (hf:F.fn 158) (hro:F.round=none) (hn:1≤n) (l Bs b off len cap:Nat) (hreach:len * 80≤140737488351232) (J:Nat→World→Prop) (Jx:Unit→World→Prop)
  (hY:∀(k:Nat) (W:World),k<len→J k W→YieldAt F (n - 1) Tryz.prog l #[.int .i64 ((len - 1 - k:Nat):Int),.agg #[e (len - 1 - k) 0,e (len - 1 - k) 1,e (len - 1 - k) 2,e (len - 1 - k) 3,e (len - 1 - k) 4]] W fun r W' =>
   (r=.returned (.bool true)∧J (k+1) W'∧KpB Bs b off (len * 5) W W')∨(r=.returned (.bool false)∧Jx () W'))
  (W:World) (hBs:W.cell? ⟨Bs,0,none⟩=some (.slice (some ⟨b,off,none⟩) len cap)) (hc:∀j,j<len→∀i,i<5→W.cell? ⟨b,off+(j * 5+i),none⟩=some (e j i)) (h0:J 0 W) :
  CallsIn F n Tryz.prog 158 #[.func (.yield l) #[] #[],.pointer (some ⟨Bs,0,none⟩)] W fun r W'=>(∃v,r=.returned v)∧(J len W'∨Jx () W'):=by
 refine callsIn_of_wp Tryz.func158 rfl hf ?_ hro
 simp only [Tryz.ntmps158,d4j,d2X,d3g,Nat.reduceAdd,Nat.reduceSub,d4u,d4v,d43,d4y,d3L,d3I]
 gi_wp2
 gi_loopw [3] (fun i wr=>∃k r:Nat,k+r=len∧i=.int .i64 ((r:Int) - 1)∧J k wr∧KpB Bs b off (len * 5) W wr)
  (fun i _=>(intOf i+1).toNat)
 case atStart=>exact ⟨0,len,by omega,rfl,h0,KpB.refl W⟩
 case round =>
  obtain ⟨k,r,hk,rfl,hJs,hnx⟩:=hrel
  have hbx:=hnx.1 _ hBs
  cases r with
  | succ q =>
   have eq:(((q+1:Nat):Int) - 1)=(q:Int):=by omega
   have hq:len - 1 - k=q:=by omega
   rw [eq]
   have hy0:=hY k wr (by omega) hJs
   rw [hq] at hy0
   obtain ⟨fn,tmps,assign,body,hy,hR⟩:=hy0
   have h2:∀i,i<5→wr.cell? ⟨b,off+q * 5+i,none⟩=some (e q i):=fun i hi=>by rw [d3W];exact hnx.2 _ (by omega) _ (hc q (by omega) i hi)
   have c0:=h2 0 (by omega)
   have c1:=h2 1 (by omega)
   have c2:=h2 2 (by omega)
   have c3:=h2 3 (by omega)
   have c4:=h2 4 (by omega)
   clear h2 hc hY
   simp only [d4a] at c0
   have hqn:(0:Int)≤(q:Int):=by omega
   have hql:(q:Int)<(len:Int):=by omega
   have hqlt:q<len:=by omega
   gi_wp2
   refine hR.mono ?_
   rintro r W3 (⟨rfl,hJ3,hk3⟩|⟨rfl,hJx3⟩)
   ·gi_wp2
    go_roundw
    case rel=>exact ⟨k+1,q,by omega,by simp,hJ3,hnx.trans hk3⟩
    case measure=>simp [intOf]
   ·gi_wp2
    refine bodyPost_ret (results_none rfl _ _ _) rfl ?_
    exact ⟨⟨_,rfl⟩,.inr hJx3⟩
  | zero =>
   obtain rfl:k=len:=by omega
   clear hY
   gi_wp2
   go_end0
   exact ⟨⟨_,rfl⟩,.inl hJs⟩
set_option maxRecDepth 100000 in
set_option maxHeartbeats 2000000 in
theorem b8L (A:Option Addr) (cap:Nat) (F:Fence) (n:Nat) (hf:F.fn 158) (hro:F.round=none) (l Bs:Nat) (J:World→Prop) (W:World) (hBs:W.cell? ⟨Bs,0,none⟩=some (.slice A 0 cap)) (h0:J W) :
  CallsIn F n Tryz.prog 158 #[.func (.yield l) #[] #[],.pointer (some ⟨Bs,0,none⟩)] W fun e W'=>(∃v,e=.returned v)∧J W':=by
 refine callsIn_of_wp Tryz.func158 rfl hf ?_ hro
 simp only [Tryz.ntmps158,d4j,d2X,d3g,Nat.reduceAdd,Nat.reduceSub,d4u,d4v,d43,d4y,d3L,d3I]
 gi_wp2
 gi_loopw [3] (fun i wr=>i=.int .i64 (-1)∧J wr) (fun _ _=>0)
 case atStart=>exact ⟨rfl,h0⟩
 case round =>
  obtain ⟨rfl,hJs⟩:=hrel
  gi_wp2
  go_end0
  exact ⟨⟨_,rfl⟩,hJs⟩
theorem b8M {I:Nat→Nat→Prop} {w:World} {v:Value} {rows:List (List D)} {Bs:Nat} (hlt:∀b h,I b h→b<w.heap.size) (hv:AtD I w v (.sl 5 rows)) (hBl:Bs<w.heap.size) (hBs:w.cell? ⟨Bs,0,none⟩=some v) (hreach:rows.length * 80≤140737488351232) :
    ∃(b off:Nat) (us:List Value),us.length=rows.length * 5∧(rows≠[]→Up I b (off+rows.length * 5))∧E0 I w us rows.flatten∧(∀r∈rows,r.length=5) ∧
      ∀(F:Fence) (n:Nat),F.fn 158→F.round=none→1≤n→b5R F n Tryz.prog 158 #[.pointer (some ⟨Bs,0,none⟩)] (fun k=>#[.int .i64 ((rows.length - 1 - k:Nat):Int),.agg (((us.drop ((rows.length - 1 - k) * 5)).take 5).toArray)]) (KpB Bs b off (rows.length * 5)) rows.length w:=by
  obtain ⟨A,cap,rfl,hcap,h⟩:=hv.slice
  rcases h with rfl|⟨b,off,us,rfl,hI,hr,hl,hc,hd⟩
  · exact ⟨0,0,[],rfl,fun h=>absurd rfl h,.nil I w,fun r hr=>(by cases hr),fun F n hf hro hn l J Jx W hW hY h0 =>
      (b8L A cap F n hf hro l Bs (J 0) W ((hW.cell (p:=⟨Bs,0,none⟩) hBl).trans hBs) h0).mono fun e W' h=>⟨h.1,.inl h.2⟩⟩
  · refine ⟨b,off,us,hl,fun _=>hI,hd,hr,fun F n hf hro hn l J Jx W hW hY h0=>?_⟩
    have hbl:b<w.heap.size:=by obtain ⟨k,h1,h2⟩:=hI;exact hlt _ _ h2
    refine c1E (fun j i=>us.getD (j * 5+i) undef) F n hf hro hn l Bs b off rows.length cap hreach J Jx (fun k W1 hk hj=>?_) W ((hW.cell (p:=⟨Bs,0,none⟩) hBl).trans hBs) (fun j hj i hi=>?_) h0
    · have:=hY k W1 hk hj
      have hlen:(rows.length - 1 - k) * 5+5≤us.length:=by rw [hl,←d3U];exact d3D _ (by omega)
      have e:((us.drop ((rows.length - 1 - k) * 5)).take 5)=[us.getD ((rows.length - 1 - k) * 5+0) undef,us.getD ((rows.length - 1 - k) * 5+1) undef,us.getD ((rows.length - 1 - k) * 5+2) undef,us.getD ((rows.length - 1 - k) * 5+3) undef,us.getD ((rows.length - 1 - k) * 5+4) undef]:=by
        apply d4c
        intro i
        rw [d32]
        split
        · rename_i hi
          rw [d3y]
          have h3:(rows.length - 1 - k) * 5+i<us.length:=by omega
          have hu:∀j,(rows.length - 1 - k) * 5+j<us.length→us[(rows.length - 1 - k) * 5+j]?=some (us.getD ((rows.length - 1 - k) * 5+j) undef):=fun j hj=>by rw [d3k,d2P hj];rfl
          rw [hu i h3]
          match i,hi with
          | 0,_=>rfl
           | 1,_=>rfl
           | 2,_=>rfl
           | 3,_=>rfl
           | 4,_=>rfl
          
        · rename_i hi
          rw [d3J (by simp;omega)]
      dsimp only at this
      rw [e] at this
      exact this
    · refine (hW.cell (p:=⟨b,off+(j * 5+i),none⟩) hbl).trans ?_
      have h3:j * 5+i<us.length:=by
        have h4:j * 5+5≤rows.length * 5:=by rw [←d3U];exact d3D _ (by omega)
        omega
      have:=hc (j * 5+i) _ (d2P h3)
      rw [this,d3k,d2P h3]
      rfl
end Go.Proofs.YtahpnackkmbmgaaGreat.Vm
end
section
namespace Go.Proofs.YtahpnackkmbmgaaGreat.Vm
open Go.RowKit
set_option maxRecDepth 100000
set_option maxHeartbeats 4000000
section
section
variable {I0:Nat→Nat→Prop} {X:Nat→Prop} {w0:W0} {I:Nat→Nat→Prop} {g:Nat→Value} {s:S} {a:Act} {w:World}
def other:Obj→Bool
 | .cells _ _ _=>false
 | .map _ _=>false
 | _=>true
theorem a0Y {L:Nat} {o:Obj} (hI:∀k,¬I L k):B7 I w (w.putObj L o):=fun b k hb i hi=>by
 have hne:b≠L:=fun e=>hI k (e ▸ hb)
 show (match (w.putObj L o).heap[b]? with|some (.cells c _ _)=>c[i]?|_=>none)=_
 rw [World.putObj_heap_other hne]
 rfl
theorem a2m {L:Nat} {y:Obj} (hl:w.heap[L]?=some y) (hy:other y=true) {k:Nat} {o:O} (h:a0M X w0 I w g k o) (hd:o≠.dead):¬gbl (g k) L:=fun hg=>by
 cases o with
 | dead=>exact hd rfl
 | box cs =>
  obtain ⟨b,us,t,h1,h2,_⟩:=h
  rw [h1] at hg
  obtain rfl:b=L:=hg
  rw [hl] at h2
  rw [Option.some.inj h2] at hy
  cases hy
 | row z e rows =>
  obtain ⟨us,h1,_⟩:=h
  rcases h1.2 with ⟨e0,_⟩|⟨g',cap,cur,e0,_,hh,_⟩
  ·rw [e0] at hg;exact hg.elim
  ·rw [e0] at hg
   have hg:g'=L:=hg
   subst hg
   rw [hl] at hh
   rw [Option.some.inj hh] at hy
   cases hy
 | ob T vs =>
  obtain ⟨b,h1,h2,_⟩:=h
  rw [h1] at hg
  obtain rfl:b=L:=hg
  rw [hl] at h2
  rw [Option.some.inj h2] at hy
  cases hy
 | mp kt es =>
  obtain ⟨b,l,c,h1,h2,_⟩:=h
  rw [h1] at hg
  obtain rfl:b=L:=hg
  rw [hl] at h2
  rw [Option.some.inj h2] at hy
  cases hy
 | it P =>
  obtain ⟨A,n,cap,F,h1,h2,h3,h4⟩:=h
  rw [h1,a2P] at hg
  obtain ⟨c,t,h5⟩:=(h4 L hg).1
  rw [hl] at h5
  rw [Option.some.inj h5] at hy
  cases hy
 | kl ks =>
  obtain ⟨us,h1,_⟩:=h
  rw [h1] at hg
  exact hg.elim
theorem b41 {L:Nat} {y y':Obj} (hl:w.heap[L]?=some y) (hy:other y=true) (hI:∀k,¬I L k) {k:Nat} {o:O} (h:a0M X w0 I w g k o):a0M X w0 I (w.putObj L y') g k o:=by
 cases hd:o with
 | dead=>exact True.intro
 | _ =>
  rw [hd] at h
  exact h.keep (fun _ _ h=>h) (a0Y hI) (fun b hb=>World.putObj_heap_other fun e=>a2m hl hy h (by simp) (e ▸ hb)) (fun b hb h' hh=>hh)
theorem RelI.turned (h:RelI I0 X w0 I g s a w) {L:Nat} {y y':Obj} (hl:w.heap[L]?=some y) (hy:other y=true) (h0:w0.w.heap.size≤L) (hI:∀k,¬I L k):RelI I0 X w0 I g s a (w.putObj L y'):=by
 have hk:=a0Y (w:=w) (o:=y') hI
 refine ⟨h.im,fun b k hb=>⟨?_,(h.lt b k hb).2⟩,⟨h.fr.os,h.fr.tape,h.fr.output,?_,fun b hb hX=>(World.putObj_heap_other (by omega)).trans (h.fr.block b hb hX)⟩,h.kp.trans fun b k hb i hi=>hk b k (h.im b k hb) i hi,h.lo,h.st,fun k o ho=>b41 hl hy hI (h.obj k o ho),h.dis,h.out,h.tmp.mono (fun _ _ h=>h) hk,h.dfr⟩
 ·have:=(h.lt b k hb).1;simpa using this
 ·have:=h.fr.size;simpa using this
end
section
variable {I0:Nat→Nat→Prop} {X:Nat→Prop} {w0:W0} {I:Nat→Nat→Prop} {g:Nat→Value} {s:S} {a:Act} {w:World}
theorem RelI.turnBoth (h:RelI I0 X w0 I g s a w) {L:Nat} {y y0 y':Obj} (hl:w.heap[L]?=some y) (hy:other y=true) (hl0:w0.w.heap[L]?=some y0) (hI:∀k,¬I L k):RelI I0 X ⟨w0.w.putObj L y',w0.g,w0.n,w0.d⟩ I g s a (w.putObj L y'):=by
 have hk:=a0Y (w:=w) (o:=y') hI
 have hk0:=a0Y (w:=w0.w) (o:=y') (I:=I0) (fun k hk=>hI k (h.im L k hk))
 have hM:∀b,a3p X w0 b→a3p X ⟨w0.w.putObj L y',w0.g,w0.n,w0.d⟩ b:=fun b hb=>by
  rcases hb with hb|hb
  ·exact .inl (by simpa using hb)
  ·exact .inr hb
 refine ⟨h.im,fun b k hb=>⟨?_,fun hlt=>(h.lt b k hb).2 (by simpa using hlt)⟩,⟨h.fr.os,h.fr.tape,h.fr.output,?_,fun b hb hX=>?_⟩,?_,h.lo,h.st,fun k o ho=>?_,h.dis,h.out,h.tmp.mono (fun _ _ h=>h) hk,h.dfr.1,?_⟩
 ·have:=(h.lt b k hb).1;simpa using this
 ·have:=h.fr.size;simpa using this
 ·by_cases e:b=L
  ·subst e
   rw [World.putObj_heap_same (d3i.1 hl).1,World.putObj_heap_same (d3i.1 hl0).1]
  ·rw [World.putObj_heap_other e,World.putObj_heap_other e]
   exact h.fr.block b (by simpa using hb) hX
 ·intro b k hb i hi
  exact ((hk b k (h.im b k hb) i hi).trans (h.kp b k hb i hi)).trans (hk0 b k hb i hi).symm
 ·have:=b41 (y':=y') hl hy hI (h.obj k o ho)
  cases o with
  | dead=>exact True.intro
  | box cs=>obtain ⟨b,us,t,h1,h2,h3,h4,h5,h6⟩:=this;exact ⟨b,us,t,h1,h2,h3,h4,h5,hM b h6⟩
  | mp kt es=>obtain ⟨b,l,c,h1,h2,h3,h4,h6⟩:=this;exact ⟨b,l,c,h1,h2,h3,h4,hM b h6⟩
  | it P=>obtain ⟨A,n,cap,F,h1,h2,h3,h4⟩:=this;exact ⟨A,n,cap,F,h1,h2,h3,fun b hb=>⟨(h4 b hb).1,(h4 b hb).2.1,hM b (h4 b hb).2.2⟩⟩
  | kl ks=>exact this
  | ob T vs=>obtain ⟨b,h1,h2,h3,h4⟩:=this;exact ⟨b,h1,h2,h3,hM b h4⟩
  | row z e rows=>obtain ⟨us,h1,h2,h3,h4⟩:=this;exact ⟨us,h1,h2,h3,fun b hb=>⟨(h4 b hb).1,(h4 b hb).2.1,hM b (h4 b hb).2.2⟩⟩
 ·intro t ht
  obtain ⟨h1,h2⟩:=h.dfr.2 t ht
  obtain ⟨gl,ty,c,e1,e2,e3⟩:=c0k h1
  have hne:gl≠L:=fun e=>by
   subst e
   have:=(h.fr.block gl e3 (h2 gl e1)).trans e2
   rw [hl] at this
   injection this with this
   subst this
   cases hy
  exact ⟨c0l e1 ((World.putObj_heap_other hne).trans e2),h2⟩
theorem a68 {B:Nat} {g':Nat→Value} {os:List O} {nn:Nat} {d:List Deferred} {I2:Nat→Nat→Prop} {g2:Nat→Value} {s2:S} {a2:Act} {w2:World} (h:∀k o,os[k]?=some o→a0M X w0 I w g' k o) (hmp:∀j kt es b,os[j]?=some (.mp kt es)→gbl (g' j) b→b<B)
  (h2:RelI I (Xof g' os) ⟨w,g',nn,d⟩ I2 g2 s2 a2 w2):KeepsFrom B w w2:=by
 refine ⟨h2.fr.size,fun k o hk ho hc=>(h2.fr.block k (d3i.1 ho).1 fun ⟨j,x,hj,hd,hb⟩=>?_).trans ho⟩
 have hob:=h j x hj
 cases x with
 | dead=>exact hd rfl
 | box cs =>
  obtain ⟨b,us,t,h1,h2,_⟩:=hob
  rw [h1] at hb
  obtain rfl:b=k:=hb
  rw [ho] at h2
  injection h2 with h2
  rw [h2] at hc
  cases hc
 | row z e rows =>
  obtain ⟨us,h1,_⟩:=hob
  rcases h1.2 with ⟨e0,_⟩|⟨g3,cap,cur,e0,_,hh,_⟩
  ·rw [e0] at hb;exact hb.elim
  ·rw [e0] at hb
   have hb:g3=k:=hb
   subst hb
   rw [ho] at hh
   injection hh with hh
   rw [hh] at hc
   cases hc
 | mp kt es=>have:=hmp j kt es k hj hb;omega
 | ob T vs =>
  obtain ⟨b,h1,h2,_⟩:=hob
  rw [h1] at hb
  obtain rfl:b=k:=hb
  rw [ho] at h2
  injection h2 with h2
  rw [h2] at hc
  cases hc
 | it P =>
  obtain ⟨A,n,cap,F,h1,h2,h3,h4⟩:=hob
  rw [h1,a2P] at hb
  obtain ⟨c,t,h5⟩:=(h4 k hb).1
  rw [ho] at h5
  injection h5 with h5
  rw [h5] at hc
  cases hc
 | kl ks =>
  obtain ⟨us,h1,_⟩:=hob
  rw [h1] at hb
  exact hb.elim
end
def b42:O→Bool
 | .mp _ _=>true
 | _=>false
def a1N:List O→List O→Bool
 | _,[]=>true
 | [],o::l=>match b42 o with|true=>false|false=>a1N [] l
 | x::k,o::l=>match b42 o with|true=>(match b42 x with|true=>a1N k l|false=>false)|false=>a1N k l
theorem c4m {o:O} (h:b42 o=true):∃kt es,o=.mp kt es:=by
 cases o with
 | mp kt es=>exact ⟨kt,es,rfl⟩
 | _=>cases h
theorem a69:∀ {k l:List O} {j:Nat} {kt:Nat} {es:List (R×R)},a1N k l=true→l[j]?=some (.mp kt es)→∃kt' es',k[j]?=some (.mp kt' es')
 | _,[],j,_,_,_,h=>by simp at h
 | [],o::l,j,kt,es,hs,h=>by
  simp only [a1N] at hs
  cases ho:b42 o with
  | true=>rw [ho] at hs;cases hs
  | false =>
   rw [ho] at hs
   cases j with
   | zero=>simp at h;subst h;cases ho
   | succ j =>
    obtain ⟨a,b,hx⟩:=a69 hs (show l[j]?=_ by simpa using h)
    simp at hx
 | x::k,o::l,j,kt,es,hs,h=>by
  simp only [a1N] at hs
  cases j with
  | zero =>
   simp at h
   subst h
   cases hx:b42 x with
   | true=>obtain ⟨a,b,rfl⟩:=c4m hx;exact ⟨a,b,rfl⟩
   | false=>rw [hx] at hs;cases hs
  | succ j =>
   have hs':a1N k l=true:=by
    cases ho:b42 o with
    | true =>
     rw [ho] at hs
     cases hx:b42 x with
     | true=>rw [hx] at hs;exact hs
     | false=>rw [hx] at hs;cases hs
    | false=>rw [ho] at hs;exact hs
   obtain ⟨a,b,hx⟩:=a69 hs' (show l[j]?=_ by simpa using h)
   exact ⟨a,b,by simpa using hx⟩
def a9U (ks1 ks2:List Nat) (n:Nat) (o o':List O) (m:Nat) (s2:S):Prop:=A9 s2.o m=.kl ks1∧A9 s2.o n=.kl ks2∧a5i n s2.o=o'∧a2U n o'=true∧a1N o o'=true
def c1F (n:Nat) (o o':List O) (m:Nat) (s2:S):Prop:=A9 s2.o m=.kl []∧A9 s2.o n=.kl []∧a5i n s2.o=o'∧a2U n o'=true∧a1N o o'=true
def b5S (ks1 ks2:List Nat) (asg bdy:Code) (tk:List V) (o o':List O):Prop :=
 E1 f7 asg ⟨tk,A1 o (.kl [])⟩ (fun x s1=>x=.normal∧a1N o s1.o=true∧E1 f7 bdy ⟨s1.t,A1 s1.o (.kl [])⟩ (fun x s2=>x=.normal∧a9U ks1 ks2 (r8 o) o o' (r8 s1.o) s2))
def c7b (asg bdy:Code) (tk:List V) (o o':List O):Prop :=
 E1 f7 asg ⟨tk,A1 o (.kl [])⟩ (fun x s1=>x=.normal∧a1N o s1.o=true∧E1 f7 bdy ⟨s1.t,A1 s1.o (.kl [])⟩ (fun x s2=>x=.normal∧c1F (r8 o) o o' (r8 s1.o) s2))
section
variable {I0:Nat→Nat→Prop} {X:Nat→Prop} {w0:W0} {I:Nat→Nat→Prop} {g:Nat→Value} {t:List V} {o:List O} {a:Act} {W:World}
def a34 (I0:Nat→Nat→Prop) (X:Nat→Prop) (w0:W0) (I:Nat→Nat→Prop) (L B:Nat) (t:List V) (a:Act) (o:List O) (W:World):Prop :=
 ∃I' g',(∀b k,I b k→I' b k)∧(∀k,¬I' L k∧¬I' B k)∧RelI I0 X w0 I' g' ⟨t,o⟩ a W∧∀j kt es b,o[j]?=some (.mp kt es)→gbl (g' j) b→b<B
theorem c1G {asg bdy:Code} {ro:Option Nat} {n L B:Nat} {r:Loop} {us:List Value} {tk:List V} {o':List O} {ks1 ks2:List Nat} (hA:w8 Tryz.prog asg=true) (hB:w8 Tryz.prog bdy=true)
  (h:RelI I0 X w0 I g ⟨t,o⟩ a W) (hL:W.heap[L]?=some (.loop r)) {dd:Option (List Deferred)} (hD:W.heap[B]?=some (.deferred dd)) (hL0:w0.w.heap.size≤L) (hI2:∀k,¬I L k∧¬I B k) (hmp:∀j kt es b,o[j]?=some (.mp kt es)→gbl (g j) b→b<B) (hv:m8 I W g us tk) (ht:C0 ks2 t=t) (hx:b5S ks1 ks2 asg bdy tk o o') :
  asg.wpIn (FW ro) n Tryz.prog (Exit.then (fun a' W1=>KeepsFrom B W W1∧B7 I W W1∧∃R:World→Prop,b40 L R∧R W1∧∀W2,R W2→bdy.wpIn (FW ro) n Tryz.prog (c1D B (B7 I) (a34 I0 X w0 I L B t a o') (fun _ _=>False) W2) a' W2) (fun _ _ _=>False)) { tmps:=us.toArray,defers:=[] } W:=by
 obtain ⟨g',hg,hgn,h1⟩:=h.rebase hv
 have hLt:L<W.heap.size:=(d3i.1 hL).1
 have hDt:B<W.heap.size:=(d3i.1 hD).1
 have hIL:∀k,¬I L k:=fun k=>(hI2 k).1
 have hmp1:∀j kt es b,(A1 o (.kl []))[j]?=some (.mp kt es)→gbl (g' j) b→b<B:=fun j kt es b hj hb=>by
  rw [a1u] at hj
  have hlt:j<o.length:=by
   have:=(d2Q.1 hj).1
   rw [d2R,d4e] at this
   rcases d3M j o.length with h|h
   ·exact h
   ·have:j=o.length:=by omega
    subst this
    simp at hj
  rw [d3n hlt] at hj
  rw [hg j hlt] at hb
  exact hmp j kt es b hj hb
 have hXL:¬Xof g' (A1 o (.kl [])) L:=fun ⟨j,x,hj,hd,hb⟩=>a2m hL rfl (h1.obj j x hj) hd hb
 have hXD:¬Xof g' (A1 o (.kl [])) B:=fun ⟨j,x,hj,hd,hb⟩=>a2m hD rfl (h1.obj j x hj) hd hb
 refine N6 asg _ _ _ _ _ hA ⟨I,g',h1⟩ hx fun e s1 a' W1 hr hk=>?_
 obtain ⟨he,hms,hx2⟩:=hk
 subst he
 obtain ⟨I1,g1,h1a⟩:=hr
 have hI1L:∀k,¬I1 L k:=fun k hk=>by
  rcases (h1a.lt L k hk).2 hLt with h2|h2
  ·exact hIL k h2
  ·exact hXL h2
 have hI1D:∀k,¬I1 B k:=fun k hk=>by
  rcases (h1a.lt B k hk).2 hDt with h2|h2
  ·exact (hI2 k).2 h2
  ·exact hXD h2
 have hmp2:∀j kt es b,s1.o[j]?=some (.mp kt es)→gbl (g1 j) b→b<B:=fun j kt es b hj hb=>by
  obtain ⟨kt',es',ho⟩:=a69 hms hj
  have hlt:=(d2Q.1 ho).1
  obtain ⟨b0,l0,c0,e0,_⟩:=h.obj j _ ho
  have e1:=hg j hlt
  rw [e0] at e1
  have e2:=h1a.st j (Nat.lt_succ_of_lt hlt) (by show a0p (g' j)=true;rw [e1];rfl)
  have e2:g1 j=g' j:=e2
  rw [e2,e1] at hb
  exact hmp j kt' es' b ho (by rw [e0];exact hb)
 refine ⟨a68 h1.obj hmp1 h1a,h1a.kp,fun W2=>∃(Wb:World) (rb r2:Loop),RelI I0 X w0 I g ⟨t,o⟩ a Wb∧Wb.heap[L]?=some (.loop rb)∧W2.heap[L]?=some (.loop r2)∧(B≠L→W2.heap[B]?=some (.deferred dd))∧RelI I (Xof g' (A1 o (.kl []))) ⟨Wb,g',o.length+1,[]⟩ I1 g1 s1 a' W2,?_,?_,?_⟩
 ·rintro W2 r3 r' ⟨Wb,rb,r2,b1,b2,b3,bd,b4⟩ hl
  exact ⟨Wb.putObj L (.loop r'),r',r',b1.turned b2 rfl hL0 hIL,World.putObj_heap_same (d3i.1 b2).1,World.putObj_heap_same (d3i.1 b3).1,fun hne=>(World.putObj_heap_other hne).trans (bd hne),b4.turnBoth hl rfl b2 hI1L⟩
 ·exact ⟨W,r,r,h,hL,(h1a.fr.block L hLt hXL).trans hL,fun _=>(h1a.fr.block B hDt hXD).trans hD,h1a⟩
 ·rintro W2 ⟨Wb,rb,r2,b1,b2,b3,bd,b4⟩
  have hne:B≠L:=fun e=>by rw [e,hL] at hD;cases hD
  have bd:=bd hne
  obtain ⟨g3,hg3,hgn3,h5⟩:=b4.rebase b4.tmp
  have ea:({ tmps:=a'.tmps.toList.toArray,defers:=[] }:Act)=a':=by
   have:=b4.dfr.1
   cases a'
   simp only at this
   subst this
   rfl
  rw [ea] at h5
  have hmp3:∀j kt es b,(A1 s1.o (.kl []))[j]?=some (.mp kt es)→gbl (g3 j) b→b<B:=fun j kt es b hj hb=>by
   rw [a1u] at hj
   have hlt:j<s1.o.length:=by
    have:=(d2Q.1 hj).1
    rw [d2R,d4e] at this
    rcases d3M j s1.o.length with h|h
    ·exact h
    ·have:j=s1.o.length:=by omega
     subst this
     simp at hj
   rw [d3n hlt] at hj
   rw [hg3 j hlt] at hb
   exact hmp2 j kt es b hj hb
  refine N6 bdy _ _ _ _ _ hB ⟨I1,g3,h5⟩ hx2 fun e s2 a3 W3 hr hk=>?_
  obtain ⟨he,k1,k2,k3,k4,k5⟩:=hk
  subst he
  obtain ⟨I2,g2,h6⟩:=hr
  have hlo:o.length+1≤s1.o.length:=h1a.lo
  have k1:=B4 k1 (by simp)
  have k2:=B4 k2 (by simp)
  rw [y5] at k1 k2 k3 k4
  rw [a6s] at k3
  obtain ⟨_,h7⟩:=b4.unbase hg3 hgn3 h6 k1
  obtain ⟨hcut,h8⟩:=b1.unbase hg hgn h7 (ks:=ks2) (by rw [d3p (by show s1.o.length≠o.length;omega)];exact k2)
  have e3:((s2.o.set s1.o.length .dead).set o.length .dead).take o.length=o':=by
   rw [d4N (d3b _),d4N (by omega),k3]
  have hl2:o.length<s2.o.length:=(d2Q.1 k2).1
  have h9:=h8.trim (n:=o.length) h.lo (by show o.length≤((s2.o.set _ _).set _ _).length;rw [d3s,d3s];omega) hcut (by show a2U _ (((s2.o.set _ _).set _ _).take _)=true;rw [e3];exact k4)
  have e4:(⟨C0 ks2 t,((s2.o.set s1.o.length .dead).set o.length .dead).take o.length⟩:S)=⟨t,o'⟩:=by rw [e3,ht]
  have h9':RelI I0 X w0 I2 (a6h o.length g2) ⟨t,o'⟩ a W3:=by rw [←e4];exact h9
  refine ⟨a68 h5.obj hmp3 h6,fun b k hb=>h6.kp b k (h1a.im b k hb),I2,a6h o.length g2,h7.im,fun k=>?_,h9',fun j kt es b hj hb=>?_⟩
  ·constructor
   ·intro hk
    rcases (h6.lt L k hk).2 (d3i.1 b3).1 with h2|⟨j,x,hj,hd,hb⟩
    ·exact hI1L k h2
    ·exact a2m b3 rfl (h5.obj j x hj) hd hb
   ·intro hk
    rcases (h6.lt B k hk).2 (d3i.1 bd).1 with h2|⟨j,x,hj,hd,hb⟩
    ·exact hI1D k h2
    ·exact a2m bd rfl (h5.obj j x hj) hd hb
  ·obtain ⟨kt',es',ho⟩:=a69 k5 hj
   have hlt:=(d2Q.1 ho).1
   obtain ⟨b0,l0,c0,e0,_⟩:=h.obj j _ ho
   have e1:=hg j hlt
   rw [e0] at e1
   have e2:g2 j=g' j:=h7.st j (Nat.lt_succ_of_lt hlt) (by show a0p (g' j)=true;rw [e1];rfl)
   rw [show a6h o.length g2 j=g2 j from d2S hlt,e2,e1] at hb
   exact hmp j kt' es' b ho (by rw [e0];exact hb)
end
theorem b18 {s:S} {k i:Nat} (h:Q9 ⟨s.t,s.o.set k .dead⟩ i):Q9 s i:=by
 obtain ⟨o,ho,hd⟩:=h
 by_cases e:k=i
 ·subst e
  rw [List.getElem?_set] at ho
  split at ho
  ·split at ho
   ·exact absurd (Option.some.inj ho).symm hd
   ·cases ho
  ·exact absurd rfl ‹¬_›
 ·exact ⟨o,by simpa [d3p e] using ho,hd⟩
section
variable {I0:Nat→Nat→Prop} {X:Nat→Prop} {w0:W0} {I:Nat→Nat→Prop} {g:Nat→Value} {s:S} {a:Act} {w:World}
theorem RelI.frzBox (h:RelI I0 X w0 I g s a w) {k:Nat} {cs:List V} (hk:s.o[k]?=some (.box cs)):∃(b:Nat) (us:List Value) (t:TypeId×List Value),g k=.pointer (some ⟨b,0,none⟩)∧w.heap[b]?=some (.cells (us++t.2).toArray t.1 (0,0))∧m8 I w g us cs ∧
  RelI I0 X w0 (fun b' n=>I b' n∨(b'=b∧n≤us.length)) g ⟨s.t,s.o.set k .dead⟩ a w:=by
 obtain ⟨b,us,t,h1,h2,h3,h4,h5,h6⟩:=h.obj k _ hk
 have hlk:Q9 s k:=⟨_,hk,by simp⟩
 have hgk:gbl (g k) b:=by rw [h1];rfl
 have hkp:B7 I w w:=B7.refl I w
 refine ⟨b,us,t,h1,h2,h3,fun b n hb=>.inl (h.im b n hb),fun b' n hb=>?_,h.fr,h.kp,by simpa using h.lo,h.st,fun j o hj=>?_,fun i j b hi hj=>h.dis i j b (b18 hi) (b18 hj),fun j hj=>h.out j (by simpa using hj),h.tmp.mono (fun _ _ h=>.inl h) hkp,h.dfr⟩
 ·rcases hb with hb|⟨rfl,_⟩
  ·exact h.lt b' n hb
  ·refine ⟨(d3i.1 h2).1,fun hlt=>.inr ?_⟩
   rcases h6 with hM|hM
   ·omega
   ·exact hM
 ·by_cases hjk:k=j
  ·subst hjk
   have hlt:k<s.o.length:=(d2Q.1 hk).1
   simp only [d30 hlt] at hj
   injection hj with hj
   subst hj
   exact True.intro
  ·simp only [d3p hjk] at hj
   by_cases hd:o=.dead
   ·subst hd;exact True.intro
   refine (h.obj j o hj).keep (fun _ _ h=>.inl h) hkp (fun _ _=>rfl) fun b' hb n hn=>?_
   rcases hn with hn|⟨rfl,_⟩
   ·exact hn
   ·exact absurd (h.dis k j b' hlk ⟨o,hj,hd⟩ hgk hb) hjk
end
section
variable {I0:Nat→Nat→Prop} {X:Nat→Prop} {w0:W0} {I:Nat→Nat→Prop} {g:Nat→Value} {t:List V} {a:Act} {w:World}
theorem a34.turned {L B:Nat} {o:List O} (h0:w0.w.heap.size≤L):b40 L (a34 I0 X w0 I L B t a o):=by
 rintro W r r' ⟨I',g',h1,h2,h3,h4⟩ hl
 exact ⟨I',g',h1,h2,h3.turned hl rfl h0 (fun k=>(h2 k).1),h4⟩
theorem b43 {asg bdy:Code} {n:Nat} {g0:Operand} {p1 p2 gf N:Nat} {lb:Array Value} {u1 u2:Nat→Value} {Kp:World→World→Prop} {st:Nat→List O} {tk:Nat→List V} {Q:Exit→Act→World→Prop} {ks1 ks2:List Nat} (hA:w8 Tryz.prog asg=true) (hB:w8 Tryz.prog bdy=true)
  (h:RelI I0 X w0 I g ⟨t,st 0⟩ a w) (h1:1≤n) (hg:a.eval g0=.func (.func gf) #[] lb) (eg:∀args w,(callFunc gf args).run Tryz.prog w=.ok (.enter gf args) w)
  (hseq:b5R (FW none) (n - 1) Tryz.prog gf lb (fun k=>#[u1 k,u2 k]) Kp N w) (hKt:∀ {A B C:World},Kp A B→Kp B C→Kp A C) (hKb:∀(W:World) (l:Nat) (o o':Obj),w.heap.size≤l→W.heap[l]?=some o→o.isCells=false→o.isWalk=false→Kp W (W.putObj l o')) (hKp:∀W W',B7 I W W'→Kp W W')
  (hv:∀k W I' g',k<N→(∀b j,I b j→I' b j)→B7 I w W→m8 I' W g' a.tmps.toList t→m8 I' W g' ((a.tmps.setIfInBounds p1 (u1 k)).setIfInBounds p2 (u2 k)).toList (tk k))
  (ht:C0 ks2 t=t) (hx:∀k,k<N→b5S ks1 ks2 asg bdy (tk k) (st k) (st (k+1)))
  (hQ:∀(D:Nat) (W:World),D=w.heap.size→a34 I0 X w0 I (w.heap.size+1) w.heap.size t a (st N) W→W.heap[D]?=some (.deferred (some []))→Q .normal { a with defers:={ target:=.collected D,args:=#[] }::a.defers } W) :
  (Code.rangeFunc g0 #[p1,p2] asg bdy).wpIn (FW none) n Tryz.prog Q a w:=by
 obtain ⟨L,hL⟩:∃L,L=w.heap.size+1:=⟨_,rfl⟩
 have hL0:w0.w.heap.size≤L:=by have:=h.fr.size;omega
 have hIL:∀k,¬I L k∧¬I w.heap.size k:=fun k=>⟨fun hk=>by have:=(h.lt L k hk).1;omega,fun hk=>by have:=(h.lt _ k hk).1;omega⟩
 have hIL1:∀k,¬I L k:=fun k=>(hIL k).1
 refine c4l (F:=FW none) rfl h1 hg trivial eg hseq hKt hKb (fun _=>rfl) (fun k W=>a34 I0 X w0 I L w.heap.size t a (st k) W∧B7 I w W) (fun _ _=>False) (fun k W r r' hw hl=>?_) (fun _ _ _ _ hw _=>hw) (fun r=>?_) (fun l k W hk hw hl=>?_) (fun D W hD hw hd=>?_) (fun _ _ _ _ hw _=>hw.elim)
 ·rw [←hL] at hl ⊢
  exact ⟨a34.turned hL0 W r r' hw.1 hl,hw.2.trans (a0Y hIL1)⟩
 ·have hbel:Below w.heap.size w ((w.alloc (.deferred (some []))).alloc (.loop r)):=((Below.refl _ w).alloc (d3b _) _).alloc (by simp) _
  refine ⟨⟨I,g,fun _ _ h=>h,hIL,h.grow hbel (fun _ _ h=>h) (fun _ _ h=>.inl h),fun j kt es b hj hb=>((h.obj j _ hj).blk (by simp) b hb).1⟩,fun b j hb i _=>hbel.cell (p:=⟨b,i,none⟩) (h.lt b j hb).1⟩
 ·obtain ⟨⟨I',g',h2,h3,h4,h5⟩,hk2⟩:=hw
  obtain ⟨⟨r,hl⟩,hdd⟩:=hl
  rw [←hL] at hl
  have key:=c1G (ro:=some l) (n:=n - 1 - 1) hA hB h4 hl hdd hL0 h3 h5 (hv k W I' g' hk h2 hk2 h4.tmp) ht (hx k hk)
  have ez:(#[p1,p2].zip #[u1 k,u2 k]).foldl (fun t (x:Tmp×Value)=>match x with|(p,v)=>t.setIfInBounds p v) a.tmps=(a.tmps.setIfInBounds p1 (u1 k)).setIfInBounds p2 (u2 k):=by simp
  rw [Array.toArray_toList,←ez] at key
  refine wpIn_mono key fun e a' W1 he=>?_
  cases e with
  | normal =>
   obtain ⟨e1,e2,R,e3,e4,e5⟩:=he
   have hkI:∀ {A B:World},B7 I' A B→B7 I A B:=fun h b j hb=>h b j (h2 b j hb)
   refine ⟨e1,hKp _ _ (hkI e2),fun W2=>R W2∧B7 I w W2,?_,⟨e4,hk2.trans (hkI e2)⟩,?_⟩
   ·rintro W2 r1 r2 ⟨f1,f2⟩ hl2
    rw [←hL] at hl2 ⊢
    exact ⟨e3 W2 r1 r2 f1 hl2,f2.trans (a0Y hIL1)⟩
   ·rintro W2 ⟨f1,f2⟩
    refine wpIn_mono (e5 W2 f1) fun e a3 W3 he=>?_
    cases e with
    | normal =>
     obtain ⟨q1,q2,I2,g2,q3,q4,q5,q6⟩:=he
     exact ⟨q1,hKp _ _ (hkI q2),⟨I2,g2,fun b j hb=>q3 b j (h2 b j hb),q4,q5,q6⟩,f2.trans (hkI q2)⟩
    | ret=>exact he
    | exit i=>exact he
    | goto t=>exact he
    | panic c=>exact he
    | outgrown=>exact he
  | ret=>exact he.elim
  | exit i=>exact he.elim
  | goto t=>exact he.elim
  | panic c=>exact he.elim
  | outgrown=>exact he.elim
 ·rw [hL] at hw
  exact hQ D W hD hw.1 hd
theorem c1H {asg bdy:Code} {n:Nat} {g0:Operand} {p1 p2 gf N:Nat} {lb:Array Value} {u1 u2:Nat→Value} {Kp:World→World→Prop} {st:Nat→List O} {tk:Nat→List V} {Q:Exit→Act→World→Prop} (hA:w8 Tryz.prog asg=true) (hB:w8 Tryz.prog bdy=true)
  (h:RelI I0 X w0 I g ⟨t,st 0⟩ a w) (h1:1≤n) (hg:a.eval g0=.func (.func gf) #[] lb) (eg:∀args w,(callFunc gf args).run Tryz.prog w=.ok (.enter gf args) w)
  (hseq:b5R (FW none) (n - 1) Tryz.prog gf lb (fun k=>#[u1 k,u2 k]) Kp N w) (hKt:∀ {A B C:World},Kp A B→Kp B C→Kp A C) (hKb:∀(W:World) (l:Nat) (o o':Obj),w.heap.size≤l→W.heap[l]?=some o→o.isCells=false→o.isWalk=false→Kp W (W.putObj l o')) (hKp:∀W W',B7 I W W'→Kp W W')
  (hv:∀k W I' g',k<N→(∀b j,I b j→I' b j)→B7 I w W→m8 I' W g' a.tmps.toList t→m8 I' W g' ((a.tmps.setIfInBounds p1 (u1 k)).setIfInBounds p2 (u2 k)).toList (tk k))
  (hx:∀k,k<N→c7b asg bdy (tk k) (st k) (st (k+1)))
  (hQ:∀(D:Nat) (W:World),D=w.heap.size→a34 I0 X w0 I (w.heap.size+1) w.heap.size t a (st N) W→W.heap[D]?=some (.deferred (some []))→Q .normal { a with defers:={ target:=.collected D,args:=#[] }::a.defers } W) :
  (Code.rangeFunc g0 #[p1,p2] asg bdy).wpIn (FW none) n Tryz.prog Q a w :=
 b43 (ks1:=[]) (ks2:=[]) hA hB h h1 hg eg hseq hKt hKb hKp hv rfl hx hQ
end
section
variable {I0:Nat→Nat→Prop} {X:Nat→Prop} {w0:W0} {I:Nat→Nat→Prop} {g:Nat→Value} {s:S} {a:Act} {w:World}
theorem RelI.mark (h:RelI I0 X w0 I g s a w) (d:List Deferred):RelI I0 X ⟨w0.w,w0.g,w0.n,d⟩ I g s { a with defers:=d } w :=
 ⟨h.im,h.lt,h.fr,h.kp,h.lo,h.st,h.obj,h.dis,h.out,h.tmp,rfl,h.dfr.2⟩
end
def c9p (l:List ResultVar) (q:List R) (m:Nat):Vm.X→S→Prop
 | .exit _,_=>False
 | _,s=>A9 s.o m=.kl []∧b2w f7 s l q
theorem b8N {c2:Code} {n D:Nat} {fn:Func} {q:List R} {w:World} {I IN:Nat→Nat→Prop} {gN:Nat→Value} {t:List V} {oN:List O} {a:Act} {W:World} (hc:w8 Tryz.prog c2=true) (hr:P3 fn.results.toList=true)
  (h:RelI I (fun _=>False) ⟨w,fun _=>.nilFunc,0,[]⟩ IN gN ⟨t,oN⟩ a W) (hID:∀k,¬IN D k) (hD0:w.heap.size≤D) (hD:W.heap[D]?=some (.deferred (some [])))
  (hx:E1 f7 c2 ⟨t,A1 oN (.kl [])⟩ (fun x s=>c9p fn.results.toList q (r8 oN) x s)) :
  c2.wpIn (FW none) n Tryz.prog (bodyPostM (FW none) n Tryz.prog fn (fun e w'=>∃v,e=.returned v∧a3D (nxt I w w') w' v q∧Below w.heap.size w w')) { a with defers:={ target:=.collected D,args:=#[] }::a.defers } W:=by
 obtain ⟨g',hg,hgn,h1⟩:=h.rebase h.tmp
 have hDt:D<W.heap.size:=(d3i.1 hD).1
 have hXD:¬Xof g' (A1 oN (.kl [])) D:=fun ⟨j,x,hj,hd,hb⟩=>a2m hD rfl (h1.obj j x hj) hd hb
 have h2:=h1.mark [{ target:=.collected D,args:=#[] }]
 have ea:({ ({ tmps:=a.tmps.toList.toArray,defers:=[] }:Act) with defers:=[{ target:=.collected D,args:=#[] }] }:Act)={ a with defers:={ target:=.collected D,args:=#[] }::a.defers }:=by
  have:=h.dfr.1
  cases a
  simp only at this
  subst this
  rfl
 rw [ea] at h2
 refine N6 c2 _ _ _ _ _ hc ⟨IN,g',h2⟩ hx fun e s2 a2 W2 hrel hk=>?_
 obtain ⟨I2,g2,h3⟩:=hrel
 have hD2:W2.heap[D]?=some (.deferred (some [])):=(h3.fr.block D hDt hXD).trans hD
 have hI2D:∀k,¬I2 D k:=fun k hk=>by
  rcases (h3.lt D k hk).2 hDt with h4|h4
  ·exact hID k h4
  ·exact hXD h4
 have key:A9 s2.o (r8 oN)=.kl []∧b2w f7 s2 fn.results.toList q→LeavesInM (FW none) n Tryz.prog fn a2.tmps (fun e w'=>∃v,e=.returned v∧a3D (nxt I w w') w' v q∧Below w.heap.size w w') a2.defers .returning W2:=fun ⟨hkl,hres⟩=>by
  rw [h3.dfr.1]
  have h4:=h3.turnBoth (y':=.deferred none) hD2 rfl hD hI2D
  have h5:=h.turned (y':=.deferred none) hD rfl hD0 hID
  have h6:=h4.mark []
  have hkl:=B4 hkl (by simp)
  rw [y5] at hkl
  obtain ⟨_,h7⟩:=h5.unbase hg hgn h6 hkl
  obtain ⟨v,r1,r2⟩:=a9z h4 hr hres
  refine ⟨by simp,.inl ⟨_,_,rfl,run_takeDeferred hD2,?_⟩⟩
  refine ⟨v,r1,v,rfl,?_,⟨h7.fr.os,h7.fr.tape,h7.fr.output,h7.fr.size,fun b hb=>h7.fr.block b hb (fun hx=>hx)⟩⟩
  have hnx:∀b k,I2 b k→nxt I w _ b k:=fun b k hbk=>by
   obtain ⟨h3,h4⟩:=h7.lt b k hbk
   rcases d3M b w.heap.size with hlt|hge
   ·exact .inl ((h4 hlt).resolve_right (fun hx=>hx))
   ·exact .inr ⟨hge,h3⟩
  match q,r2 with
  | [],⟨us,e,hu⟩=>exact ⟨us,e,hu.mono hnx (B7.refl _ _)⟩
  | [r],hu=>exact AtR.mono hnx (B7.refl _ _) hu
  | r::r'::q,⟨us,e,hu⟩=>exact ⟨us,e,hu.mono hnx (B7.refl _ _)⟩
 cases e with
 | normal=>exact key hk
 | exit i=>exact hk.elim
 | ret=>exact key hk
theorem b5T {f:Nat} {fn:Func} {c0 c1 cp c2 asg bdy:Code} {bi:Nat} {g0:Operand} {ps:Array Tmp} {rs q:List R} {Pre:S→Prop} (hf:Tryz.prog.funcs[f]?=some fn)
  (hb:fn.body=some (.seq c0 (.seq c1 (.seq (.seq cp (.block bi (.rangeFunc g0 ps asg bdy))) c2)))) (hn:(fn.name != "runtime.NumGoroutine")=true) (h0:w8 Tryz.prog c0=true) (h1:w8 Tryz.prog c1=true) (hp:w8 Tryz.prog cp=true)
  (hpre:E1 f7 (.seq c0 (.seq c1 cp)) (a5h rs (fn.ntmps - F4 rs)) (fun x s=>x=.normal∧Pre s))
  (hmid:∀(I I':Nat→Nat→Prop) (g:Nat→Value) (w W:World) (s:S) (a:Act),Pre s→RelI I (fun _=>False) ⟨w,fun _=>.nilFunc,0,[]⟩ I' g s a W →
   (Code.rangeFunc g0 ps asg bdy).wpIn (FW none) 3 Tryz.prog (Exit.inBlock bi (Exit.then (c2.wpIn (FW none) 3 Tryz.prog (bodyPostM (FW none) 3 Tryz.prog fn (fun e w'=>∃v,e=.returned v∧a3D (nxt I w w') w' v q∧Below w.heap.size w w')))
    (bodyPostM (FW none) 3 Tryz.prog fn (fun e w'=>∃v,e=.returned v∧a3D (nxt I w w') w' v q∧Below w.heap.size w w')))) a W):o9 f rs q:=by
 refine ⟨by unfold a3s;rw [hf];simp only [hn,hb];rfl,?_⟩
 intro I w args hI hat
 have hlen:=hat.len
 have hsz:args.toArray.size=F4 rs:=by rw [L9];simp [hlen]
 refine callsIn_wide.1 (callsIn_of_wp_marks (n:=3) hf hb trivial ?_)
 rw [hsz]
 have hst:=b3Q hI hat (fn.ntmps - F4 rs)
 refine wpIn_seq (N6 (ro:=none) c0 _ _ _ _ _ h0 ⟨I,_,hst⟩ hpre fun e s1 a1 W1 hr1 hk1=>?_)
 cases e with
 | normal =>
  obtain ⟨F1,hg1,hk1⟩:=hk1
  obtain ⟨z1,hf1,hr1'⟩:=hg1 _ _ _ _ _ hr1
  refine wpIn_seq (N6 (ro:=none) c1 _ _ _ _ _ h1 hr1' (hk1 z1 hf1) fun e s2 a2 W2 hr2 hk2=>?_)
  cases e with
  | normal =>
   obtain ⟨F2,hg2,hk2⟩:=hk2
   obtain ⟨z2,hf2,hr2'⟩:=hg2 _ _ _ _ _ hr2
   refine wpIn_seq (wpIn_seq (N6 (ro:=none) cp _ _ _ _ _ hp hr2' (hk2 z2 hf2) fun e s3 a3 W3 hr3 hk3=>?_))
   obtain ⟨he,hP⟩:=hk3
   subst he
   obtain ⟨I',g',h3⟩:=hr3
   exact wpIn_block (hmid I I' g' w W3 s3 a3 hP h3)
  | exit i=>exact absurd hk2.1 (by simp)
  | ret=>exact absurd hk2.1 (by simp)
 | exit i=>exact absurd hk1.1 (by simp)
 | ret=>exact absurd hk1.1 (by simp)
end
section
def M9:Code→Code
 | .seq c _=>c
 | c=>c
def w9:Code→Code
 | .seq _ c=>c
 | c=>c
def jT (rows:List (List D)) (d0 d1 d2 d3:D):List V:=[.d (.sl 5 rows),.ag [.d d0,.d d1,.d d2,.d d3],.tu [],.ptr 0 0,.ptr 1 0,.ptr 2 0,.tu [],.tu [],.ag [.d d0,.d d1,.d d2,.d d3],.ag [.d d0,.d d1,.d d2,.d d3],.d (.sl 5 rows),
 .cl 158 [4],.tu [],.tu [],.tu [],.tu [],.tu [],.tu [],.tu [],.tu [],.tu [],.tu [],.tu []]
def jO (d0 d1 d2 d3:D) (acc:List V) (b:O):List O:=[.box [.d d0,.d d1,.d d2,.d d3],.box [.d (.sc (.int .u8 0)),.d (.sc (.string ⟨#[]⟩)),.d (.sc (.int .i64 0)),.em],.box acc,.dead,b]
set_option maxRecDepth 100000
set_option maxHeartbeats 4000000
theorem c1I (rows:List (List D)) (d0 d1 d2 d3:D) (hcp:o9 147 [.ag [d0,d1,d2,d3]] [.ag [d0,d1,d2,d3]]) (P:S→Prop) (hP:P ⟨jT rows d0 d1 d2 d3,jO d0 d1 d2 d3 [.d d0,.d d1,.d d2,.d d3] (.box [.d (.sl 5 rows)])⟩):∀qa qb qc qd qe qg qh qi qj qk ql qm qo qp qq qt qu qv qw qx qy qz va vc vd ve vf vg vh vj vk vl vm vn vo vp vq vr vt vu vv vw vx,Ar.mk qa qb qc qd qe qg qh qi qj qk ql qm qo qp qq qt qu qv qw qx qy qz va vc vd ve vf vg vh vj vk vl vm vn vo vp vq vr vt vu vv vw vx=f7→E1 (Ar.mk qa qb qc qd qe qg qh qi qj qk ql qm qo qp qq qt qu qv qw qx qy qz va vc vd ve vf vg vh vj vk vl vm vn vo vp vq vr vt vu vv vw vx) (.seq (M9 (Tryz.f139.body.getD .skip)) (.seq (M9 (w9 (Tryz.f139.body.getD .skip))) (M9 (M9 (w9 (w9 (Tryz.f139.body.getD .skip)))))))
  (a5h [.one (.sl 5 rows),.ag [d0,d1,d2,d3]] (Tryz.f139.ntmps - F4 [R.one (.sl 5 rows),.ag [d0,d1,d2,d3]])) (fun x s=>x=.normal∧P s):=by
 intro _ _ _ _ _ _ _ _ _ _ _ _ _ _ _ _ _ _ _ _ _ _ _ _ _ _ _ _ _ _ _ _ _ _ _ _ _ _ _ _ _ vw _ hA
 cbv
 repeat ((with_reducible apply f8 hA);cbv)
 refine f9 hA _ hcp ?_ ?_
 ·rfl
 cbv
 repeat ((with_reducible apply f8 hA);cbv)
 refine a93 hA Tryz.func148 rfl (by kernel_rfl) (by kernel_rfl) (by kernel_rfl) ?_
 cbv
 repeat ((with_reducible apply f8 hA);cbv)
 exact hP
def a2n:Code→Code
 | .block _ (.rangeFunc _ _ a _)=>a
 | c=>c
def a2o:Code→Code
 | .block _ (.rangeFunc _ _ _ b)=>b
 | c=>c
theorem b5U (rows:List (List D)) (d0 d1 d2 d3 a0 a1 a2 a3 nm c0 c1 c2 c3:D) (i:Int) (hcp:o9 147 [.ag [c0,c1,c2,c3]] [.ag [c0,c1,c2,c3]]):∀qa qb qc qd qe qg qh qi qj qk ql qm qo qp qq qt qu qv qw qx qy qz va vc vd ve vf vg vh vj vk vl vm vn vo vp vq vr vt vu vv vw vx,Ar.mk qa qb qc qd qe qg qh qi qj qk ql qm qo qp qq qt qu qv qw qx qy qz va vc vd ve vf vg vh vj vk vl vm vn vo vp vq vr vt vu vv vw vx=f7 →
  E1 (Ar.mk qa qb qc qd qe qg qh qi qj qk ql qm qo qp qq qt qu qv qw qx qy qz va vc vd ve vf vg vh vj vk vl vm vn vo vp vq vr vt vu vv vw vx) (a2n (w9 (M9 (w9 (w9 (Tryz.f139.body.getD .skip)))))) ⟨H0 (H0 (jT rows d0 d1 d2 d3) 12 (vi .i64 i)) 13 (.ag [.d nm,.d c0,.d c1,.d c2,.d c3]),A1 (jO d0 d1 d2 d3 [.d a0,.d a1,.d a2,.d a3] .dead) (.kl [])⟩
   (fun x s1=>x=.normal∧a1N (jO d0 d1 d2 d3 [.d a0,.d a1,.d a2,.d a3] .dead) s1.o=true∧E1 (Ar.mk qa qb qc qd qe qg qh qi qj qk ql qm qo qp qq qt qu qv qw qx qy qz va vc vd ve vf vg vh vj vk vl vm vn vo vp vq vr vt vu vv vw vx) (a2o (w9 (M9 (w9 (w9 (Tryz.f139.body.getD .skip)))))) ⟨s1.t,A1 s1.o (.kl [])⟩ (fun x s2=>x=.normal ∧
    c1F 5 (jO d0 d1 d2 d3 [.d a0,.d a1,.d a2,.d a3] .dead) (jO d0 d1 d2 d3 [.d (.sc (.int .u8 11)),.d nm,.d (.sc (.int .i64 0)),.d (.sl 4 [[c0,c1,c2,c3],[a0,a1,a2,a3]])] .dead) (r8 s1.o) s2)):=by
 intro _ _ _ _ _ _ _ _ _ _ _ _ _ _ _ _ _ _ _ _ _ _ _ _ _ _ _ _ _ _ _ _ _ _ _ _ _ _ _ _ _ vw _ hA
 cbv
 repeat ((with_reducible apply f8 hA);cbv)
 refine i7 hA _ hcp ?_
 cbv
 repeat ((with_reducible first|apply f8 hA|apply A6 hA true);cbv)
 exact ⟨rfl,trivial⟩
def a6A:List (List D)→List D→List D
 | [],tl=>tl
 | r::rows,tl=>[.sc (.int .u8 11),r.headD (.sl 0 []),.sc (.int .i64 0),.sl 4 [r.tail,a6A rows tl]]
theorem a9V (rows:List (List D)) (d0 d1 d2 d3:D):∃a0 a1 a2 a3,a6A rows [d0,d1,d2,d3]=[a0,a1,a2,a3]:=by
 cases rows <;> exact ⟨_,_,_,_,rfl⟩
def b0E (rows:List (List D)) (tl:List D) (k:Nat):List D:=a6A (rows.drop (rows.length - k)) tl
theorem b8O {rows:List (List D)} {tl r:List D} {k:Nat} (hk:k<rows.length) (hr:rows[rows.length - 1 - k]?=some r):b0E rows tl (k+1)=a6A (r::rows.drop (rows.length - k)) tl:=by
 have h1:rows.length - (k+1)<rows.length:=by omega
 have h2:=d3r h1
 have e1:rows.length - 1 - k=rows.length - (k+1):=by omega
 rw [e1,d2P h1] at hr
 rw [b0E,h2,Option.some.inj hr,show rows.length - (k+1)+1=rows.length - k by omega]
theorem b5V {W:World} {b:Nat} {us:Array Value} {t:TypeId} {m:Nat×Nat} {i:Nat} (h:W.heap[b]?=some (.cells us t m)):W.cell? ⟨b,i,none⟩=us[i]?:=by
 show (match W.heap[b]? with|some (.cells c _ _)=>c[i]?|_=>none)=_
 rw [h]
theorem c1J (rows:List (List D)) (d0 d1 d2 d3 a0 a1 a2 a3:D):∀qa qb qc qd qe qg qh qi qj qk ql qm qo qp qq qt qu qv qw qx qy qz va vc vd ve vf vg vh vj vk vl vm vn vo vp vq vr vt vu vv vw vx,Ar.mk qa qb qc qd qe qg qh qi qj qk ql qm qo qp qq qt qu qv qw qx qy qz va vc vd ve vf vg vh vj vk vl vm vn vo vp vq vr vt vu vv vw vx=f7→E1 (Ar.mk qa qb qc qd qe qg qh qi qj qk ql qm qo qp qq qt qu qv qw qx qy qz va vc vd ve vf vg vh vj vk vl vm vn vo vp vq vr vt vu vv vw vx) (w9 (w9 (w9 (Tryz.f139.body.getD .skip)))) ⟨jT rows d0 d1 d2 d3,A1 (jO d0 d1 d2 d3 [.d a0,.d a1,.d a2,.d a3] .dead) (.kl [])⟩
  (fun x s=>c9p Tryz.f139.results.toList [.ag [a0,a1,a2,a3]] 5 x s):=by
 intro _ _ _ _ _ _ _ _ _ _ _ _ _ _ _ _ _ _ _ _ _ _ _ _ _ _ _ _ _ _ _ _ _ _ _ _ _ _ _ _ _ vw _ hA
 cbv
 repeat ((with_reducible apply f8 hA);cbv)
end
theorem c4n:Tryz.f139.body=some (.seq (M9 (Tryz.f139.body.getD .skip)) (.seq (M9 (w9 (Tryz.f139.body.getD .skip))) (.seq (.seq (M9 (M9 (w9 (w9 (Tryz.f139.body.getD .skip))))) (.block 0 (.rangeFunc (.tmp 11) #[12,13] (a2n (w9 (M9 (w9 (w9 (Tryz.f139.body.getD .skip)))))) (a2o (w9 (M9 (w9 (w9 (Tryz.f139.body.getD .skip))))))))) (w9 (w9 (w9 (Tryz.f139.body.getD .skip))))))):=by kernel_rfl
theorem c4o:(Tryz.f139.name != "runtime.NumGoroutine")=true:=by kernel_rfl
theorem c4p:w8 Tryz.prog (M9 (Tryz.f139.body.getD .skip))=true:=by kernel_rfl
theorem c4q:w8 Tryz.prog (M9 (w9 (Tryz.f139.body.getD .skip)))=true:=by kernel_rfl
theorem c4r:w8 Tryz.prog (M9 (M9 (w9 (w9 (Tryz.f139.body.getD .skip)))))=true:=by kernel_rfl
theorem c4s:w8 Tryz.prog (w9 (w9 (w9 (Tryz.f139.body.getD .skip))))=true:=by kernel_rfl
theorem c4t:P3 Tryz.f139.results.toList=true:=by kernel_rfl
theorem c4u:w8 Tryz.prog (a2n (w9 (M9 (w9 (w9 (Tryz.f139.body.getD .skip))))))=true:=by kernel_rfl
theorem c4v:w8 Tryz.prog (a2o (w9 (M9 (w9 (w9 (Tryz.f139.body.getD .skip))))))=true:=by kernel_rfl
theorem b8P (rows:List (List D)) (d0 d1 d2 d3:D) (hcp:o9 147 [.ag [d0,d1,d2,d3]] [.ag [d0,d1,d2,d3]]) (P:S→Prop) (hP:P ⟨jT rows d0 d1 d2 d3,jO d0 d1 d2 d3 [.d d0,.d d1,.d d2,.d d3] (.box [.d (.sl 5 rows)])⟩) :
  E1 f7 (.seq (M9 (Tryz.f139.body.getD .skip)) (.seq (M9 (w9 (Tryz.f139.body.getD .skip))) (M9 (M9 (w9 (w9 (Tryz.f139.body.getD .skip))))))) (a5h [.one (.sl 5 rows),.ag [d0,d1,d2,d3]] (Tryz.f139.ntmps - F4 [R.one (.sl 5 rows),.ag [d0,d1,d2,d3]])) (fun x s=>x=.normal∧P s) :=
 c1I rows d0 d1 d2 d3 hcp P hP _ _ _ _ _ _ _ _ _ _ _ _ _ _ _ _ _ _ _ _ _ _ _ _ _ _ _ _ _ _ _ _ _ _ _ _ _ _ _ _ _ _ _ rfl
theorem c1K (rows:List (List D)) (d0 d1 d2 d3:D) (hlen:rows.length * 80≤140737488351232) (htl:o9 147 [.ag [d0,d1,d2,d3]] [.ag [d0,d1,d2,d3]]) (hrows:∀r∈rows,∃nm c0 c1 c2 c3,r=[nm,c0,c1,c2,c3]∧o9 147 [.ag [c0,c1,c2,c3]] [.ag [c0,c1,c2,c3]]) :
  o9 139 [.one (.sl 5 rows),.ag [d0,d1,d2,d3]] [.ag (a6A rows [d0,d1,d2,d3])]:=by
 refine b5T (Pre:=fun s=>s=⟨jT rows d0 d1 d2 d3,jO d0 d1 d2 d3 [.d d0,.d d1,.d d2,.d d3] (.box [.d (.sl 5 rows)])⟩) Tryz.func139 c4n c4o c4p c4q c4r ?_ ?_
 ·exact b8P rows d0 d1 d2 d3 htl _ rfl
 intro I I' g w W s a hs h
 subst hs
 obtain ⟨b,us,ty,h1,h2,h3,h4⟩:=h.frzBox (k:=4) rfl
 obtain ⟨v,us',rfl,hv,hn⟩:=h3.uncons
 obtain rfl:=hn.unnil
 have hvD:AtD I' W v (.sl 5 rows):=by cases hv with|d h=>exact h
 have hBs:W.cell? ⟨b,0,none⟩=some v:=b5V h2
 have hbl:b<W.heap.size:=(d3i.1 h2).1
 obtain ⟨bb,off,vs,hl,hup,hds,hr5,hseq⟩:=b8M (fun b k hb=>(h.lt b k hb).1) hvD hbl hBs hlen
 have hcl:a.eval (.tmp 11)=.func (.func 158) #[] #[.pointer (some ⟨b,0,none⟩)]:=by
  have h5:=h4.get (.tmp 11)
  have h5:AtV _ W g (a.eval (.tmp 11)) (.cl 158 [4]):=h5
  generalize a.eval (.tmp 11)=ax at h5 ⊢
  cases h5 with
  | cl f us ks hl hh =>
   match us,hl with
   | [u],_=>rw [(hh 0 u 4 rfl rfl).1,h1]
 have hst0:RelI I (fun _=>False) ⟨w,fun _=>.nilFunc,0,[]⟩ (fun b' n=>I' b' n∨(b'=b∧n≤1)) g ⟨jT rows d0 d1 d2 d3,jO d0 d1 d2 d3 (A7 (b0E rows [d0,d1,d2,d3] 0)) .dead⟩ a W:=by
  have e:b0E rows [d0,d1,d2,d3] 0=[d0,d1,d2,d3]:=by rw [b0E,d3A (by omega)];rfl
  rw [e]
  exact h4
 refine c1H (t:=jT rows d0 d1 d2 d3) (p1:=12) (p2:=13) (gf:=158) (N:=rows.length) (lb:=#[.pointer (some ⟨b,0,none⟩)])
  (u1:=fun k=>.int .i64 ((rows.length - 1 - k:Nat):Int)) (u2:=fun k=>.agg (((vs.drop ((rows.length - 1 - k) * 5)).take 5).toArray)) (Kp:=KpB b bb off (rows.length * 5)) (st:=fun k=>jO d0 d1 d2 d3 (A7 (b0E rows [d0,d1,d2,d3] k)) .dead)
  (tk:=fun k=>H0 (H0 (jT rows d0 d1 d2 d3) 12 (vi .i64 ((rows.length - 1 - k:Nat):Int))) 13 (.ag (A7 (rows.getD (rows.length - 1 - k) []))))
  c4u c4v hst0 (by decide) hcl (enters_of Tryz.func158 (by kernel_rfl) rfl) (hseq (FW none) 2 trivial rfl (by decide)) KpB.trans (fun W l o o' _ hl ho _=>KpB.turn W l o o' hl ho) ?_ ?_ ?_ ?_
 ·intro W1 W2 hk
  refine ⟨fun v hv=>?_,fun i hi v hv=>?_⟩
  ·rw [hk b 1 (.inr ⟨rfl,d3b _⟩) 0 (by decide)]
   exact hv
  ·obtain ⟨n,hn1,hn2⟩:=hup (fun e=>by rw [e] at hi;simp at hi)
   rw [hk bb n (.inl hn2) (off+i) (by omega)]
   exact hv
 ·intro k W1 I1 g1 hk hI1 hk1 hvs
  have hlt:rows.length - 1 - k<rows.length:=by omega
  have e1:∀(ts:Array Value) (i:Nat) (u:Value),(ts.setIfInBounds i u).toList=ts.toList.set i u:=fun ts i u=>by simp
  rw [e1,e1,a1g,a1g]
  refine (hvs.set (.d (.sc _ rfl)) 12).set (Y4 ?_) 13
  refine E0.toV g1 ?_
  have h5:=(hds.drop ((rows.length - 1 - k) * 5)).take 5
  have e2:(rows.flatten.drop ((rows.length - 1 - k) * 5)).take 5=rows.getD (rows.length - 1 - k) []:=by
   have hg:rows[rows.length - 1 - k]?=some (rows.getD (rows.length - 1 - k) []):=by rw [d3k,d2P hlt];rfl
   apply d4c
   intro i
   rw [d32]
   have h6:(rows.getD (rows.length - 1 - k) []).length=5:=hr5 _ (d3e hg)
   split
   ·rename_i hi
    rw [d3y,a1t hr5 hg hi]
   ·rename_i hi
    rw [d3J (by omega)]
  rw [e2] at h5
  exact h5.mono (fun b j hb=>hI1 b j (.inl hb)) (fun b j hb=>hk1 b j (.inl hb))
 ·intro k hk
  have hlt:rows.length - 1 - k<rows.length:=by omega
  have hg:rows[rows.length - 1 - k]?=some (rows.getD (rows.length - 1 - k) []):=by rw [d3k,d2P hlt];rfl
  have ea:=b8O (tl:=[d0,d1,d2,d3]) hk hg
  obtain ⟨nm,c0,c1,c2,c3,er,hsp⟩:=hrows _ (d3e hg)
  obtain ⟨a0,a1,a2,a3,e4⟩:=a9V (rows.drop (rows.length - k)) d0 d1 d2 d3
  have e5:b0E rows [d0,d1,d2,d3] k=[a0,a1,a2,a3]:=e4
  have e6:b0E rows [d0,d1,d2,d3] (k+1)=[.sc (.int .u8 11),nm,.sc (.int .i64 0),.sl 4 [[c0,c1,c2,c3],[a0,a1,a2,a3]]]:=by rw [ea,er];show [_,_,_,D.sl 4 [_,a6A _ _]]=_;rw [e4];rfl
  try dsimp only
  rw [e5,e6,er]
  exact b5U rows d0 d1 d2 d3 a0 a1 a2 a3 nm c0 c1 c2 c3 _ hsp _ _ _ _ _ _ _ _ _ _ _ _ _ _ _ _ _ _ _ _ _ _ _ _ _ _ _ _ _ _ _ _ _ _ _ _ _ _ _ _ _ _ _ rfl
 ·rintro D W1 hD ⟨I1,g1,q1,q2,q3,q4⟩ hd
  obtain ⟨a0,a1,a2,a3,e4⟩:=a9V rows d0 d1 d2 d3
  have e5:b0E rows [d0,d1,d2,d3] rows.length=[a0,a1,a2,a3]:=by rw [b0E,d4k];exact e4
  rw [e4]
  try dsimp only at q3
  rw [e5] at q3
  have hID:∀k,¬I1 D k:=fun k=>by rw [hD];exact (q2 k).2
  have hD0:w.heap.size≤D:=by rw [hD];exact h.fr.size
  refine b8N c4s c4t q3 hID hD0 hd ?_
  exact c1J rows d0 d1 d2 d3 a0 a1 a2 a3 _ _ _ _ _ _ _ _ _ _ _ _ _ _ _ _ _ _ _ _ _ _ _ _ _ _ _ _ _ _ _ _ _ _ _ _ _ _ _ _ _ _ _ rfl
theorem a9W (tl:Ty):∀fs:List (ByteArray×Ty),a6A (rF fs) (cT tl)=cT (a0y fs tl)
 | []=>rfl
 | f::fs=>by
  rw [a5K,cT]
  have ih:=a9W tl fs
  show a6A ((.sc (.string f.1)::cT f.2)::rF fs) (cT tl)=_
  rw [a6A,ih]
  rfl
theorem c1L:∀(m:Nat) (t:Ty),t.parts.length≤m→m≤1048576→(∀x∈t.parts,a0N x)→o9 129 [.ag (cT t)] [.ag (cT (y9 t))]:=by
 intro m
 induction m with
 | zero=>intro t h;have:=H5 t;omega
 | succ m ih =>
  intro t hm hm2 hsp
  have hself:t∈t.parts:=by rw [a0e];exact d2V ..
  have hkl:=T5 t
  obtain ⟨op,nm,n,ks⟩:=t
  generalize ht:Ty.mk op nm n ks=t at *
  have hc:cT t=[.sc (.int .u8 op),.sc (.string nm),.sc (.int .i64 n),.sl 4 (rT ks)]:=by rw [←ht,cT]
  have hks:t.kids=ks:=by rw [←ht];rfl
  rw [hks] at hkl
  by_cases hop:op=11
  ·have hF:=c7a t (hsp t hself) (by omega)
   have hcr:=a7x (t:=t) (by rw [←ht];exact hop)
   have hfs:∀f∈n7 ltF (y7 t),f.2.parts.length≤m∧F3 f.2:=fun f hf=>by
    have h1:=a0u hf
    have h2:=a16 _ t (d3b _) f h1
    have h3:=a5I _ t (d3b _) f h1
    exact ⟨by omega,fun x hx=>hsp x (a4n hx h3)⟩
   have hih:∀f∈n7 ltF (y7 t),o9 129 [.ag (cT f.2)] [.ag (cT (y9 f.2))]:=fun f hf=>ih f.2 (hfs f hf).1 (by omega) (hfs f hf).2
   have hlen:(n7 ltF (y7 t)).length≤1048576:=by
    rw [a3i]
    have:=a4r _ t (d3b _)
    omega
   have htl:(P5 t).parts.length≤1048576:=by
    have h1:=a7P _ t (d3b _) (hsp t hself)
    omega
   rw [hc] at hF ⊢
   obtain ⟨K0,hK0⟩:∃K,K=rT ks:=⟨_,rfl⟩
   rw [←hK0] at hF ⊢
   generalize n7 ltF (y7 t)=L at *
   have hj:=a9W (P5 t) (L.map cfS)
   rw [show a0y (L.map cfS) (P5 t)=y9 t from hcr.symm] at hj
   have hct:=a18 (P5 t) htl
   have hcf:∀r∈rF (L.map cfS),∃nm c0 c1 c2 c3,r=[nm,c0,c1,c2,c3]∧o9 147 [.ag [c0,c1,c2,c3]] [.ag [c0,c1,c2,c3]]:=fun r hr=>by
    obtain ⟨f,hf,rfl⟩:=d4r.1 hr
    obtain ⟨f0,hf0,rfl⟩:=d4r.1 hf
    have h1:=hfs f0 hf0
    have h2:=b12 _ f0.2 (d3b _) h1.2
    have h3:=a18 (y9 f0.2) (by omega)
    obtain ⟨c0,c1,c2,c3,hcc⟩:=l8 (y9 f0.2)
    rw [hcc] at h3
    exact ⟨_,c0,c1,c2,c3,by show D.sc _::cT (y9 f0.2)=_;rw [hcc],h3⟩
   obtain ⟨y0,y1,y2,y3,hy⟩:=l8 (y9 t)
   obtain ⟨q0,q1,q2,q3,hq⟩:=l8 (P5 t)
   rw [hq] at hF hct hj
   rw [hy] at hj ⊢
   have hJ:=c1K (rF (L.map cfS)) q0 q1 q2 q3 (by rw [a1G,d3o];omega) hct hcf
   rw [hj] at hJ
   obtain ⟨M0,hM0⟩:∃M,M=rF L:=⟨_,rfl⟩
   rw [←hM0] at hF
   refine N2 Tryz.func129 rfl fun qa qb qc qd qe qg qh qi qj qk ql qm qo qp qq qt qu qv qw qx qy qz va vc vd ve vf vg vh vj vk vl vm vn vo vp vq vr vt vu vv vw vx hA=>?_
   cbv;refine gn ?_
   have h11:qk op 11=decide (op=11):=by have e:=j7 hA;exact e.2.2.2.2.2.2.2.2 _ _
   rw [d3a hop] at h11
   rw [h11]
   cbv;refine gn ?_
   refine y6 hA [] hF ⟨rfl,rfl,rfl,rfl,rfl,rfl,rfl⟩ ?_
   rintro res os2 ⟨rfl,rfl⟩
   cbv;refine gn ?_
   obtain ⟨e1,e2,e3,e4,e5,e6,e7,e8,e9⟩:=j7 hA
   obtain ⟨r1,r2,r3,r4⟩:=A8 hA
   obtain ⟨m1,m2,m3,m4⟩:=a0U hA
   refine j9 hA (γ:=Int×List (List D)) (fun x=>[(19,vi .i64 x.1),(12,.jk),(14,.jk)]) (fun x=>[(2,.row false 164 x.2)]) (fun x=>∃k:Nat,x.1=(k:Int)∧k≤L.length∧x.2=rF ((L.take k).map cfS++L.drop k)) (fun x=>L.length - x.1.toNat) (0,M0) ?_ ?_ ?_
   ·exact ⟨0,rfl,d3t _,hM0⟩
   ·cbv
   ·intro x hinv
    obtain ⟨z,M⟩:=x
    cbv;refine gn ?_;try simp only [nc] at *
    obtain ⟨k,hz,hk,hM⟩:=hinv
    have hll:va M0=((L.length:Nat):Int):=by rw [r1,hM0,a1G]
    have hlt:qi z (va M0)=decide (k<L.length):=by rw [e7,hll,hz];exact d3l.2 (by omega)
    by_cases h9:k<L.length
    ·rw [d3a h9] at hlt
     obtain ⟨x,hx⟩:∃x,L[k]?=some x:=⟨_,d2P h9⟩
     have hspx:=hih x (d3e hx)
     have hxe:((L.take k).map cfS++L.drop k)[k]?=some x:=by
      rw [d3h (by simp;omega)]
      simp
      rw [d4Q (by omega),d4k,d4a]
      exact hx
     have hset:((L.take k).map cfS++L.drop k).set k (cfS x)=(L.take (k+1)).map cfS++L.drop (k+1):=by
      obtain ⟨hi,e⟩:=d2Q.1 hx
      have e0:k - ((L.take k).map cfS).length=0:=by rw [d3o,d3v];omega
      rw [d4n _ _ (by rw [d3o,d3v];omega),List.take_add_one,hx,d3Q,d37,d3r hi,e0]
      rfl
     obtain ⟨xn,xt⟩:=x
     obtain ⟨x0,x1,x2,x3,hxx⟩:=l8 xt
     obtain ⟨v0,v1,v2,v3,hvv⟩:=l8 (y9 xt)
     simp only at hspx
     rw [hxx,hvv] at hspx
     have gx:vc M z=some [.sc (.string xn),x0,x1,x2,x3]:=by rw [r2,hz,d2S (by omega),hM,show ((k:Int)).toNat=k by omega,b2G hxe,hxx]
     have hz1:qa .i64 (qb z 1)=((k+1:Nat):Int):=by rw [e1,e2,hz,IntWalk.i64_in _ (by omega)];omega
     have hmu:L.length - (qa .i64 (qb z 1)).toNat<L.length - z.toNat:=by rw [hz1,hz];omega
     have hnew:vf M z [.sc (.string xn),v0,v1,v2,v3]=rF ((L.take (k+1)).map cfS++L.drop (k+1)):=by
      rw [m4,←hset,hM,hz,show ((k:Int)).toNat=k by omega]
      unfold rF
      rw [List.map_set]
      show _=List.set _ k (.sc (.string xn)::cT (y9 xt))
      rw [hvv]
     rw [hlt]
     iterate 2 (try cbv;repeat ((first|with_reducible apply f8 hA|rw [gx]|refine f9 hA _ hspx rfl ?_);cbv))
     try simp (maxSteps:=4000000) only [nc] at *
     refine ⟨(qa .i64 (qb z 1),vf M z [.sc (.string xn),v0,v1,v2,v3]),⟨k+1,hz1,h9,hnew⟩,hmu,?_⟩
     cbv
    ·rw [d2U h9] at hlt
     have hM2:M=rF (L.map cfS):=by rw [hM,d31 (by omega),d4z (by omega),d3f]
     rw [←hM2] at hJ
     rw [hlt]
     cbv
     refine c0W hA [2] ?_
     cbv
     repeat (first|(with_reducible apply f8 hA;cbv)|(refine f9 hA _ hJ rfl ?_;cbv))
  ·have hcn:=a5H (t:=t) (by rw [←ht];exact hop)
   rw [hks,show t.op=op by rw [←ht];rfl,show t.name=nm by rw [←ht];rfl,show t.n=n by rw [←ht];rfl] at hcn
   have hih:∀x∈ks,o9 129 [.ag (cT x)] [.ag (cT (y9 x))]:=fun x hx=>by
    have h2:=hkl.2 x hx
    exact ih x (by omega) (by omega) fun y hy=>hsp y (by rw [C4,hks];exact d2W _ (d3K.2 ⟨x,hx,hy⟩))
   rw [hcn,cT,hc]
   obtain ⟨K,hK⟩:∃K,K=rT ks:=⟨_,rfl⟩
   obtain ⟨Q,hQ⟩:∃Q,Q=rT (ks.map y9):=⟨_,rfl⟩
   rw [←hK,←hQ]
   refine N2 Tryz.func129 rfl fun qa qb qc qd qe qg qh qi qj qk ql qm qo qp qq qt qu qv qw qx qy qz va vc vd ve vf vg vh vj vk vl vm vn vo vp vq vr vt vu vv vw vx hA=>?_
   cbv;refine gn ?_
   obtain ⟨e1,e2,e3,e4,e5,e6,e7,e8,e9⟩:=j7 hA
   obtain ⟨r1,r2,r3,r4⟩:=A8 hA
   have h11:qk op 11=decide (op=11):=e9 _ _
   rw [d2U hop] at h11
   rw [h11]
   cbv
   repeat (first|(refine a2j hA 6 27 true rfl ?_;cbv)|(with_reducible apply f8 hA;cbv))
   refine j9 hA (γ:=Int×List (List D)) (fun x=>[(39,vi .i64 x.1),(6,.own 2)]) (fun x=>[(2,.row true 27 x.2)]) (fun x=>∃k:Nat,x.1=(k:Int)∧k≤ks.length∧x.2=rT ((ks.map y9).take k)) (fun x=>ks.length - x.1.toNat) (0,[]) ?_ ?_ ?_
   ·exact ⟨0,rfl,d3t _,rfl⟩
   ·cbv
   ·intro x hinv
    obtain ⟨z,M⟩:=x
    cbv;refine gn ?_;try simp only [nc] at *
    obtain ⟨k,hz,hk,hM⟩:=hinv
    have hll:va K=((ks.length:Nat):Int):=by rw [r1,hK,a0m]
    have hlt:qi z (va K)=decide (k<ks.length):=by rw [e7,hll,hz];exact d3l.2 (by omega)
    by_cases h9:k<ks.length
    ·rw [d3a h9] at hlt
     obtain ⟨x,hx⟩:∃x,ks[k]?=some x:=⟨_,d2P h9⟩
     have hspx:=hih x (d3e hx)
     have hx2:(ks.map y9)[k]?=some (y9 x):=by rw [d3u,hx];rfl
     have hsn:=a82 hx2
     obtain ⟨x0,x1,x2,x3,hxx⟩:=l8 x
     obtain ⟨v0,v1,v2,v3,hvv⟩:=l8 (y9 x)
     rw [hxx,hvv] at hspx
     rw [hvv] at hsn
     have gx:vc K z=some [x0,x1,x2,x3]:=by rw [r2,hz,d2S (by omega),hK,show ((k:Int)).toNat=k by omega,a5F hx,hxx]
     have hz1:qa .i64 (qb z 1)=((k+1:Nat):Int):=by rw [e1,e2,hz,IntWalk.i64_in _ (by omega)];omega
     have hmu:ks.length - (qa .i64 (qb z 1)).toNat<ks.length - z.toNat:=by rw [hz1,hz];omega
     have hnew:ve M [[v0,v1,v2,v3]]=rT ((ks.map y9).take (k+1)):=by rw [r4,hsn,hM]
     have hMl:M.length≤1048576:=by rw [hM,a0m,d3v];omega
     rw [hlt]
     iterate 2 (try cbv;repeat ((first|with_reducible apply f8 hA|rw [gx]|refine i7 hA _ hspx ?_|refine f9 hA _ hspx rfl ?_|refine A6 hA true ?_|(refine B3 hA (by simp only [r4,d2R,d2X,d3g];omega) ?_));cbv))
     try simp (maxSteps:=4000000) only [nc] at *
     refine ⟨(qa .i64 (qb z 1),ve M [[v0,v1,v2,v3]]),⟨k+1,hz1,h9,hnew⟩,hmu,?_⟩
     cbv
    ·rw [d2U h9] at hlt
     have hM2:M=Q:=by rw [hM,hQ,d31 (by rw [d3o];omega)]
     rw [hlt]
     cbv;refine gn ?_
     exact ⟨by rw [hM2],trivial⟩
theorem c1M {t:Ty} (h:∀x∈t.parts,∀y∈t.parts,a7w x y=false):a7O t=true:=by
 unfold a7O
 rw [d3z]
 intro x hx
 rw [d3z]
 intro y hy
 rw [h x hx y hy];rfl
def vbl (t:Ty):Option (Int×Bool):=if t.op=7 then some (t.n,false) else if t.op=10 then some (t.n,true) else none
def b2P {α:Type} (s:Int→Option α) (n:Int) (r:α):Int→Option α:=fun x=>if x=n then some r else s x
def K4:List Ty→(Int→Option Bool)→Option (Int→Option Bool)
 | [],s=>some s
 | t::ts,s=>match vbl t with
  | none=>K4 ts s
  | some p=>if s p.1=some (!p.2) then none else K4 ts (b2P s p.1 p.2)
theorem a4s:∀(a b:List Ty) (s:Int→Option Bool),K4 (a++b) s=(K4 a s).bind (K4 b)
 | [],b,s=>rfl
 | t::ts,b,s=>by
  rw [d3I,K4,K4]
  cases vbl t with
  | none=>exact a4s ts b s
  | some p =>
   simp only
   split
   ·rfl
   ·exact a4s ts b _
theorem b2Q:∀(ts:List Ty) (s:Int→Option Bool),(K4 ts s).isSome=true↔(∀x∈ts,∀p,vbl x=some p→s p.1≠some (!p.2))∧∀x∈ts,∀y∈ts,∀p q,vbl x=some p→vbl y=some q→p.1=q.1→p.2=q.2
 | [],s=>by simp [K4]
 | t::ts,s=>by
  rw [K4]
  cases hv:vbl t with
  | none =>
   simp only
   rw [b2Q ts s]
   constructor
   ·rintro ⟨h1,h2⟩
    refine ⟨fun x hx p hp=>?_,fun x hx y hy p q hp hq e=>?_⟩
    ·rcases d3d.1 hx with rfl|hx
     ·rw [hv] at hp;cases hp
     ·exact h1 x hx p hp
    ·rcases d3d.1 hx with rfl|hx
     ·rw [hv] at hp;cases hp
     ·rcases d3d.1 hy with rfl|hy
      ·rw [hv] at hq;cases hq
      ·exact h2 x hx y hy p q hp hq e
   ·rintro ⟨h1,h2⟩
    exact ⟨fun x hx=>h1 x (d2W _ hx),fun x hx y hy=>h2 x (d2W _ hx) y (d2W _ hy)⟩
  | some p =>
   obtain ⟨n,r⟩:=p
   simp only
   by_cases hs:s n=some (!r)
   ·rw [d2S hs]
    constructor
    ·intro h;cases h
    ·rintro ⟨h1,_⟩
     exact absurd hs (h1 t (d2V ..) _ hv)
   ·rw [d2T hs,b2Q ts]
    constructor
    ·rintro ⟨h1,h2⟩
     have h3:∀x∈ts,∀p,vbl x=some p→p.1=n→p.2=r:=fun x hx p hp e=>by
      have:=h1 x hx p hp
      unfold b2P at this
      rw [d2S e] at this
      cases r <;> cases hp2:p.2 <;> simp_all
     refine ⟨fun x hx p hp=>?_,fun x hx y hy p q hp hq e=>?_⟩
     ·rcases d3d.1 hx with rfl|hx
      ·rw [hv] at hp
       cases hp
       exact hs
      ·by_cases e:p.1=n
       ·rw [h3 x hx p hp e,e];exact hs
       ·have:=h1 x hx p hp
        unfold b2P at this
        rw [d2T e] at this
        exact this
     ·rcases d3d.1 hx with rfl|hx
      ·rw [hv] at hp
       cases hp
       rcases d3d.1 hy with rfl|hy
       ·rw [hv] at hq
        cases hq
        rfl
       ·exact (h3 y hy q hq e.symm).symm
      ·rcases d3d.1 hy with rfl|hy
       ·rw [hv] at hq
        cases hq
        exact h3 x (by assumption) p hp e
       ·exact h2 x (by assumption) y hy p q hp hq e
    ·rintro ⟨h1,h2⟩
     refine ⟨fun x hx p hp=>?_,fun x hx y hy=>h2 x (d2W _ hx) y (d2W _ hy)⟩
     unfold b2P
     by_cases e:p.1=n
     ·rw [d2S e,←h2 t (d2V ..) x (d2W _ hx) (n,r) p hv hp e.symm]
      cases r <;> simp
     ·rw [d2T e]
      exact h1 x (d2W _ hx) p hp
theorem b8Q (t:Ty):(K4 t.parts fun _=>none).isSome=a7O t:=by
 rw [d4w,b2Q]
 constructor
 ·rintro ⟨_,h⟩
  refine c1M fun x hx y hy=>?_
  cases hc:a7w x y with
  | false=>rfl
  | true =>
   unfold a7w at hc
   simp only [d2Z,d3F] at hc
   have:=h x hx y hy (x.n,false) (y.n,true) (by unfold vbl;rw [d2S hc.1]) (by unfold vbl;rw [d2T (by rw [hc.2.1];decide),d2S hc.2.1]) hc.2.2
   cases this
 ·intro h
  refine ⟨by simp,fun x hx y hy p q hp hq e=>?_⟩
  unfold a7O at h
  rw [d3z] at h
  have hxy:=h x hx
  have hyx:=h y hy
  rw [d3z] at hxy hyx
  have h1:=hxy y hy
  have h2:=hyx x hx
  unfold a7w at h1 h2
  unfold vbl at hp hq
  split at hp
  ·rename_i ex
   cases hp
   split at hq
   ·cases hq;rfl
   ·split at hq
    ·rename_i ey
     cases hq
     simp only at e
     simp [ex,ey,e] at h1
    ·cases hq
  ·split at hp
   ·rename_i ex
    cases hp
    split at hq
    ·rename_i ey
     cases hq
     simp only at e
     simp [ex,ey,e] at h2
    ·split at hq
     ·cases hq;rfl
     ·cases hq
   ·cases hp
def kz:Bool→Bool→Bool→Bool→Int
 | true,_,_,_=>1
 | _,true,_,_=>2
 | _,_,true,_=>3
 | _,_,_,true=>4
 | _,_,_,_=>0
theorem a9X (c:Int):o9 51 [.one (.sc (.int .u8 c))] [.one (.sc (.int .i64 (a0d c)))]:=by
 obtain ⟨p,hp⟩:∃p,a09 c=p:=⟨_,rfl⟩
 obtain ⟨q,hq⟩:∃p,a4h c=p:=⟨_,rfl⟩
 obtain ⟨r,hr⟩:∃p,E9 c=p:=⟨_,rfl⟩
 obtain ⟨v,hv⟩:∃p,(c == 95)=p:=⟨_,rfl⟩
 have hb:a0d c=kz p q r v:=by
  unfold a0d
  rw [hp,hq,hr]
  have h4:(c=95)=(v=true):=by rw [←hv];simp
  simp only [h4]
  cases p <;> cases q <;> cases r <;> cases v <;> rfl
 generalize a0d c=b at *
 unfold a09 at hp
 unfold a4h at hq
 unfold E9 at hr
 refine N2 Tryz.func51 rfl ?_;intro _ _ _ _ _ _ _ _ qj;intros;rename_i hA
 cbv;refine gn ?_
 obtain ⟨e1,e2,e3,e4,e5,e6,e7,e8,e9⟩:=j7 hA
 rw [←e8,←e8] at hp hq hr
 rw [←e9] at hv
 cases p
 ·have h:qj 97 c=false∨(qj 97 c=true∧qj c 122=false):=by cases h1:qj 97 c <;> simp_all
  rcases h with h|⟨h,h'⟩
  all_goals
   rw [h]
   cbv;refine gn ?_
   try (rw [h'];cbv)
   cases q
   ·have g:qj 65 c=false∨(qj 65 c=true∧qj c 90=false):=by cases h1:qj 65 c <;> simp_all
    rcases g with g|⟨g,g'⟩
    all_goals
     rw [g]
     cbv;refine gn ?_
     try (rw [g'];cbv)
     cases r
     ·have i:qj 48 c=false∨(qj 48 c=true∧qj c 57=false):=by cases h1:qj 48 c <;> simp_all
      rcases i with i|⟨i,i'⟩
      all_goals
       rw [i]
       cbv;refine gn ?_
       try (rw [i'];cbv)
       rw [hv]
       cases v
       ·cbv;refine gn ?_
        exact c1f hb.symm
       ·cbv;refine gn ?_
        exact c1f hb.symm
     ·have i:qj 48 c=true∧qj c 57=true:=by cases h1:qj 48 c <;> simp_all
      rw [i.1]
      cbv;refine gn ?_
      rw [i.2]
      cbv;refine gn ?_
      exact c1f hb.symm
   ·have g:qj 65 c=true∧qj c 90=true:=by cases h1:qj 65 c <;> simp_all
    rw [g.1]
    cbv;refine gn ?_
    rw [g.2]
    cbv;refine gn ?_
    exact c1f hb.symm
 ·have h:qj 97 c=true∧qj c 122=true:=by cases h1:qj 97 c <;> simp_all
  rw [h.1]
  cbv;refine gn ?_
  rw [h.2]
  cbv;refine gn ?_
  exact c1f hb.symm
theorem c4w (q:Bool) (c:Int):okB q c=!((a0d c == 0) || ((a0d c == 2) || (q && !(a0d c == 1)))):=by
 unfold okB a0d
 have h4:(c=95)=((c == 95)=true):=by simp
 have hs:=a4K c
 have hg:=a4L c
 have hd:=a3e c
 have h9:(c == 95)=true↔c=95:=by simp
 simp only [h4]
 generalize a09 c=a1 at *
 generalize a4h c=a2 at *
 generalize E9 c=a3 at *
 generalize (c == 95)=a4 at *
 cases a1 <;> cases a2 <;> cases a3 <;> cases a4 <;> cases q <;> first|rfl|(exfalso;simp at hs hg hd h9;omega)
theorem c1N (s:ByteArray) (hs:s.size≤4611686018427387904):o9 87 [.one (.sc (.string s))] [.one (.sc (.bool (a0A s)))]:=by
 generalize hb:a0A s=b
 unfold a0A at hb
 refine N2 Tryz.func87 rfl ?_;intro qa qb _ _ _ _ _ qi _ qk _ _ _ _ _ _ qu qv;intros;rename_i hA
 cbv;refine gn ?_
 obtain ⟨e1,e2,e3,e4,e5,e6,e7,e8,e9⟩:=j7 hA
 obtain ⟨s1,s2,s3,s4,s5,s6,-⟩:=G1 hA
 refine j9 hA (γ:=Int) (fun z=>[(3,vi .i64 z)]) (fun _=>[]) (fun z=>∃k:Nat,z=(k:Int)∧k≤s.size∧(okL (k == 0) ((btl s).drop k) && decide (0<s.size))=b) (fun z=>s.size - z.toNat) 0 ?_ ?_ ?_
 ·exact ⟨0,rfl,d3t _,hb⟩
 ·cbv
 ·intro z hinv
  cbv;refine gn ?_
  obtain ⟨k,hz,hk,hE⟩:=hinv
  replace hz:z=(k:Int):=hz
  replace s5:qu s=((s.size:Nat):Int):=s5 s
  have hlt:qi z (qu s)=decide (k<s.size):=by rw [e7,s5,hz];exact d3l.2 (by omega)
  by_cases h9:k<s.size
  ·rw [d3a h9] at hlt
   obtain ⟨c,hc⟩:∃c,(btl s)[k]?=some c:=⟨_,d2P (by rw [a07];exact h9)⟩
   have g1:qv s z=some (c.toNat:Int):=by rw [s6,hz];exact b26 hc
   rw [b5J hc] at hE
   have hd1:=a9X (c.toNat:Int)
   have hz0:qk z 0=(k == 0):=by
    rw [e9,hz]
    cases k with
    | zero=>rfl
    | succ k=>exact d34.2 (by omega)
   have hz1:qa .i64 (qb z 1)=((k+1:Nat):Int):=by rw [e1,e2,hz,IntWalk.i64_in _ (by omega)];omega
   have hm:s.size - (qa .i64 (qb z 1)).toNat<s.size - z.toNat:=by rw [hz1,hz];omega
   rw [c4w] at hE
   generalize a0d (c.toNat:Int)=kk at *
   have k0:qk kk 0=(kk == 0):=e9 _ _
   have k1:qk kk 1=(kk == 1):=e9 _ _
   have k2:qk kk 2=(kk == 2):=e9 _ _
   generalize (c.toNat:Int)=cc at *
   generalize (kk == 0)=p0 at *
   generalize (kk == 1)=p1 at *
   generalize (kk == 2)=p2 at *
   generalize (k == 0)=q0 at *
   rw [hlt]
   cbv;refine gn ?_
   rw [g1]
   cbv;refine gn ?_
   refine f9 hA _ hd1 ?_ ?_
   ·rfl
   cbv;refine gn ?_
   rw [k0]
   cases p0
   ·cbv;refine gn ?_
    rw [k2]
    cases p2
    ·cbv;refine gn ?_
     rw [hz0]
     cases q0
     ·cbv;refine gn ?_
      exact ⟨_,⟨k+1,hz1,h9,hE⟩,hm,by cbv⟩
     ·cbv;refine gn ?_
      rw [k1]
      cases p1
      ·cbv;refine gn ?_
       exact a0c hE
      ·cbv;refine gn ?_
       exact ⟨_,⟨k+1,hz1,h9,hE⟩,hm,by cbv⟩
    ·cbv;refine gn ?_
     exact a0c hE
   ·cbv;refine gn ?_
    exact a0c hE
  ·rw [d2U h9] at hlt
   have hk:k=s.size:=by omega
   rw [hk,d3A (by rw [a07];exact d3b _),okL] at hE
   have hq:qi 0 (qu s)=b:=by
    rw [e7,s5,←hE,d44]
    exact d3l.2 (by omega)
   rw [hlt]
   cbv;refine gn ?_
   rw [hq]
   exact a0c rfl
theorem c5J:o9 49 [] [.one (.sl 1 (rS W9)),.one (.sl 1 (rS H7))]:=by
 refine N2 Tryz.func49 rfl ?_;intros;rename_i hA
 cbv
 repeat ((with_reducible first|apply f8 hA|apply A6 hA true);cbv)
theorem d1p (ws:List ByteArray) (x:ByteArray) (hn:ws.length≤1099511627776):o9 86 [.one (.sl 1 (rS ws)),.one (.sc (.string x))] [.one (.sc (.bool (inB ws x)))]:=by
 obtain ⟨L,hL⟩:∃L,L=rS ws:=⟨_,rfl⟩
 rw [←hL]
 generalize hb:inB ws x=b
 refine N2 Tryz.func86 rfl ?_;intro qa qb _ _ _ _ _ qi _ _ _ qm _ qp _ _ _ _ _ _ _ _ va vc;intros;rename_i hA
 cbv;refine gn ?_
 obtain ⟨e1,e2,e3,e4,e5,e6,e7,e8,e9⟩:=j7 hA
 obtain ⟨s1,s2,s3,s4,s5,s6,-⟩:=G1 hA
 obtain ⟨r1,r2,-⟩:=A8 hA
 refine j9 hA (γ:=Int) (fun z=>[(5,vi .i64 z)]) (fun _=>[]) (fun z=>∃k:Nat,z=(k:Int)∧k≤ws.length∧inB (ws.drop k) x=b) (fun z=>ws.length - z.toNat) 0 ?_ ?_ ?_
 ·exact ⟨0,rfl,d3t _,hb⟩
 ·cbv
 ·intro z hinv
  cbv;refine gn ?_
  obtain ⟨k,hz,hk,hE⟩:=hinv
  replace hz:z=(k:Int):=hz
  have hlen:va L=((ws.length:Nat):Int):=by rw [r1,hL,c1d]
  have hlt:qi z (va L)=decide (k<ws.length):=by rw [e7,hlen,hz];exact d3l.2 (by omega)
  by_cases h9:k<ws.length
  ·rw [d3a h9] at hlt
   obtain ⟨y,hy⟩:∃y,ws[k]?=some y:=⟨_,d2P h9⟩
   have g1:vc L z=some [.sc (.string y)]:=by rw [r2,hz,d2S (by omega),hL];exact c1e hy
   have hdr:inB (ws.drop k) x=((y.toList == x.toList) || inB (ws.drop (k+1)) x):=by
    obtain ⟨hi,e⟩:=d2Q.1 hy
    rw [d3r hi,e]
    rfl
   rw [hdr] at hE
   have hq:qm (qp y) (qp x)=(y.toList == x.toList):=by rw [s1,s3,s3]
   have hz1:qa .i64 (qb z 1)=((k+1:Nat):Int):=by rw [e1,e2,hz,IntWalk.i64_in _ (by omega)];omega
   have hm:ws.length - (qa .i64 (qb z 1)).toNat<ws.length - z.toNat:=by rw [hz1,hz];omega
   generalize (y.toList == x.toList)=q at *
   rw [hlt]
   cbv;refine gn ?_
   rw [g1]
   cbv;refine gn ?_
   rw [hq]
   cases q
   ·cbv;refine gn ?_
    exact ⟨_,⟨k+1,hz1,h9,hE⟩,hm,by cbv⟩
   ·cbv;refine gn ?_
    exact a0c hE
  ·rw [d2U h9] at hlt
   rw [d3A (by omega)] at hE
   rw [hlt]
   cbv;refine gn ?_
   exact a0c hE

end Go.Proofs.YtahpnackkmbmgaaGreat.Vm
end

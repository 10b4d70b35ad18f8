/- Part 12 of the proof. Conditions: none. -/
import Derived.Test.YtlofmibkljoapaaDoorN4
import Derived.Test.YtlofmibkljoapaaDoorN8
import Derived.Test.YtlofmibkljoapaaDoorN11
import Derived.Shelf.Strings.Builder1
import Derived.Shelf.Small.Strs
import Derived.Shelf.Strconv.Itoa0
import Derived.Shelf.Strconv.Itoa1
import Derived.Shelf.LaysM
import Derived.Shelf.Strconv.Itoa2
import Derived.Shelf.Strconv.Itoa3
import Derived.Test.YtlofmibkljoapaaDoorProg
import Derived.IntWalk
import Derived.RangeFuncNested
import Derived.RangeFuncBound
import Derived.RangeFuncCalls
import Derived.RangeFuncLeaves
import Derived.RangeFuncFrom
import Derived.Shelf.Abstract
import Derived.WalkKit
import Derived.OwnWalkIn
import Derived.TacticsInMore
import Derived.LoopNIn
import Derived.LoopIn
import Derived.Test.YtlofmibkljoapaaDoorN0
set_option linter.all false
set_option linter.unusedVariables false
set_option linter.unusedSimpArgs false
section
namespace Go.Proofs
open Go.Shelf
def Tryd.lays106_ren:Go.Shelf.Ren:=⟨fun|106=>78|213=>88|265=>95|n=>n,fun|9=>9|3=>3|n=>n,fun|n=>n⟩
theorem Tryd.lays106:Go.Proofs.Lays.n106 Tryd.prog Tryd.lays106_ren:={
 mixed:=by kernel_rfl
 f106:=Tryd.func78.trans (congrArg some (by kernel_rfl))
 f213:=Tryd.func88.trans (congrArg some (by kernel_rfl))
 f265:=Tryd.func95.trans (congrArg some (by kernel_rfl))
 t3:=Tryd.underlying3
 a3:=Tryd.isAgg3
 z3:=Tryd.sizeOf3
 v3:=Tryd.zeroValue3
 t9:=Tryd.underlying9
 a9:=Tryd.isAgg9
 z9:=Tryd.sizeOf9
 v9:=Tryd.zeroValue9 }
open Go.RowKit in
theorem Tryd.strings_Compare (a b:ByteArray) (w:World) :
  Calls Tryd.prog 78 #[.string a,.string b] w λe w'=>e=.returned (.int .i64 (Lib.compareBytes a.data.toList b.data.toList))/\w'=w:=Any.strings_Compare Tryd.lays106 a b w
end Go.Proofs
end
section
namespace Go.Proofs.YtlofmibkljoapaaDoor.Vm
open Go.RowKit
set_option maxRecDepth 100000
set_option maxHeartbeats 4000000
theorem c2x (a b:ByteArray):l6 78 [.one (.sc (.string a)),.one (.sc (.string b))] [.one (.sc (.int .i64 (Lib.compareBytes a.data.toList b.data.toList)))]:=by
 refine⟨by kernel_rfl,λI w args hI hat=>?_⟩
 match args,hat with
 | [v1,v2],⟨h1,h2,_⟩ =>
  have h1:AtD I w v1 (.sc (.string a)):=h1;have h2:AtD I w v2 (.sc (.string b)):=h2;cases h1;cases h2;refine(Tryd.strings_Compare a b w).mono ?_
  rintro e w' ⟨rfl,rfl⟩
  exact⟨_,rfl,.sc _ rfl,Below.refl _ _⟩
theorem a7M:∀a b:List UInt8,Lib.compareBytes a b=a3K a b
 | [],[]=>rfl
 | [],_::_=>by simp[Lib.compareBytes,a3K,Op.bytesLess]
 | _::_,[]=>by simp[Lib.compareBytes,a3K,Op.bytesLess]
 | x::a,y::b=>by
  rw[Lib.compareBytes,a7M a b];unfold a3K;simp only[Op.bytesLess]
  by_cases h1:x<y
  ·simp[h1]
  ·by_cases h2:y<x
   ·have hne:x≠y:=λe=>by rw[e] at h2;exact h1 (by rw[e];exact h2)
    simp[h1,h2,hne]
   ·have e:x=y:=by
     rw[c5e] at h1 h2;exact c59.1 (by omega)
    subst e
    simp[h1]
theorem b9B:b0e 77:=by
 intro n m x1 x2 x3 x4 y1 y2 y3 y4;have hc:=c2x n m;rw[a7M,<-ByteArray.toList_eq,<-ByteArray.toList_eq] at hc;generalize a3K n.toList m.toList=cv at *;refine K7 Tryd.func77 rfl ?_;intros;rename_i hA;cbv
 repeat ((with_reducible apply b6 hA);cbv)
 refine c5 hA _ hc ?_ ?_
 ·rfl
 cbv
 repeat ((with_reducible apply b6 hA);cbv)
theorem b9C (nm:ByteArray) (x0 x1 x2 x3 r0 r1 r2 r3:D):l6 15 [.one (.sc (.string nm)),.ag [x0,x1,x2,x3],.ag [r0,r1,r2,r3]] [.ag [.sc (.int .u8 11),.sc (.string nm),.sc (.int .i64 0),.sl 4 [[x0,x1,x2,x3],[r0,r1,r2,r3]]]]:=by
 refine K7 Tryd.func15 rfl ?_;intros;rename_i hA;cbv
 repeat ((with_reducible first|apply b6 hA|apply z6 hA true);cbv)
theorem b5R (f:ByteArray×Ty) (fs:List (ByteArray×Ty)) (tl:Ty):A4 (f::fs) tl=.mk 11 f.1 0 [f.2,A4 fs tl]:=rfl
theorem c3h (fs:List (ByteArray×Ty)) (tl:Ty) (hn:fs.length<=1048576):l6 65 [.one (.sl 5 (rF fs)),.ag (cT tl)] [.ag (cT (A4 fs tl))]:=by
 obtain⟨L,hL⟩:∃L,L=rF fs:=⟨_,rfl⟩;rw[<-hL];obtain⟨t0,t1,t2,t3,ht⟩:=c9 tl;obtain⟨q0,q1,q2,q3,hq⟩:=c9 (A4 fs tl);rw[ht,hq];refine K7 Tryd.func65 rfl ?_;intro qa _ qc _ _ _ _ _ qi _ _ _ _ _ _ _ _ _ _ _ _ _ qy qz;intros;rename_i hA;cbv;refine gn ?_;obtain⟨e1,e2,e3,e4,e5,e6,e7,e8,e9⟩:=j3 hA;obtain⟨r1,r2,-⟩:=m8 hA;have hlen:qy L=((fs.length:Nat):Int):=by rw[r1,hL,G1]
 have hz0:qa .i64 (qc (qy L) 1)=((fs.length:Nat):Int) - 1:=by rw[e1,e3,hlen,IntWalk.i64_in _ (by omega)]
 refine l7 hA (γ:=Int×D×D×D×D) (λx=>[(6,vi .i64 x.1)]) (λx=>[(2,.box [.d x.2.1,.d x.2.2.1,.d x.2.2.2.1,.d x.2.2.2.2])]) (λx=>∃k:Nat,x.1=(k:Int) - 1/\k<=fs.length/\cT (A4 (fs.drop k) tl)=[x.2.1,x.2.2.1,x.2.2.2.1,x.2.2.2.2]) (λx=>(x.1+1).toNat) (qa .i64 (qc (qy L) 1),t0,t1,t2,t3) ?_ ?_ ?_
 ·exact⟨fs.length,hz0,c3A _,by rw[List.drop_length];exact ht⟩
 ·cbv
 ·intro x hinv;obtain⟨z,a0,a1,a2,a3⟩:=x;cbv;refine gn ?_;obtain⟨k,hz,hk,hE⟩:=hinv;replace hz:z=(k:Int) - 1:=hz;replace hE:cT (A4 (fs.drop k) tl)=[a0,a1,a2,a3]:=hE;have hge:qi 0 z=decide (0<k):=by rw[e8,hz];exact c3M.2 (by omega)
  by_cases h9:0<k
  ·rw[c3K h9] at hge;obtain⟨x,hx⟩:∃x,fs[k - 1]?=some x:=⟨_,c39 (by omega)⟩;have g1:qz L z=some (.sc (.string x.1)::cT x.2):=by rw[r2,hz,c3E (by omega),hL,show ((k:Int) - 1).toNat=k - 1 by omega];exact a1d hx
   have d1:fs.drop (k - 1)=x::fs.drop k:=by obtain⟨hi,e⟩:=c35.1 hx;rw[c3U hi,e,show k - 1+1=k by omega]
   have hz1:qa .i64 (qc z 1)=((k - 1:Nat):Int) - 1:=by rw[e1,e3,hz,IntWalk.i64_in _ (by omega)];omega
   have hm:(qa .i64 (qc z 1)+1).toNat<(z+1).toNat:=by rw[hz1,hz];omega
   obtain⟨nm,x⟩:=x;obtain⟨x0,x1,x2,x3,hxx⟩:=c9 x;simp only at g1;rw[hxx] at g1;have hsp:=b9C nm x0 x1 x2 x3 a0 a1 a2 a3
   have hnew:cT (A4 (fs.drop (k - 1)) tl)=[.sc (.int .u8 11),.sc (.string nm),.sc (.int .i64 0),.sl 4 [[x0,x1,x2,x3],[a0,a1,a2,a3]]]:=by
    rw[d1,b5R,cT,rT,rT,rT,hxx,hE]
   rw[hge];cbv;refine gn ?_;rw[g1];cbv
   try (rw[g1];cbv)
   refine c7 hA _ hsp ?_;cbv
   repeat ((with_reducible apply b6 hA);cbv)
   exact⟨(_,_,_,_,_),⟨k - 1,hz1,by omega,hnew⟩,hm,by cbv⟩
  ·rw[c3I h9] at hge;have hk0:k=0:=by omega
   rw[hk0,List.drop_zero,hq] at hE;cases hE;rw[hge];cbv
   repeat ((with_reducible apply b6 hA);cbv)
section
section
variable {I0:Nat->Nat->Prop} {X:Nat->Prop} {w0:W0} {I:Nat->Nat->Prop} {g:Nat->Value} {s:S} {a:Act} {w:World}
theorem j2.reset {us:List Value} {cs:List V} {i:Nat} {x:V} (h:j2 I w g us cs) (hx:∀v,us[i]?=some v->AtV I w g v x):j2 I w g us (cs.set i x):=by
 refine⟨by rw[c3N];exact h.1,λj v y hv hy=>?_⟩
 by_cases hji:i=j
 ·subst hji;have hlt:i<cs.length:=by have:=(c35.1 hy).1;rw[c3N] at this;exact this
  rw[c3V hlt] at hy;cases hy;exact hx v hv
 ·rw[c3O hji] at hy;exact h.2 j v y hv hy
theorem RelI.rebox (h:RelI I0 X w0 I g s a w) {k:Nat} {cs ds:List V} (hk:s.o[k]?=some (.box cs)) (hd:∀us,j2 I w g us cs->j2 I w g us ds):RelI I0 X w0 I g ⟨s.t,s.o.set k (.box ds)⟩ a w:=by
 have hlt:=(c35.1 hk).1
 have a1q:∀i,B1 ⟨s.t,s.o.set k (.box ds)⟩ i->B1 s i:=λi hl=>by
  obtain⟨o,ho,hdd⟩:=hl
  by_cases hik:k=i
  ·subst hik;exact⟨_,hk,by simp⟩
  ·simp only[c3O hik] at ho;exact⟨o,ho,hdd⟩
 refine⟨h.im,h.lt,h.fr,h.kp,by simp only[c3N];exact h.lo,h.st,λi o ho=>?_,λi j b hi hj=>h.dis i j b (a1q i hi) (a1q j hj),λi hi=>h.out i (by simpa using hi),h.tmp,h.dfr⟩
 by_cases hik:k=i
 ·subst hik;simp only[c3V hlt] at ho;cases ho;obtain⟨b,us,t,h1,h2,h3,h4⟩:=h.obj k _ hk;exact⟨b,us,t,h1,h2,hd us h3,h4⟩
 ·simp only[c3O hik] at ho;exact h.obj i o ho
end
theorem v7.ownBox (s:S) (k i e:Nat) (z:Bool) {cs:List V} (hk:m7 s.o k=.box cs) (hi:m5 cs i=.em):v7 s ⟨s.t,B5 (o9 s.o (.row z e [])) k (.box (G5 cs i (.own (j6 s.o))))⟩:=by
 rintro I0 X w0 a w ⟨I,g,h⟩
 have hk2:=j8 hk (by simp);have hlt:=(c35.1 hk2).1;have h2:=h.newObj (.row z e []) (.slice none 0 0) ⟨[],by rw[i7];exact World.ownsRow_nil w 0 e _,by simp,s9.nil I w,λb hb=>by rw[i7] at hb;cases hb⟩ (λj b _ _ hb=>by cases hb);have h3:RelI I0 X w0 I (upd g s.o.length (.slice none 0 0)) ⟨s.t,o9 s.o (.row z e [])⟩ a w:=h2;refine⟨I,upd g s.o.length (.slice none 0 0),?_⟩;rw[y5,Q5];refine h3.rebox (cs:=cs) (by show (o9 s.o _)[k]?=_;rw[a0s,c3S hlt];exact hk2) λus hus=>hus.reset λv hv=>?_
 have hs:=K6 hi (by simp);have h4:=hus.2 i v _ hv hs;rw[h4.unem];exact .own _ _ _ _ (by rw[l9,i7];rfl)
section
variable {qa:_} {qb:_} {qc:_} {qd:_} {qe:_} {qf:_} {qg:_} {qh:_} {qi:_} {qj:_} {qk:_} {ql:_} {qm:_} {qo:_} {qp:_} {qq:_} {qs:_} {qt:_} {qu:_} {qv:_} {qw:_} {qx:_} {qy:_} {qz:_} {vc:_} {vd:_} {ve:_} {vf:_} {vg:_} {vh:_} {vj:_} {vk:_} {vl:_} {vp:_} {vq:_} {vr:_} {vt:_} {vu:_} {vv:_} {vw:_} {vx:_} {vy:_} {vz:_} (hA:Ar.mk qa qb qc qd qe qf qg qh qi qj qk ql qm qo qp qq qs qt qu qv qw qx qy qz vc vd ve vf vg vh vj vk vl vp vq vr vt vu vv vw vx vy vz=a7)
include hA
theorem a5U {N:S->Prop} {s:S} (k i e:Nat) (z:Bool) {cs:List V} (hk:m7 s.o k=.box cs) (hi:m5 cs i=.em) (h:N ⟨s.t,B5 (o9 s.o (.row z e [])) k (.box (G5 cs i (.own (j6 s.o))))⟩):vw N s:=E3 hA _ (v7.ownBox s k i e z hk hi) h
end
end
theorem a3A {ks:List Ty} {k:Nat} {x:Ty} (h:ks[k]?=some x):rT (ks.take (k+1))=rT (ks.take k)++[cT x]:=by
 obtain⟨hi,e⟩:=c35.1 h;rw[a2Z,a2Z,c5p hi,e,c4J];rfl
theorem a3h:∀t:Ty,t.parts.length<=1048576->l6 69 [.ag (cT t)] [.ag (cT t)]:=by
 intro t
 induction t using Ty.ind with
 | h t ih =>
  intro hN;have hkl:=m9 t;obtain⟨op,nm,n,ks⟩:=t;simp only[Ty.kids] at hkl ih;rw[cT];obtain⟨K,hK⟩:∃K,K=rT ks:=⟨_,rfl⟩;rw[<-hK];refine K7 Tryd.func69 rfl ?_;intro qa qb _ _ _ _ _ qh _ _ _ _ _ _ _ _ _ _ _ _ _ _ qy qz _ vd;intros;rename_i hA;cbv
  with_reducible apply b6 hA
  cbv;refine a2g hA 3 25 true rfl ?_;cbv
  repeat ((with_reducible apply b6 hA);cbv)
  obtain⟨e1,e2,e3,e4,e5,e6,e7,e8,e9⟩:=j3 hA;obtain⟨r1,r2,r3,r4⟩:=m8 hA;refine l7 hA (γ:=Int×List (List D)) (λx=>[(9,vi .i64 x.1),(3,.own 2),(13,.jk)]) (λx=>[(2,.row true 25 x.2)]) (λx=>∃k:Nat,x.1=(k:Int)/\k<=ks.length/\x.2=rT (ks.take k)) (λx=>ks.length - x.1.toNat) (0,[]) ?_ ?_ ?_
  ·exact⟨0,rfl,c4e _,rfl⟩
  ·cbv
  ·intro x hinv;obtain⟨z,L⟩:=x;cbv;refine gn ?_;obtain⟨k,hz,hk,hE⟩:=hinv;have hz:z=(k:Int):=hz;replace hE:L=rT (ks.take k):=hE;have hlen:qy K=(ks.length:Int):=by rw[r1,hK,B7]
   have hlt:qh z (qy K)=decide (k<ks.length):=by rw[e7,hlen,hz];exact c3M.2 (by omega)
   by_cases h9:k<ks.length
   ·rw[c3K h9] at hlt;obtain⟨x,hx⟩:∃x,ks[k]?=some x:=⟨_,c39 h9⟩;have g1:qz K z=some (cT x):=by rw[r2,hz,c3E (by omega),hK];exact T3 hx
    have hsp:=ih x (c3J hx) (by have:=hkl.2 x (c3J hx);omega);have hsn:=a3A hx;obtain⟨o1,m1,n1,l1⟩:=x;rw[cT] at g1 hsp hsn;generalize rT l1=L1 at *;rw[hlt];cbv;refine gn ?_;rw[g1];cbv
    repeat ((with_reducible apply b6 hA);cbv)
    refine c5 hA _ hsp ?_ ?_
    ·rfl
    cbv;refine z6 hA true ?_;cbv;refine w8 hA (by rw[hE,B7];simp;omega) ?_;cbv
    repeat ((with_reducible apply b6 hA);cbv)
    replace hz:z=(k:Int):=hz;have hz1:qa .i64 (qb z 1)=((k+1:Nat):Int):=by rw[e1,e2,hz,IntWalk.i64_in _ (by omega)];omega
    refine⟨(qa .i64 (qb z 1),vd L [[.sc (.int .u8 o1),.sc (.string m1),.sc (.int .i64 n1),.sl 4 L1]]),⟨k+1,hz1,h9,by show vd L _=_;rw[r4,hE,hsn]⟩,by show ks.length - (qa .i64 (qb z 1)).toNat<ks.length - z.toNat;rw[hz1,hz];omega,?_⟩;cbv
   ·rw[c3I h9] at hlt;rw[hlt];cbv;refine gn ?_;have hE2:L=K:=by rw[hE,hK,c4i (by omega)]
    rw[hE2];exact⟨rfl,trivial⟩
def cfS (f:ByteArray×Ty):ByteArray×Ty:=(f.1,b9 f.2)
theorem U5:∀(n:Nat) (t:Ty),t.parts.length<=n->(c6 t).length<t.parts.length:=by
 intro n
 induction n with
 | zero=>intro t h;have:=j5 t;omega
 | succ n ih =>
  intro t h;have hp:=j5 t;obtain⟨op,nm,k,ks⟩:=t
  match ks with
  | []=>exact hp
  | [x]=>exact hp
  | x::y::z::l=>exact hp
  | [x,r] =>
   have hk:=m9 (.mk op nm k [x,r]);have hr:=hk.2 r (by simp[Ty.kids]);unfold c6
   by_cases h11:op=11
   ·rw[c3E h11,c3C];have:=ih r (by omega);omega
   ·rw[c3G h11];exact hp
theorem b41:∀(m:Nat) (t:Ty),t.parts.length<=m->m<=1048576->(∀x∈t.parts,G2 x)->l6 40 [.ag (cT t)] [.ag (cT (b9 t))]:=by
 intro m
 induction m with
 | zero=>intro t h;have:=j5 t;omega
 | succ m ih =>
  intro t hm hm2 hsp;have hself:t∈t.parts:=by rw[r7];exact c38 ..
  have hkl:=m9 t;obtain⟨op,nm,n,ks⟩:=t;generalize ht:Ty.mk op nm n ks=t at *;have hc:cT t=[.sc (.int .u8 op),.sc (.string nm),.sc (.int .i64 n),.sl 4 (rT ks)]:=by rw[<-ht,cT]
  have hks:t.kids=ks:=by rw[<-ht];rfl
  rw[hks] at hkl
  by_cases hop:op=11
  ·have hF:=b5N t (hsp t hself) (by omega);have hcr:=G9 (t:=t) (by rw[<-ht];exact hop)
   have hih:∀f∈d5 x8 (c6 t),l6 40 [.ag (cT f.2)] [.ag (cT (b9 f.2))]:=λf hf=>by
    have h1:=B8 hf;have h2:=A1 _ t (c3A _) f h1;have h3:=M5 _ t (c3A _) f h1;exact ih f.2 (by omega) (by omega) λx hx=>hsp x (A2 hx h3)
   have hlen:(d5 x8 (c6 t)).length<=1048576:=by
    rw[K8];have:=U5 _ t (c3A _);omega
   rw[hc] at hF ⊢;obtain⟨K0,hK0⟩:∃K,K=rT ks:=⟨_,rfl⟩;rw[<-hK0] at hF ⊢;generalize d5 x8 (c6 t)=L at *;have hOf:=c3h (L.map cfS) (f7 t) (by rw[c4h];exact hlen);rw[show A4 (L.map cfS) (f7 t)=b9 t from hcr.symm] at hOf;obtain⟨y0,y1,y2,y3,hy⟩:=c9 (b9 t);obtain⟨q0,q1,q2,q3,hq⟩:=c9 (f7 t);rw[hq] at hF hOf;rw[hy] at hOf ⊢;obtain⟨M0,hM0⟩:∃M,M=rF L:=⟨_,rfl⟩;rw[<-hM0] at hF;refine K7 Tryd.func40 rfl λqa qb qc qd qe qf qg qh qi qj qk ql qm qo qp qq qs qt qu qv qw qx qy qz vc vd ve vf vg vh vj vk vl vp vq vr vt vu vv vw vx vy vz hA=>?_
   cbv;refine gn ?_;have h11:qj op 11=decide (op=11):=by have e:=j3 hA;exact e.2.2.2.2.2.2.2.2 _ _
   rw[c3K hop] at h11;rw[h11];cbv;refine gn ?_;refine d7 hA [] hF ⟨rfl,rfl,rfl,rfl,rfl,rfl,rfl⟩ ?_
   rintro res os2 ⟨rfl,rfl⟩
   cbv;refine gn ?_;obtain⟨e1,e2,e3,e4,e5,e6,e7,e8,e9⟩:=j3 hA;obtain⟨r1,r2,r3,r4⟩:=m8 hA;obtain⟨m1,m2,m3,m4⟩:=N6 hA;refine l7 hA (γ:=Int×List (List D)) (λx=>[(5,vi .i64 x.1),(11,.jk),(13,.jk)]) (λx=>[(2,.row false 73 x.2)]) (λx=>∃k:Nat,x.1=(k:Int)/\k<=L.length/\x.2=rF ((L.take k).map cfS++L.drop k)) (λx=>L.length - x.1.toNat) (0,M0) ?_ ?_ ?_
   ·exact⟨0,rfl,c4e _,hM0⟩
   ·cbv
   ·intro x hinv;obtain⟨z,M⟩:=x;cbv;refine gn ?_;obtain⟨k,hz,hk,hM⟩:=hinv;replace hz:z=(k:Int):=hz;replace hM:M=rF ((L.take k).map cfS++L.drop k):=hM;have hll:qy M=((L.length:Nat):Int):=by rw[r1,hM,G1];simp;omega
    have hlt:qh z (qy M)=decide (k<L.length):=by rw[e7,hll,hz];exact c3M.2 (by omega)
    by_cases h9:k<L.length
    ·rw[c3K h9] at hlt;obtain⟨x,hx⟩:∃x,L[k]?=some x:=⟨_,c39 h9⟩;have hspx:=hih x (c3J hx)
     have hxe:((L.take k).map cfS++L.drop k)[k]?=some x:=by
      rw[c3Q (by simp;omega)]
      simp
      rw[c57 (by omega),c5g,c4F];exact hx
     have hset:((L.take k).map cfS++L.drop k).set k (cfS x)=(L.take (k+1)).map cfS++L.drop (k+1):=by
      obtain⟨hi,e⟩:=c35.1 hx;have e0:k - ((L.take k).map cfS).length=0:=by rw[c4h,c3Z];omega
      rw[c4V _ _ (by rw[c4h,c3Z];omega),c5a,hx,c4J,c4c,c3U hi,e0];rfl
     obtain⟨xn,xt⟩:=x;obtain⟨x0,x1,x2,x3,hxx⟩:=c9 xt;obtain⟨v0,v1,v2,v3,hvv⟩:=c9 (b9 xt);simp only at hspx;rw[hxx,hvv] at hspx;have gx:qz M z=some [.sc (.string xn),x0,x1,x2,x3]:=by rw[r2,hz,c3E (by omega),hM,show ((k:Int)).toNat=k by omega,a1d hxe,hxx]
     have hz1:qa .i64 (qb z 1)=((k+1:Nat):Int):=by rw[e1,e2,hz,IntWalk.i64_in _ (by omega)];omega
     have hmu:L.length - (qa .i64 (qb z 1)).toNat<L.length - z.toNat:=by rw[hz1,hz];omega
     have hnew:ve M z [.sc (.string xn),v0,v1,v2,v3]=rF ((L.take (k+1)).map cfS++L.drop (k+1)):=by
      rw[m4,<-hset,hM,hz,show ((k:Int)).toNat=k by omega];unfold rF;rw[List.map_set];show _=List.set _ k (.sc (.string xn)::cT (b9 xt));rw[hvv]
     rw[hlt];cbv
     repeat (first|(with_reducible apply b6 hA;cbv)|(rw[gx];cbv)|(refine c5 hA _ hspx rfl ?_;cbv))
     refine⟨(qa .i64 (qb z 1),ve M z [.sc (.string xn),v0,v1,v2,v3]),⟨k+1,hz1,h9,hnew⟩,hmu,?_⟩;cbv
    ·rw[c3I h9] at hlt;have hM2:M=rF (L.map cfS):=by rw[hM,c4i (by omega),c5j (by omega),c3X]
     rw[<-hM2] at hOf;rw[hlt];cbv;refine b7v hA [2] ?_;cbv
     repeat (first|(with_reducible apply b6 hA;cbv)|(refine c5 hA _ hOf rfl ?_;cbv))
  ·have hcn:=x9 (t:=t) (by rw[<-ht];exact hop);rw[hks,show t.op=op by rw[<-ht];rfl,show t.name=nm by rw[<-ht];rfl,show t.n=n by rw[<-ht];rfl] at hcn
   have hih:∀x∈ks,l6 40 [.ag (cT x)] [.ag (cT (b9 x))]:=λx hx=>by
    have h2:=hkl.2 x hx;exact ih x (by omega) (by omega) λy hy=>hsp y (by rw[d9,hks];exact c36 _ (c4a.2 ⟨x,hx,hy⟩))
   rw[hcn,cT,hc];obtain⟨K,hK⟩:∃K,K=rT ks:=⟨_,rfl⟩;obtain⟨Q,hQ⟩:∃Q,Q=rT (ks.map b9):=⟨_,rfl⟩;rw[<-hK,<-hQ];refine K7 Tryd.func40 rfl λqa qb qc qd qe qf qg qh qi qj qk ql qm qo qp qq qs qt qu qv qw qx qy qz vc vd ve vf vg vh vj vk vl vp vq vr vt vu vv vw vx vy vz hA=>?_
   cbv;refine gn ?_;obtain⟨e1,e2,e3,e4,e5,e6,e7,e8,e9⟩:=j3 hA;obtain⟨r1,r2,r3,r4⟩:=m8 hA;have h11:qj op 11=decide (op=11):=e9 _ _;rw[c3I hop] at h11;rw[h11];cbv
   repeat (first|(refine a5U hA 2 3 25 true rfl rfl ?_;cbv)|(with_reducible apply b6 hA;cbv))
   refine l7 hA (γ:=Int×List (List D)) (λx=>[(7,vi .i64 x.1)]) (λx=>[(3,.row true 25 x.2)]) (λx=>∃k:Nat,x.1=(k:Int)/\k<=ks.length/\x.2=rT ((ks.map b9).take k)) (λx=>ks.length - x.1.toNat) (0,[]) ?_ ?_ ?_
   ·exact⟨0,rfl,c4e _,rfl⟩
   ·cbv
   ·intro x hinv;obtain⟨z,M⟩:=x;cbv;refine gn ?_;obtain⟨k,hz,hk,hM⟩:=hinv;replace hz:z=(k:Int):=hz;replace hM:M=rT ((ks.map b9).take k):=hM;have hll:qy K=((ks.length:Nat):Int):=by rw[r1,hK,B7]
    have hlt:qh z (qy K)=decide (k<ks.length):=by rw[e7,hll,hz];exact c3M.2 (by omega)
    by_cases h9:k<ks.length
    ·rw[c3K h9] at hlt;obtain⟨x,hx⟩:∃x,ks[k]?=some x:=⟨_,c39 h9⟩;have hspx:=hih x (c3J hx);have hx2:(ks.map b9)[k]?=some (b9 x):=by rw[c4j,hx];rfl
     have hsn:=a3A hx2;obtain⟨x0,x1,x2,x3,hxx⟩:=c9 x;obtain⟨v0,v1,v2,v3,hvv⟩:=c9 (b9 x);rw[hxx,hvv] at hspx;rw[hvv] at hsn;have gx:qz K z=some [x0,x1,x2,x3]:=by rw[r2,hz,c3E (by omega),hK,show ((k:Int)).toNat=k by omega,T3 hx,hxx]
     have gx2:(Ar.mk qa qb qc qd qe qf qg qh qi qj qk ql qm qo qp qq qs qt qu qv qw qx qy qz vc vd ve vf vg vh vj vk vl vp vq vr vt vu vv vw vx vy vz).get K z=some [x0,x1,x2,x3]:=gx;have hz1:qa .i64 (qb z 1)=((k+1:Nat):Int):=by rw[e1,e2,hz,IntWalk.i64_in _ (by omega)];omega
     have hmu:ks.length - (qa .i64 (qb z 1)).toNat<ks.length - z.toNat:=by rw[hz1,hz];omega
     have hnew:vd M [[v0,v1,v2,v3]]=rT ((ks.map b9).take (k+1)):=by rw[r4,hsn,hM]
     have hMl:M.length<=1048576:=by rw[hM,B7,c3Z];omega
     rw[hlt];cbv
     repeat (first|(with_reducible apply b6 hA;cbv)|(rw[gx];cbv)|(rw[gx2];cbv)|(refine c7 hA _ hspx ?_;cbv)|(refine c5 hA _ hspx rfl ?_;cbv)|(refine z6 hA true ?_;cbv)|(refine w8 hA (by simp only[r4,c37,c3C,c3H];omega) ?_;cbv))
     cbv
     repeat (first|(with_reducible apply b6 hA;cbv)|(rw[gx];cbv)|(rw[gx2];cbv)|(refine c7 hA _ hspx ?_;cbv)|(refine c5 hA _ hspx rfl ?_;cbv)|(refine z6 hA true ?_;cbv)|(refine w8 hA (by simp only[r4,c37,c3C,c3H];omega) ?_;cbv))
     refine⟨(qa .i64 (qb z 1),vd M [[v0,v1,v2,v3]]),⟨k+1,hz1,h9,hnew⟩,hmu,?_⟩;cbv
    ·rw[c3I h9] at hlt;have hM2:M=Q:=by rw[hM,hQ,c4i (by rw[c4h];omega)]
     rw[hlt];cbv;refine gn ?_;exact⟨by rw[hM2],trivial⟩
section
section
variable {W:ByteArray->Bool}
theorem f9 {t:Ty} {s:Int} (h:c8 W t s=true):∃k,y6 t.op=some k/\(decide (8<=t.op) == (s == 114))=true/\t.kids.length=k.length/\(if t.op=11 then W t.name else decide (t.name.toList=[]))=true/\0<=t.n/\(t.op=7\/t.op=10\/t.n=0)/\n6 W t.kids k=true:=by
 cases hk:y6 t.op with
 | none=>rw[a7H hk] at h;cases h
 | some k =>
  obtain⟨op,nm,n,kids⟩:=t;rw[a4n (k:=k) (by exact hk)] at h;unfold c3B c4B at h;simp only[c3D,c45,c4T] at h;obtain⟨⟨h1,h2,h3,h4,h5⟩,h6⟩:=h;exact⟨k,rfl,h1,h2,h3,h4,by simpa [or_assoc,Ty.op,Ty.n] using h5,h6⟩
theorem a1g {op:Int} {nm:ByteArray} {n:Int} {kids:List Ty} {s:Int} {k:List Int} (h0:y6 op=some k) (h1:(decide (8<=op) == (s == 114))=true) (h2:kids.length=k.length) (h3:(if op=11 then W nm else decide (nm.toList=[]))=true) (h4:0<=n) (h5:op=7\/op=10\/n=0) (h6:n6 W kids k=true) :
  c8 W (.mk op nm n kids) s=true:=by
 rw[a4n h0];unfold c3B c4B;simp only[c3D,c45,c4T];exact⟨⟨h1,h2,h3,h4,by simpa [or_assoc] using h5⟩,h6⟩
theorem K9 {t:Ty} {s:Int} (h:c8 W t s=true) (h11:t.op=11):s=114/\∃a b,t.kids=[a,b]/\t.n=0/\W t.name=true/\c8 W a 116=true/\c8 W b 114=true:=by
 obtain⟨k,hk,h1,h2,h3,h4,h5,h6⟩:=f9 h;rw[h11] at hk h1 h3 h5;have:y6 11=some [116,114]:=by decide
 rw[this] at hk;injection hk with hk;subst hk;rw[c3E rfl] at h3
 have hs:s=114:=by
  have h8:decide ((8:Int)<=11)=true:=by decide
  rw[h8] at h1
  simpa using h1
 refine⟨hs,?_⟩
 match t.kids,h2,h6 with
 | [a,b],_,h6 =>
  rw[n6,n6,n6] at h6;simp only[c3D,and_true] at h6;refine⟨a,b,rfl,?_,h3,h6.1,h6.2⟩
  rcases h5 with h|h|h
  ·exact absurd h (by decide)
  ·exact absurd h (by decide)
  ·exact h
theorem b0g {nm:ByteArray} {a b:Ty} (h3:W nm=true) (ha:c8 W a 116=true) (hb:c8 W b 114=true):c8 W (.mk 11 nm 0 [a,b]) 114=true:=by
 refine a1g (k:=[116,114]) (by decide) (by decide) rfl (by rw[c3E rfl];exact h3) (by omega) (.inr (.inr rfl)) ?_;rw[n6,n6,n6,ha,hb];rfl
theorem y7:∀ {t:Ty},c8 W t 114=true->(∀f∈c6 t,W f.1=true/\c8 W f.2 116=true)/\c8 W (f7 t) 114=true:=by
 intro t
 induction t using Ty.ind with
 | h t ih =>
  intro h
  by_cases h11:t.op=11
  ·obtain⟨_,a,b,hk,hn,hw,ha,hb⟩:=K9 h h11;have hsp:G2 t:=a6t W t _ h t (by rw[r7];exact c38 ..);obtain⟨a',b',hk',hsb,hf,ht⟩:=C4 hsp h11;rw[hk] at hk';injection hk' with e1 e2;injection e2 with e2 _;subst e1;subst e2;have hb':=ih b (by rw[hk];simp) hb;rw[hf,ht];refine⟨λf hf=>?_,hb'.2⟩
   rcases c3F.1 hf with rfl|hf
   ·exact⟨hw,ha⟩
   ·exact hb'.1 f hf
  ·obtain⟨h1,h2⟩:=z8 h11;rw[h1,h2];exact⟨by simp,h⟩
theorem a1h {tl:Ty} (ht:c8 W tl 114=true):∀ {fs:List (ByteArray×Ty)},(∀f∈fs,W f.1=true/\c8 W f.2 116=true)->c8 W (A4 fs tl) 114=true
 | [],_=>ht
 | f::fs,h=>by
  rw[H6];have h1:=h f (c38 ..);exact b0g h1.1 h1.2 (a1h ht λg hg=>h g (c36 _ hg))
theorem j7 {t:Ty} {s:Int} (h:c8 W t s=true):Y4 t:=a6t W t s h
theorem a2j:∀ {ts:List Ty} {ks:List Int},n6 W ts ks=true->∀(i:Nat) (t:Ty) (k:Int),ts[i]?=some t->ks[i]?=some k->c8 W t k=true
 | [],_,_,i,t,k,h,_=>by simp at h
 | _::_,[],h,i,t,k,_,hk=>by simp at hk
 | x::xs,y::ys,h,i,t,k,ht,hk=>by
  rw[n6,c3D] at h;cases i with
  | zero=>simp at ht hk;subst ht;subst hk;exact h.1
  | succ i=>exact a2j h.2 i t k (by simpa using ht) (by simpa using hk)
theorem a1i {f:Ty->Ty}:∀ {ts:List Ty} {ks:List Int},n6 W ts ks=true->(∀x∈ts,∀k,c8 W x k=true->c8 W (f x) k=true)->n6 W (ts.map f) ks=true
 | [],ks,_,_=>by cases ks <;> rfl
 | x::xs,[],h,_=>by rw[n6] at h;cases h
 | x::xs,y::ys,h,hf=>by
  rw[n6,c3D] at h;rw[c3Y,n6,c3D];exact⟨hf x (c38 ..) y h.1,a1i h.2 λz hz=>hf z (c36 _ hz)⟩
theorem A3:∀(n:Nat) (t:Ty) (s:Int),t.parts.length<=n->c8 W t s=true->c8 W (b9 t) s=true:=by
 intro n
 induction n with
 | zero=>intro t s h;have:=j5 t;omega
 | succ n ih =>
  intro t s hn h
  by_cases h11:t.op=11
  ·have hr:=K9 h h11;obtain⟨rfl,-⟩:=hr;obtain⟨hf,ht⟩:=y7 h;rw[G9 h11];refine a1h ht λf hf'=>?_
   obtain⟨g,hg,rfl⟩:=c4o.1 hf';have h1:=A1 _ t (c3A _) g (B8 hg);have h2:=hf g (B8 hg);exact⟨h2.1,ih g.2 116 (by omega) h2.2⟩
  ·rw[x9 h11];obtain⟨k,hk,h1,h2,h3,h4,h5,h6⟩:=f9 h;refine a1g hk h1 (by rw[c4h];exact h2) h3 h4 h5 (a1i h6 λx hx k hxk=>?_);have h7:=(m9 t).2 x hx;exact ih x k (by omega) hxk
end
section
variable {W:ByteArray->Bool}
def b5S (W:ByteArray->Bool) (g s:Ty):Prop:=∃c,c8 W g c=true/\c8 W s c=true
theorem b5S.kids {g s:Ty} (h:b5S W g s) (he:g.op=s.op):g.kids.length=s.kids.length/\∀(i:Nat) (x y:Ty),g.kids[i]?=some x->s.kids[i]?=some y->b5S W x y:=by
 obtain⟨c,hg,hs⟩:=h;obtain⟨k,hk,_,h2,_,_,_,h6⟩:=f9 hg;obtain⟨k',hk',_,h2',_,_,_,h6'⟩:=f9 hs;rw[<-he,hk] at hk';injection hk' with hk'
 subst hk';refine⟨by rw[h2,h2'],λi x y hx hy=>?_⟩;have hi:i<k.length:=by rw[<-h2];exact(c35.1 hx).1
 exact⟨k[i],a2j h6 i x _ hx (c39 hi),a2j h6' i y _ hy (c39 hi)⟩
theorem b18 {t x:Ty} (h:x∈t.parts):x.parts.length<=t.parts.length:=by
 induction t using Ty.ind with
 | h t ih =>
  rw[d9] at h
  rcases c3F.1 h with rfl|h
  ·exact c3A _
  ·obtain⟨k,hk,hx⟩:=c4a.1 h;have h1:=ih k hk hx;have h2:=(m9 t).2 k hk;omega
end
end
section
theorem a7N:Swo x8:=⟨λ_=>a1K _,λ_ _ _=>a5S _ _ _,λ_ _ _=>a5T _ _ _⟩
theorem a8Z:∀a b:List UInt8,Op.bytesLess a b=false->Op.bytesLess b a=false->a=b
 | [],[],_,_=>rfl
 | [],_::_,h,_=>by simp[Op.bytesLess] at h
 | _::_,[],_,h=>by simp[Op.bytesLess] at h
 | x::a,y::b,h1,h2=>by
  simp only[Op.bytesLess,c54,decide_eq_false_iff_not,Bool.and_eq_false_iff,c3R,ne_eq] at h1 h2;obtain⟨h1,h1'⟩:=h1;obtain⟨h2,h2'⟩:=h2
  have e:x=y:=by
   rw[c5e] at h1 h2;exact c59.1 (by omega)
  subst e;rw[a8Z a b (by simpa using h1') (by simpa using h2')]
theorem b0h {x y:ByteArray×Ty} (h1:x8 x y=false) (h2:x.1≠y.1):x8 y x=true:=by
 cases h:x8 y x with
 | true=>rfl
 | false=>exact absurd (a0J.1 (a8Z _ _ h1 h)) h2
theorem a2k {l:List (ByteArray×Ty)} (h:P7 x8 l):d5 x8 l=l:=(a6C a7N h (.refl l)).symm
def cF (f:ByteArray×Ty):ByteArray×Ty:=(f.1,b9 f.2)
theorem b7K {l:List (ByteArray×Ty)} (h:P7 x8 l):P7 x8 (l.map cF):=List.pairwise_map.2 h
theorem a0O {t:Ty} (h:t.op≠11) (hk:t.kids=[]):b9 t=t:=by
 rw[x9 h,hk,c5f];obtain⟨op,nm,n,ks⟩:=t;simp only[Ty.kids] at hk;subst hk;rfl
theorem a4p {l:List (ByteArray×Ty)} (h:P7 x8 l) {tl:Ty} (ht:tl.op≠11) (hk:tl.kids=[]):b9 (A4 l tl)=A4 (l.map cF) tl:=by
 cases l with
 | nil=>exact a0O ht hk
 | cons f l =>
  have h11:(A4 (f::l) tl).op=11:=a6s (by simp);rw[G9 h11,(E7 ht (f::l)).1,(E7 ht (f::l)).2,a2k h];rfl
section
variable {W:ByteArray->Bool}
theorem a7O {t:Ty} (h:c8 W t 114=true) (h11:t.op≠11):t.kids=[]/\(t.op=8\/t.op=9\/t.op=10):=by
 obtain⟨k,hk,h1,h2,-⟩:=f9 h;have h8:8<=t.op:=by simpa using h1
 unfold y6 at hk
 split at hk
 ·injection hk with hk;subst hk;exact⟨c3P h2,by omega⟩
 ·repeat' split at hk
  all_goals first|omega|cases hk
theorem P9 {t:Ty} (h:c8 W t 114=true):(f7 t).op≠11/\(f7 t).kids=[]/\((f7 t).op=8\/(f7 t).op=9\/(f7 t).op=10):=by
 have h1:=b12 (j7 h).self;have h2:=a7O (y7 h).2 h1;exact⟨h1,h2.1,h2.2⟩
theorem a2l {t:Ty} (h:c8 W t 114=true):c6 (b9 t)=(d5 x8 (c6 t)).map cF/\f7 (b9 t)=f7 t:=by
 have ht:=P9 h
 by_cases h11:t.op=11
 ·rw[G9 h11];exact E7 ht.1 _
 ·obtain⟨h1,h2⟩:=z8 h11;rw[a0O h11 (a7O h h11).1,h1,h2];exact⟨rfl,rfl⟩
theorem a2m {t:Ty} (h:c8 W t 114=true):t=A4 (c6 t) (f7 t):=by
 induction t using Ty.ind with
 | h t ih =>
  by_cases h11:t.op=11
  ·obtain⟨_,a,b,hk,hn,hw,ha,hb⟩:=K9 h h11;obtain⟨a',b',hk',hsb,hf,ht⟩:=C4 (j7 h).self h11;rw[hk] at hk';injection hk' with e1 e2;injection e2 with e2 _;subst e1;subst e2;rw[hf,ht,H6,<-ih b (by rw[hk];simp) hb]
   conv=>lhs;rw[Ty.eta t,h11,hn,hk]
  ·obtain⟨h1,h2⟩:=z8 h11;rw[h1,h2];rfl
theorem a2n {t:Ty} (h:c8 W t 114=true):b9 t=A4 ((d5 x8 (c6 t)).map cF) (f7 t):=by
 by_cases h11:t.op=11
 ·exact G9 h11
 ·obtain⟨h1,h2⟩:=z8 h11;rw[a0O h11 (a7O h h11).1,h1,h2];rfl
theorem A8:∀(n:Nat) (t:Ty) (s:Int),t.parts.length<=n->c8 W t s=true->b9 (b9 t)=b9 t:=by
 intro n
 induction n with
 | zero=>intro t s h;have:=j5 t;omega
 | succ n ih =>
  intro t s hn h
  by_cases h11:t.op=11
  ·obtain⟨rfl,-⟩:=K9 h h11;have ht:=P9 h;rw[a2n h,a4p (b7K (M4 a7N _)) ht.1 ht.2.1,c4X]
   congr 1
   refine c4s λf hf=>?_
   have hm:=B8 hf;have h1:=A1 _ t (c3A _) f hm;have h2:=(y7 h).1 f hm;show (f.1,b9 (b9 f.2))=(f.1,b9 f.2);rw[ih f.2 116 (by omega) h2.2]
  ·rw[x9 h11,x9 (by exact h11)];simp only[Ty.op,Ty.name,Ty.n,Ty.kids];rw[c4X]
   congr 1
   obtain⟨k,hk,h1,h2,h3,h4,h5,h6⟩:=f9 h;refine c4s λx hx=>?_
   obtain⟨i,hi⟩:=c4f.1 hx;have hil:i<k.length:=by rw[<-h2];exact(c35.1 hi).1
   have hxs:=a2j h6 i x _ hi (c39 hil);have:=(m9 t).2 x hx;exact ih x _ (by omega) hxs
end
def a1L (c:List (Int×Ty)) (n:Int) (to:Ty):Option (List (Int×Ty)) :=
 match c.find? λp=>p.1 == n with
 | some p=>if L4 p.2 to=true then some c else none
 | none=>some (c++[(n,to)])
def H3 (nm:ByteArray):List (ByteArray×Ty)->Option (Ty×List (ByteArray×Ty))
 | []=>none
 | f::l=>if f.1=nm then some (f.2,l) else (H3 nm l).map λp=>(p.1,f::p.2)
theorem a9a (nm:ByteArray):∀l:List (ByteArray×Ty),H3 nm (l.map cF)=(H3 nm l).map λp=>(b9 p.1,p.2.map cF)
 | []=>rfl
 | f::l=>by
  rw[c3Y,H3,H3,a9a nm l];show (if f.1=nm then _ else _)=_
  split
  ·rfl
  ·cases H3 nm l <;> rfl
theorem a4q (nm:ByteArray):∀l:List (ByteArray×Ty),(∀f∈l,f.1≠nm)->H3 nm l=none
 | [],_=>rfl
 | f::l,h=>by rw[H3,c3G (h f (c38 ..)),a4q nm l λg hg=>h g (c36 _ hg)];rfl
theorem a4r (nm:ByteArray):∀l m:List (ByteArray×Ty),(∀f∈l,f.1≠nm)->H3 nm (l++m)=(H3 nm m).map λp=>(p.1,l++p.2)
 | [],m,_=>by
  rw[c4t];cases H3 nm m <;> rfl
 | f::l,m,h=>by
  rw[c4r,H3,c3G (h f (c38 ..)),a4r nm l m λg hg=>h g (c36 _ hg)];cases H3 nm m <;> rfl
def x6:Nat->Ty->Ty->List (Int×Ty)->Option (List (Int×Ty))
 | 0,_,_,_=>none
 | m+1,g,s,c =>
  if g.op=7\/g.op=10 then a1L c g.n s
  else if g.op=11 then
   match g.kids with
   | [a,b]=>(H3 g.name (c6 s)).bind λp=>(x6 m a p.1 c).bind λc'=>x6 m b (A4 p.2 (f7 s)) c'
   | _=>none
  else if g.op≠s.op then none else (g.kids.zip s.kids).foldlM (λc p=>x6 m p.1 p.2 c) c
theorem a0d {m:Nat} {g s:Ty} {c:List (Int×Ty)} (h:g.op=7\/g.op=10):x6 (m+1) g s c=a1L c g.n s:=by rw[x6,c3E h]
theorem a0e {m:Nat} {g s a b:Ty} {c:List (Int×Ty)} (h11:g.op=11) (hk:g.kids=[a,b]):x6 (m+1) g s c=(H3 g.name (c6 s)).bind λp=>(x6 m a p.1 c).bind λc'=>x6 m b (A4 p.2 (f7 s)) c':=by
 rw[x6,c3G (by omega),c3E h11,hk]
theorem U6 {m:Nat} {g s:Ty} {c:List (Int×Ty)} (h:¬(g.op=7\/g.op=10)) (h11:g.op≠11):x6 (m+1) g s c=if g.op≠s.op then none else (g.kids.zip s.kids).foldlM (λc p=>x6 m p.1 p.2 c) c:=by
 rw[x6,c3G h,c3G h11]
theorem a4Z {g a b:Ty} (hk:g.kids=[a,b]):g.parts.length=1+a.parts.length+b.parts.length:=by
 rw[d9,hk];simp only[c3C,c4H,c5k,c3X,c37];omega
section
variable {W:ByteArray->Bool}
end
def goC (T:Ty->Ty->List (Int×Ty)->Option (List (Int×Ty))):List (ByteArray×Ty)->List (ByteArray×Ty)->List (ByteArray×Ty)->List (Int×Ty)->Option (List (Int×Ty)×List (ByteArray×Ty))
 | [],[],left,c=>some (c,left)
 | _::_,[],_,_=>none
 | [],x::ml,left,c=>goC T [] ml (left++[x]) c
 | g::gl,x::ml,left,c=>if x8 g x=true then none else if g.1≠x.1 then goC T (g::gl) ml (left++[x]) c else (T g.2 x.2 c).bind λc'=>goC T gl ml left c'
def b19 (gt t:Ty) (p:List (Int×Ty)×List (ByteArray×Ty)):Option (List (Int×Ty)) :=
 if gt.op=10 then a1L p.1 gt.n (A4 p.2 t) else if p.2=[]/\gt.op=t.op then some p.1 else none
theorem b2W {m:Nat} {gt t:Ty} {left:List (ByteArray×Ty)} {c:List (Int×Ty)} (hg:gt.op=8\/gt.op=9\/gt.op=10) (hgk:gt.kids=[]):b19 gt t (c,left)=x6 (m+1) gt (A4 left t) c:=by
 unfold b19
 by_cases h10:gt.op=10
 ·rw[c3E h10,a0d (.inr h10)]
 ·rw[c3G h10,U6 (by omega) (by omega),hgk];cases left with
  | nil =>
   show _=if gt.op≠t.op then none else some c
   by_cases h:gt.op=t.op
   ·rw[c3E ⟨rfl,h⟩,c3G (λhn=>hn h)]
   ·rw[c3G (λhn=>h hn.2),c3E h]
  | cons f left =>
   rw[c3G (by simp),c3E];show gt.op≠11;omega
theorem b7L {T:Ty->Ty->List (Int×Ty)->Option (List (Int×Ty))} {gt t:Ty} (hg:gt.op=8\/gt.op=9\/gt.op=10) (hgk:gt.kids=[]) (ht:t.op≠11):∀(ml gl left:List (ByteArray×Ty)) (c:List (Int×Ty)) (m:Nat),
  (∀f∈gl,∀x∈ml,∀c k,f.2.parts.length<=k->T f.2 x.2 c=x6 k f.2 x.2 c)->P7 x8 gl->P7 x8 ml->(∀x∈left,∀f∈gl,x.1≠f.1)->(A4 gl gt).parts.length<=m->(goC T gl ml left c).bind (b19 gt t)=x6 m (A4 gl gt) (A4 (left++ml) t) c:=by
 intro ml
 induction ml with
 | nil =>
  intro gl left c m hT hs1 hs2 hl hm;cases m with
  | zero=>have:=j5 (A4 gl gt);omega
  | succ m =>
   rw[c3X];cases gl with
   | nil=>exact b2W hg hgk
   | cons g gl =>
    rw[goC,a0e (a:=g.2) (b:=A4 gl gt) (by rfl) (by rfl),(E7 ht left).1,show (A4 (g::gl) gt).name=g.1 from rfl,a4q _ left λx hx=>hl x hx g (c38 ..)];rfl
 | cons x ml ih =>
  intro gl left c m hT hs1 hs2 hl hm;have hs2':=c4n.1 hs2;have e:left++x::ml=(left++[x])++ml:=by simp
  cases gl with
  | nil =>
   rw[goC,e];exact ih [] (left++[x]) c m (λf hf=>by simp at hf) hs1 hs2'.2 (λy _ f hf=>by simp at hf) hm
  | cons g gl =>
   have hs1':=c4n.1 hs1;have hfs:=(E7 ht (left++x::ml));cases m with
   | zero=>have:=j5 (A4 (g::gl) gt);omega
   | succ m =>
    rw[goC]
    by_cases h1:x8 g x=true
    ·rw[c3E h1,a0e (a:=g.2) (b:=A4 gl gt) (by rfl) (by rfl),hfs.1,show (A4 (g::gl) gt).name=g.1 from rfl,a4q]
     ·rfl
     ·intro f hf e
      rcases c4b.1 hf with hf|hf
      ·exact hl f hf g (c38 ..) e
      ·have h2:x8 g f=true:=by
        rcases c3F.1 hf with rfl|hf
        ·exact h1
        ·exact a0x a7N h1 (hs2'.1 f hf)
       unfold x8 at h2;rw[e,a1K] at h2;cases h2
    ·rw[c3G h1];have h1':x8 g x=false:=by simpa using h1
     by_cases h2:g.1=x.1
     ·rw[c3G (λh=>h h2),hT g (c38 ..) x (c38 ..) c m (by
       have:=a4Z (show (A4 (g::gl) gt).kids=[g.2,A4 gl gt] from rfl)
       omega),a0e (a:=g.2) (b:=A4 gl gt) (by rfl) (by rfl),hfs.1,hfs.2,show (A4 (g::gl) gt).name=g.1 from rfl,a4r _ left _ λf hf=>hl f hf g (c38 ..),H3,c3E h2.symm]
      show _=(x6 m g.2 x.2 c).bind _;cases x6 m g.2 x.2 c with
      | none=>rfl
      | some c' =>
       have:=a4Z (show (A4 (g::gl) gt).kids=[g.2,A4 gl gt] from rfl);exact ih gl left c' m (λf hf y hy=>hT f (c36 _ hf) y (c36 _ hy)) hs1'.2 hs2'.2 (λy hy f hf=>hl y hy f (c36 _ hf)) (by omega)
     ·rw[c3E h2,e];refine ih (g::gl) (left++[x]) c (m+1) (λf hf y hy=>hT f hf y (c36 _ hy)) hs1 hs2'.2 (λy hy f hf=>?_) hm
      rcases c4b.1 hy with hy|hy
      ·exact hl y hy f hf
      ·simp at hy
       subst hy;intro e
       have h3:x8 y f=true:=by
        rcases c3F.1 hf with rfl|hf
        ·exact b0h h1' h2
        ·exact a0x a7N (b0h h1' h2) (hs1'.1 f hf)
       unfold x8 at h3;rw[e,a1K] at h3;cases h3
def a6u (T:Ty->Ty->List (Int×Ty)->Option (List (Int×Ty))) (g s:Ty) (c:List (Int×Ty)):Option (List (Int×Ty)):=(goC T (c6 g) (c6 s) [] c).bind (b19 (f7 g) (f7 s))
def G6:Nat->Ty->Ty->List (Int×Ty)->Option (List (Int×Ty))
 | 0,_,_,_=>none
 | m+1,g,s,c =>
  if g.op=7 then a1L c g.n s
  else if g.op=5\/g.op=6 then
   if s.op=g.op then
    match g.kids,s.kids with
    | [a],[b]=>a6u (G6 m) a b c
    | _,_=>none
   else none
  else if g.op=4 then
   if s.op=4 then
    match g.kids,s.kids with
    | [a,b],[x,y]=>(G6 m a x c).bind λc'=>G6 m b y c'
    | _,_=>none
   else none
  else if s.op=g.op then some c else none
def Cn (t:Ty):Prop:=b9 t=t
section
variable {W:ByteArray->Bool}
theorem L3 {t:Ty} (h:c8 W t 114=true) (hc:Cn t):P7 x8 (c6 t)/\∀f∈c6 t,Cn f.2:=by
 have h1:=(a2l h).1;rw[hc] at h1;have h2:P7 x8 (c6 t):=by rw[h1];exact b7K (M4 a7N _)
 refine⟨h2,λf hf=>?_⟩;have h3:=hf;rw[h1,a2k h2] at h3;obtain⟨g,hg,rfl⟩:=c4o.1 h3;exact A8 _ g.2 116 (c3A _) ((y7 h).1 g hg).2
theorem a1x {t:Ty} (h11:t.op≠11) (hc:Cn t):∀x∈t.kids,Cn x:=by
 have h1:t.kids.map b9=t.kids:=by
  have h2:=congrArg Ty.kids hc;rw[x9 h11] at h2;exact h2
 intro x hx;obtain⟨i,hi⟩:=c4f.1 hx;have h3:=congrArg (·[i]?) h1;simp only[c4j,hi,c4G] at h3;exact Option.some.inj h3
theorem b2X {T:Ty->Ty->List (Int×Ty)->Option (List (Int×Ty))} {g s:Ty} (hg:c8 W g 114=true) (hs:c8 W s 114=true) (cg:Cn g) (cs:Cn s) (hT:∀f∈c6 g,∀x∈c6 s,∀c k,f.2.parts.length<=k->T f.2 x.2 c=x6 k f.2 x.2 c) (c:List (Int×Ty)) (m:Nat) (hm:g.parts.length<=m):a6u T g s c=x6 m g s c:=by
 have h1:=b7L (T:=T) (P9 hg).2.2 (P9 hg).2.1 (P9 hs).1 (c6 s) (c6 g) [] c m hT (L3 hg cg).1 (L3 hs cs).1 (by simp) (by rw[<-a2m hg];exact hm);rw[c4t,<-a2m hg,<-a2m hs] at h1;exact h1
theorem a3i:∀(m:Nat) (g s:Ty) (c:List (Int×Ty)) (k:Nat),c8 W g 116=true->c8 W s 116=true->Cn g->Cn s->g.parts.length<=m->g.parts.length<=k->G6 m g s c=x6 k g s c:=by
 intro m
 induction m with
 | zero=>intro g s c k _ _ _ _ h;have:=j5 g;omega
 | succ m ih =>
  intro g s c k hg hs cg cs hm hk;cases k with
  | zero=>have:=j5 g;omega
  | succ k =>
   obtain⟨kg,hkg,h1,h2,h3,h4,h5,h6⟩:=f9 hg;obtain⟨ks,hks,h1',h2',h3',h4',h5',h6'⟩:=f9 hs;have h8:¬(8<=g.op):=by simpa using h1
   have h8':¬(8<=s.op):=by simpa using h1'
   rw[G6]
   by_cases h7:g.op=7
   ·rw[c3E h7,a0d (.inl h7)]
   ·rw[c3G h7,U6 (by omega) (by omega)]
    by_cases h56:g.op=5\/g.op=6
    ·rw[c3E h56]
     by_cases he:s.op=g.op
     ·rw[c3E he,c3G (λh=>h he.symm)];have e:y6 g.op=some [114]:=by unfold y6;rw[c3G (by omega),c3G (by omega),c3E h56]
      rw[e] at hkg;rw[he,e] at hks;injection hkg with hkg;injection hks with hks;subst hkg;subst hks;have hcg:=a1x (by omega) cg;have hcs:=a1x (by omega) cs;have hkl:=(m9 g).2;generalize g.kids=gk at *;generalize s.kids=sk at *
      match gk,sk,h2,h2',h6,h6' with
      | [a],[b],_,_,h6,h6' =>
       rw[n6,c3D] at h6 h6';have ha:=hkl a (by simp)
       have hr:=b2X (T:=G6 m) h6.1 h6'.1 (hcg a (by simp)) (hcs b (by simp)) (λf hf x hx c k' hk'=>by
        have h7:=(y7 h6.1).1 f hf;have h8:=(y7 h6'.1).1 x hx;have h9:=A1 _ a (c3A _) f hf
        exact ih f.2 x.2 c k' h7.2 h8.2 ((L3 h6.1 (hcg a (by simp))).2 f hf) ((L3 h6'.1 (hcs b (by simp))).2 x hx) (by omega) hk') c k (by omega)
       simp only[hr,c5y,List.zip_nil_right,c5v,List.foldlM_nil];cases x6 k a b c <;> rfl
     ·rw[c3G he,c3E (λh=>he h.symm)]
    ·rw[c3G h56]
     by_cases h44:g.op=4
     ·rw[c3E h44]
      by_cases he:s.op=4
      ·rw[c3E he,c3G (λh=>h (by omega))];have e:y6 4=some [116,116]:=by decide
       rw[h44,e] at hkg;rw[he,e] at hks;injection hkg with hkg;injection hks with hks;subst hkg;subst hks;have hcg:=a1x (by omega) cg;have hcs:=a1x (by omega) cs;have hkl:=(m9 g).2;generalize g.kids=gk at *;generalize s.kids=sk at *
       match gk,sk,h2,h2',h6,h6' with
       | [a,b],[x,y],_,_,h6,h6' =>
        rw[n6,c3D,n6,c3D] at h6 h6';have ha:=hkl a (by simp);have hb:=hkl b (by simp);have i1:=ih a x c k h6.1 h6'.1 (hcg a (by simp)) (hcs x (by simp)) (by omega) (by omega);simp only[i1,c5y,List.zip_nil_right,c5v,List.foldlM_nil];cases x6 k a x c with
        | none=>rfl
        | some c' =>
         have i2:=ih b y c' k h6.2.1 h6'.2.1 (hcg b (by simp)) (hcs y (by simp)) (by omega) (by omega);simp only[c4C,i2];show x6 k b y c'=(x6 k b y c').bind λc=>some c
         cases x6 k b y c' <;> rfl
      ·rw[c3G he,c3E (by omega)]
     ·rw[c3G h44]
      have e:y6 g.op=some []:=by
       unfold y6 at hkg ⊢
       split at hkg
       ·rename_i h;rw[c3E h]
       ·repeat' split at hkg
        all_goals first|omega|cases hkg
      rw[e] at hkg;injection hkg with hkg;subst hkg;have hgk:g.kids=[]:=c3P h2;rw[hgk]
      by_cases he:s.op=g.op
      ·rw[c3E he,c3G (λh=>h he.symm)];rfl
      ·rw[c3G he,c3E (λh=>he h.symm)]
end
def a1r (c:List (Int×Ty)):List Int:=c.map (·.1)
theorem a4s {c c':List (Int×Ty)} {n:Int} {x:Ty} (h:a1L c n x=some c'):((a1r c).Nodup->(a1r c').Nodup)/\(∀k∈a1r c,k∈a1r c')/\n∈a1r c':=by
 unfold a1L at h
 split at h
 ·rename_i p hp
  split at h
  ·injection h with h;subst h;have h1:=c47 hp;have h2:=c5n hp;exact⟨id,λk hk=>hk,c4o.2 ⟨p,h1,by simpa using h2⟩⟩
  ·cases h
 ·rename_i hp;injection h with h;subst h;rw[c5C] at hp;unfold a1r;rw[c4J];refine⟨λhn=>c51.2 ⟨hn,by simp,λa ha b hb e=>?_⟩,λk hk=>c48 _ hk,by simp⟩
  simp at hb
  subst hb;subst e;obtain⟨p,hp1,hp2⟩:=c4o.1 ha;exact hp p hp1 (by simp[hp2])
def b2Y (c c':List (Int×Ty)):Prop:=((a1r c).Nodup->(a1r c').Nodup)/\∀k∈a1r c,k∈a1r c'
theorem b2Y.trans {a b c:List (Int×Ty)} (h:b2Y a b) (k:b2Y b c):b2Y a c:=⟨λx=>k.1 (h.1 x),λn x=>k.2 n (h.2 n x)⟩
theorem a9c {f:List (Int×Ty)->Ty×Ty->Option (List (Int×Ty))}:∀ {P:List (Ty×Ty)} {c c':List (Int×Ty)},(∀p∈P,∀c c',f c p=some c'->b2Y c c'/\∀v∈p.1.parts,r9 v=true->v.n∈a1r c')->P.foldlM f c=some c'->b2Y c c'/\∀p∈P,∀v∈p.1.parts,r9 v=true->v.n∈a1r c'
 | [],c,c',_,h=>by
  simp at h
  subst h;exact⟨⟨id,λ_ h=>h⟩,by simp⟩
 | p::P,c,c',hf,h=>by
  rw[c5v] at h;cases h1:f c p with
  | none=>rw[h1] at h;cases h
  | some c1 =>
   rw[h1] at h;have a1:=hf p (c38 ..) c c1 h1;have a2:=a9c (λq hq=>hf q (c36 _ hq)) (c:=c1) (c':=c') h;refine⟨a1.1.trans a2.1,λq hq v hv hi=>?_⟩
   rcases c3F.1 hq with rfl|hq
   ·exact a2.1.2 _ (a1.2 v hv hi)
   ·exact a2.2 q hq v hv hi
theorem a3j:∀(m:Nat) (g s:Ty) (c c':List (Int×Ty)),x6 m g s c=some c'->b2Y c c':=by
 intro m
 induction m with
 | zero=>intro g s c c' h;cases h
 | succ m ih =>
  intro g s c c' h
  by_cases hv:g.op=7\/g.op=10
  ·rw[a0d hv] at h;exact⟨(a4s h).1,(a4s h).2.1⟩
  ·by_cases h11:g.op=11
   ·rw[x6,c3G hv,c3E h11] at h
    split at h
    ·cases h1:H3 g.name (c6 s) with
     | none=>rw[h1] at h;cases h
     | some p =>
      rw[h1] at h;simp only[c4C] at h;cases h2:x6 m _ p.1 c with
      | none=>rw[h2] at h;cases h
      | some c1 =>
       rw[h2] at h;exact(ih _ _ _ _ h2).trans (ih _ _ _ _ h)
    ·cases h
   ·rw[U6 hv h11] at h
    split at h
    ·cases h
    ·generalize g.kids.zip s.kids=P at h;clear hv h11
     induction P generalizing c with
     | nil=>simp at h;subst h;exact⟨id,λ_ h=>h⟩
     | cons p P ihP =>
      rw[c5v] at h;cases h1:x6 m p.1 p.2 c with
      | none=>rw[h1] at h;cases h
      | some c1=>rw[h1] at h;exact(ih _ _ _ _ h1).trans (ihP c1 h)
theorem a3B (nm:ByteArray):∀ {l:List (ByteArray×Ty)} {p:Ty×List (ByteArray×Ty)},H3 nm l=some p->(nm,p.1)∈l/\∀f∈p.2,f∈l
 | [],p,h=>by cases h
 | f::l,p,h=>by
  rw[H3] at h
  split at h
  ·rename_i e;injection h with h;subst h;subst e;exact⟨c38 ..,λg hg=>c36 _ hg⟩
  ·cases h1:H3 nm l with
   | none=>rw[h1] at h;cases h
   | some q =>
    rw[h1] at h;injection h with h;subst h;have ih:=a3B nm h1;refine⟨c36 _ ih.1,λg hg=>?_⟩
    rcases c3F.1 hg with rfl|hg
    ·exact c38 ..
    ·exact c36 _ (ih.2 g hg)
section
variable {W:ByteArray->Bool}
theorem M7 {t:Ty} {s:Int} (h:c8 W t s=true) (hv:t.op=7\/t.op=10):t.kids=[]:=by
 obtain⟨k,hk,h1,h2,-⟩:=f9 h;unfold y6 at hk;rw[c3E (by omega)] at hk;injection hk with hk;subst hk;exact c3P h2
theorem l5 {t:Ty}:r9 t=true↔t.op=7\/t.op=10:=by unfold r9;simp
theorem b0i:∀(m:Nat) (g s:Ty) (c c':List (Int×Ty)) (e:Int),c8 W g e=true->c8 W s e=true->x6 m g s c=some c'->∀v∈g.parts,r9 v=true->v.n∈a1r c':=by
 intro m
 induction m with
 | zero=>intro g s c c' e _ _ h;cases h
 | succ m ih =>
  intro g s c c' e hg hs h v hvm hvv;rw[d9] at hvm
  by_cases hv:g.op=7\/g.op=10
  ·rw[a0d hv] at h;rw[M7 hg hv] at hvm
   simp at hvm
   subst hvm;exact(a4s h).2.2
  ·have hgv:v≠g:=λe=>by rw[e,l5] at hvv;exact hv hvv
   have hvm:=(c3F.1 hvm).resolve_left hgv
   by_cases h11:g.op=11
   ·obtain⟨rfl,a,b,hk,hn,hw,ha,hb⟩:=K9 hg h11;rw[a0e h11 hk] at h;rw[hk] at hvm;simp only[c4H,c5k,c3X,c4b] at hvm;cases h1:H3 g.name (c6 s) with
    | none=>rw[h1] at h;cases h
    | some p =>
     rw[h1] at h;simp only[c4C] at h;cases h2:x6 m a p.1 c with
     | none=>rw[h2] at h;cases h
     | some c1 =>
      rw[h2] at h;have hf:=(y7 hs);have ht:=a3B g.name h1
      rcases hvm with hvm|hvm
      ·exact(a3j m _ _ _ _ h).2 _ (ih a p.1 c c1 116 ha (hf.1 _ ht.1).2 h2 v hvm hvv)
      ·exact ih b _ c1 c' 114 hb (a1h hf.2 λf hfm=>hf.1 f (ht.2 f hfm)) h v hvm hvv
   ·rw[U6 hv h11] at h
    split at h
    ·cases h
    ·rename_i he;have he:g.op=s.op:=Classical.not_not.1 he;have hb:b5S W g s:=⟨e,hg,hs⟩;have hkk:=hb.kids he;obtain⟨x,hx,hvx⟩:=c4a.1 hvm;obtain⟨i,hi⟩:=c4f.1 hx;have hil:i<s.kids.length:=by rw[<-hkk.1];exact(c35.1 hi).1
     have hz:(x,s.kids[i])∈g.kids.zip s.kids:=c4f.2 ⟨i,c5c.2 ⟨hi,c39 hil⟩⟩
     have hf:=a9c (f:=λc p=>x6 m p.1 p.2 c) (P:=g.kids.zip s.kids) (λp hp c c' hm=>⟨a3j m _ _ _ _ hm,λv hv hi=>by
      obtain⟨j,hj⟩:=c4f.1 hp;rw[c5c] at hj;obtain⟨d,hd1,hd2⟩:=hkk.2 j p.1 p.2 hj.1 hj.2
      exact ih p.1 p.2 c c' d hd1 hd2 hm v hv hi⟩) h
     exact hf.2 _ hz v hvx hvv
end
theorem b7M {c:List (Int×Ty)} {n:Int} (hn:(a1r c).Nodup) (h:n∈a1r c):∃x,(c.find? λp=>p.1 == n)=some (n,x)/\c.filter (λp=>p.1 == n)=[(n,x)]:=by
 induction c with
 | nil=>simp[a1r] at h
 | cons p c ih =>
  obtain⟨k,x⟩:=p;have hn':=c44.1 (show (k::a1r c).Nodup from hn)
  by_cases e:k=n
  ·subst e;refine⟨x,by simp,?_⟩;rw[List.filter_cons_of_pos (by simp)]
   congr 1
   rw[List.filter_eq_nil_iff];intro q hq hq2;exact hn'.1 (c4o.2 ⟨q,hq,by simpa using hq2⟩)
  ·have h':n∈a1r c:=(c3F.1 (show n∈k::a1r c from h)).resolve_left λh=>e h.symm
   obtain⟨y,h1,h2⟩:=ih hn'.2 h';exact⟨y,by rw[List.find?_cons_of_neg (by simpa using e)];exact h1,by rw[List.filter_cons_of_neg (by simpa using e)];exact h2⟩
end
theorem b9D (fs:List (ByteArray×Ty)):d5 A9 (rF fs)=rF (d5 x8 fs):=a8Y (f:=λx:ByteArray×Ty=>D.sc (.string x.1)::cT x.2) (λ_ _=>rfl) fs
theorem c12 (fs:List (ByteArray×Ty)):∀x∈rF fs,Ok5 x:=λx hx=>by
 obtain⟨f,_,rfl⟩:=c4o.1 hx;obtain⟨c0,c1,c2,c3,h⟩:=c9 f.2;exact⟨f.1,c0,c1,c2,c3,by show D.sc (.string f.1)::cT f.2=_;rw[h]⟩
theorem b42 (fs:List (ByteArray×Ty)) (f:ByteArray×Ty):rF (fs++[f])=rF fs++[.sc (.string f.1)::cT f.2]:=by unfold rF;rw[c4J];rfl
theorem b2Z (t:Ty) (hs:G2 t) (hN:t.parts.length<=1048576):o5 60 [.ag (ofD (cT t))] [] (λres os'=>res=[.own 0,.ag (ofD (cT (f7 t)))]/\os'=[.row false 73 (rF (d5 x8 (c6 t)))]):=by
 have hso:=b7J 77 b9B (rF (c6 t)) (c12 _) (by rw[G1];have:=U5 _ t (c3A _);omega);rw[b9D] at hso;obtain⟨Q,hQ⟩:∃Q,Q=rF (d5 x8 (c6 t)):=⟨_,rfl⟩;obtain⟨M,hM⟩:∃M,M=rF (c6 t):=⟨_,rfl⟩;rw[<-hQ,<-hM] at hso;rw[<-hQ];obtain⟨q0,q1,q2,q3,hq⟩:=c9 (f7 t);rw[hq];obtain⟨op,nm,n,ks⟩:=t;generalize ht:Ty.mk op nm n ks=t at *;have hc:cT t=[.sc (.int .u8 op),.sc (.string nm),.sc (.int .i64 n),.sl 4 (rT ks)]:=by rw[<-ht,cT]
 obtain⟨K0,hK0⟩:∃K,K=rT ks:=⟨_,rfl⟩;rw[hc,<-hK0];refine so9 Tryd.func60 rfl ?_;intro _ _ _ _ _ _ _ _ _ qj _ _ _ _ _ _ _ _ _ _ _ _ _ qz _ vd;intros;rename_i hA;cbv
 repeat (first|(refine a2g hA 4 73 false rfl ?_;cbv)|(with_reducible apply b6 hA;cbv))
 obtain⟨e1,e2,e3,e4,e5,e6,e7,e8,e9⟩:=j3 hA;obtain⟨r1,r2,r3,r4⟩:=m8 hA
 refine l7 hA (γ:=Ty×Int×ByteArray×Int×List (List D)×List (List D)) (λx=>[(4,.own 2)]) (λx=>[(0,.box [.d (.sc (.int .u8 x.2.1)),.d (.sc (.string x.2.2.1)),.d (.sc (.int .i64 x.2.2.2.1)),.d (.sl 4 x.2.2.2.2.1)]),(2,.row false 73 x.2.2.2.2.2)])
  (λx=>∃ks fs,x.1=.mk x.2.1 x.2.2.1 x.2.2.2.1 ks/\x.2.2.2.2.1=rT ks/\G2 x.1/\x.2.2.2.2.2=rF fs/\fs++c6 x.1=c6 t/\f7 x.1=f7 t/\fs.length+x.1.parts.length<=1048576) (λx=>x.1.parts.length) (t,op,nm,n,K0,[]) ?_ ?_ ?_
 ·exact⟨ks,[],ht.symm,hK0,hs,rfl,rfl,rfl,by simpa using hN⟩
 ·cbv
 ·intro x hinv;obtain⟨r,op,nm,n,K,L⟩:=x;cbv;refine gn ?_;try simp only[nc] at *
  obtain⟨ks,fs,hr,hK,hsr,hL,hfs,htl,hlen⟩:=hinv;have h11:qj op 11=decide (op=11):=e9 _ _
  by_cases hop:op=11
  ·rw[c3K hop] at h11;obtain⟨a,b,hk,hsb,hfb,htb⟩:=C4 hsr (by rw[hr];exact hop);have hnmr:r.name=nm:=by rw[hr];rfl
   rw[hnmr] at hfb;have hks:ks=[a,b]:=by rw[<-hk,hr];rfl
   obtain⟨a0,a1,a2,a3,ha⟩:=c9 a;obtain⟨op',nm',n',ks'⟩:=b;generalize hb:Ty.mk op' nm' n' ks'=b at *;have hcb:cT b=[.sc (.int .u8 op'),.sc (.string nm'),.sc (.int .i64 n'),.sl 4 (rT ks')]:=by rw[<-hb,cT]
   obtain⟨K',hK'⟩:∃K,K=rT ks':=⟨_,rfl⟩;rw[<-hK'] at hcb;have g0:qz K 0=some [a0,a1,a2,a3]:=by rw[r2,c3E (by omega),hK,hks];exact congrArg some ha
   have g1:qz K 1=some [.sc (.int .u8 op'),.sc (.string nm'),.sc (.int .i64 n'),.sl 4 K']:=by rw[r2,c3E (by omega),hK,hks];exact congrArg some hcb
   have hLl:L.length<=1048576:=by rw[hL,G1];omega
   have hbl:b.parts.length<r.parts.length:=(m9 r).2 b (by rw[hk];simp);have hnew:vd L [[.sc (.string nm),a0,a1,a2,a3]]=rF (fs++[(nm,a)]):=by rw[r4,b42,hL,ha]
   rw[h11]
   iterate 2 (try cbv;repeat ((first|with_reducible apply b6 hA|rw[g0]|rw[g1]|refine z6 hA true ?_|(refine w8 hA (by simp only[r4,c37,c3C,c3H];omega) ?_));cbv))
   try simp (maxSteps:=4000000) only [nc] at *
   refine⟨(b,op',nm',n',K',vd L [[.sc (.string nm),a0,a1,a2,a3]]),⟨ks',fs++[(nm,a)],hb.symm,hK',hsb,hnew,by rw[<-hfs,hfb];simp,by rw[<-htl,htb],by rw[c37];show fs.length+1+b.parts.length<=_;omega⟩,hbl,?_⟩;cbv
  ·rw[c3I hop] at h11;obtain⟨hf0,ht0⟩:=z8 (t:=r) (by rw[hr];exact hop);rw[hf0,c3X] at hfs;have hLM:L=M:=by rw[hL,hM,hfs]
   rw[ht0,hr] at htl;rw[<-htl,cT,<-hK] at hq;rw[h11,hLM];cases hq;cbv;refine gn ?_;refine F7 hA [2] hso ⟨rfl,rfl,rfl,rfl,rfl,rfl,rfl⟩ ?_
   rintro res os2 ⟨rfl,rfl⟩
   cbv;refine gn ?_;exact i6 hA [2] ⟨rfl,rfl,rfl,rfl,rfl,rfl,rfl,rfl⟩ ⟨rfl,rfl⟩
section
def PtG {α:Type} (T:(α->Prop)->Prop):Prop:=∀K,T K->∃v,K v/\∀K',K' v->T K'
theorem Pt.g {T:(V->Prop)->Prop} (h:Pt T):PtG T:=h
theorem PtG.mono {α:Type} {T:(α->Prop)->Prop} (h:PtG T) {K K':α->Prop} (hT:T K) (hK:∀v,K v->K' v):T K':=by
 obtain⟨v,h1,h2⟩:=h K hT;exact h2 K' (hK v h1)
structure Ok (a:Ar):Prop where
 wrap:a.wrap=a7.wrap
 add:a.add=a7.add
 sub:a.sub=a7.sub
 mul:a.mul=a7.mul
 quo:a.quo=a7.quo
 rem:a.rem=a7.rem
 bits:a.bits=a7.bits
 lt:a.lt=a7.lt
 le:a.le=a7.le
 eq:a.eq=a7.eq
 nz:∀y k,a.nz y k->a7.nz y k
 nzp:∀y k k',a.nz y k->k'->a.nz y k'
 seq:a.seq=a7.seq
 slt:a.slt=a7.slt
 bytes:a.bytes=a7.bytes
 cat:a.cat=a7.cat
 fits:∀x y k,a.fits x y k->a7.fits x y k
 fitsp:∀x y k k',a.fits x y k->k'->a.fits x y k'
 slen:a.slen=a7.slen
 sget:a.sget=a7.sget
 ssub:a.ssub=a7.ssub
 txt:a.txt=a7.txt
 byt:a.byt=a7.byt
 nat:a.nat=a7.nat
 len:a.len=a7.len
 get:a.get=a7.get
 sub2:a.sub2=a7.sub2
 app:a.app=a7.app
 set:a.set=a7.set
 room:∀x y k,a.room x y k->a7.room x y k
 roomp:∀x y k k',a.room x y k->k'->a.room x y k'
 mlook:a.mlook=a7.mlook
 mput:a.mput=a7.mput
 deq:a.deq=a7.deq
 call:∀f rs K,a.call f rs K->a7.call f rs K
 callp:∀f rs,PtG (a.call f rs)
 calld:∀f vs o K,a.calld f vs o K->a7.calld f vs o K
 calldp:∀f vs o,PtG (a.calld f vs o)
 rep:∀n z K,a.rep n z K->a7.rep n z K
 repp:∀n z,PtG (a.rep n z)
 callo:∀f vs s K,a.callo f vs s K->a7.callo f vs s K
 callop:∀f vs s,PtG λK:V×S->Prop=>a.callo f vs s λv s'=>K (v,s')
 callx:∀f vs l s K,a.callx f vs l s K->a7.callx f vs l s K
 callxp:∀f vs l s,PtG λK:V×S->Prop=>a.callx f vs l s λv s'=>K (v,s')
 new:∀e K,a.new e K->a7.new e K
 newp:∀e,PtG (a.new e)
 lit:∀t K,a.lit t K->a7.lit t K
 litp:∀t,PtG (a.lit t)
 next:∀N s,a.next N s->N s
 nextp:∀N s,N s->a.next N s
 ext:∀op dst s K,¬a.ext op dst s K
 reg:∀ops s K,¬a.reg ops s K
 loop:∀c body s K,a.loop c body s K->(∀s K K',(∀x s,K x s->K' x s)->body s K->body s K')->a86 Eq body s K
 loopp:∀c body s,(∀s,PtG λK:X×S->Prop=>body s λx s=>K (x,s))->PtG λK:X×S->Prop=>a.loop c body s λx s=>K (x,s)
theorem b7N {n:Int} {z:List D} {K K':List (List D)->Prop} (h:a7.rep n z K) (hK:∀b,K b->K' b):a7.rep n z K':=⟨h.1,hK _ h.2⟩
theorem b7O {e:Nat} {K K':Bool->Prop} (h:a7.lit e K) (hK:∀b,K b->K' b):a7.lit e K':=by obtain⟨z,h⟩:=h;exact⟨z,hK _ h⟩
section
variable {a:Ar} (h:Ok a)
include h
theorem Ok.load:C1 a=C1 a7:=by funext os K t x;unfold C1;simp only[h.get]
theorem Ok.indexAddr:r6 a=r6 a7:=by funext os K t x y;unfold r6;simp only[h.get,h.nat]
theorem Ok.index:a26 a=a26 a7:=by funext K t x y;unfold a26;simp only[h.sget,h.nat]
theorem Ok.un:unV a=unV a7:=by funext op x K;unfold unV;simp only[h.wrap,h.sub]
theorem Ok.conv:a6h a=a6h a7:=by funext K k0 k x;unfold a6h b3G b3H b3I;simp only[h.wrap,h.txt,h.byt]
theorem Ok.lenV:lenV a=lenV a7:=by
 have e1:b5t a=b5t a7:=by funext os K x;unfold b5t;simp only[h.len]
 have e2:b5u a=b5u a7:=by funext K x;unfold b5u;simp only[h.slen]
 funext os K k x;unfold Vm.lenV;rw[e1,e2]
theorem Ok.slice:a25 a=a25 a7:=by funext os K t x lo hi;unfold a25;simp only[h.slen,h.ssub,h.len,h.sub2]
theorem Ok.look:a6i a=a6i a7:=by funext os K t ok x y;unfold a6i;simp only[h.mlook]
theorem Ok.min:a93 a=a93 a7:=by funext K mx l;unfold a93;simp only[h.lt]
theorem Ok.store {s:S}:F4 a s=F4 a7 s:=by funext K t y x;unfold F4;simp only[h.get,h.set]
theorem Ok.put {s:S}:a94 a s=a94 a7 s:=by funext K t x i v;unfold a94;simp only[h.mput]
theorem Ok.rInt {k:IntKind} {x y:Int} {K:V->Prop} {op:BinOp} (hx:binInt a k x y K op):Vm.binInt a7 k x y K op:=by
 unfold Vm.binInt at hx;simp only[h.wrap,h.add,h.sub,h.mul,h.quo,h.rem,h.lt,h.le,h.eq] at hx
 split at hx <;> first|exact hx|exact hx.elim|exact h.nz _ _ hx
theorem Ok.rStr {x y:ByteArray} {K:V->Prop} {op:BinOp} (hx:binStr a x y K op):Vm.binStr a7 x y K op:=by
 unfold Vm.binStr at hx;simp only[h.cat,h.seq,h.bytes,h.slt] at hx
 split at hx <;> first|exact hx|exact hx.elim|exact h.fits _ _ _ hx
theorem Ok.rIntp {k:IntKind} {x y:Int} {op:BinOp}:Pt λK=>binInt a k x y K op:=by
 intro K hx;unfold Vm.binInt at hx ⊢
 split at hx <;> first|exact hx.elim|exact⟨_,hx,λK' hk=>hk⟩|exact⟨_,(h.nz _ _ hx).2,λK' hk=>h.nzp _ _ _ hx hk⟩
theorem Ok.rStrp {x y:ByteArray} {op:BinOp}:Pt λK=>binStr a x y K op:=by
 intro K hx;unfold Vm.binStr at hx ⊢
 split at hx <;> first|exact hx.elim|exact⟨_,hx,λK' hk=>hk⟩|exact⟨_,(h.fits _ _ _ hx).2,λK' hk=>h.fitsp _ _ _ _ hx hk⟩
theorem Ok.rVal {x y:Value} {K:V->Prop} {op:BinOp} (hx:a10 a op x y K):a10 a7 op x y K:=by
 unfold a10 at hx ⊢
 split at hx
 ·split at hx
  ·rename_i hb;rw[h.bits] at hx
   first|exact hx|(rw[hb];exact hx)
  ·rename_i hb
   split at hx
   ·rename_i hk
    first|exact h.rInt hx|(rw[hb,hk];exact h.rInt hx)
   ·exact hx.elim
 ·exact h.rStr hx
 ·exact hx.elim
theorem Ok.rValp {x y:Value} {op:BinOp}:Pt λK=>a10 a op x y K:=by
 intro K hx;unfold a10 at hx ⊢
 split at hx
 ·split at hx
  ·rename_i hb;unfold c0G at hx ⊢
   split at hx <;> try exact hx.elim
   rename_i hr;exact⟨_,hx,λK' hk=>by first|exact hk|(rw[hb,hr];exact hk)⟩
  ·rename_i hb
   split at hx
   ·rename_i hk;obtain⟨v,h1,h2⟩:=h.rIntp K hx;exact⟨v,h1,λK' hk'=>by first|exact h2 K' hk'|(rw[hb,hk];exact h2 K' hk')⟩
   ·exact hx.elim
 ·exact h.rStrp K hx
 ·exact hx.elim
theorem Ok.rBin {x y:V} {K:V->Prop} {op:BinOp} {t:Nat} (hx:a8x a op t x y K):a8x a7 op t x y K:=by
 unfold a8x at hx ⊢
 split at hx
 ·split at hx
  ·exact hx
  ·exact hx
  ·exact h.rVal hx
 ·exact hx
 ·exact hx
 ·split at hx
  ·rw[h.len] at hx;exact h.nz _ _ hx
  ·exact hx
 ·exact hx
 ·rw[h.deq] at hx;exact hx
 ·exact hx
theorem Ok.rBinp {x y:V} {op:BinOp} {t:Nat}:Pt λK=>a8x a op t x y K:=by
 intro K hx;unfold a8x at hx ⊢
 split at hx <;> try exact hx.elim
 ·split at hx
  ·split at hx <;> try exact hx.elim
   exact W9 _ hx
  ·split at hx <;> try exact hx.elim
   exact W9 _ hx
  ·exact h.rValp _ hx
 ·split at hx <;> try exact hx.elim
  split at hx <;> try exact hx.elim
  exact W9 _ hx
 ·split at hx <;> try exact hx.elim
  split at hx <;> try exact hx.elim
  exact W9 _ hx
 ·split at hx <;> try exact hx.elim
  obtain⟨v,h3,h4⟩:=W9 _ ((h.nz _ _ hx).2);exact⟨v,h3,λK' hk=>h.nzp _ _ _ hx (h4 _ hk)⟩
 ·split at hx <;> try exact hx.elim
  exact W9 _ hx
 ·split at hx <;> try exact hx.elim
  split at hx <;> try exact hx.elim
  split at hx <;> try exact hx.elim
  exact W9 _ hx
theorem Ok.rCall {os:List O} {f:Nat} {vs:List V} {K:V->Prop} (hx:callV a os K f vs):Vm.callV a7 os K f vs:=by
 unfold Vm.callV at hx ⊢
 split at hx
 ·exact h.call _ _ _ hx
 ·exact h.calld _ _ _ _ hx
theorem Ok.rCallp {os:List O} {f:Nat} {vs:List V}:Pt λK=>callV a os K f vs:=by
 intro K hx;unfold Vm.callV at hx ⊢
 split at hx
 ·obtain⟨q,h1,h2⟩:=h.callp _ _ _ hx;exact⟨_,h1,λK' hk=>h2 _ hk⟩
 ·obtain⟨q,h1,h2⟩:=h.calldp _ _ _ _ hx;exact⟨_,h1,λK' hk=>h2 _ hk⟩
theorem Ok.rC {g:Operand->V} {os:List O} {K:V->Prop} {op:Op} (hx:stepC a g os K op):Vm.stepC a7 g os K op:=by
 unfold Vm.stepC at hx
 split at hx <;> try exact hx.elim
 ·exact hx
 ·exact hx
 ·exact hx
 ·rw[h.load] at hx;exact hx
 ·exact hx
 ·exact hx
 ·rw[h.indexAddr] at hx;exact hx
 ·rw[h.index] at hx;exact hx
 ·exact h.rBin hx
 ·rw[h.un] at hx;exact hx
 ·rw[h.conv] at hx;exact hx
 ·exact hx
 ·exact hx
 ·exact hx
 ·rw[h.slice] at hx;exact hx
 ·rw[h.lenV] at hx;exact hx
 ·exact h.rCall hx
 ·rw[h.look] at hx;exact hx
 ·rw[h.min] at hx;exact hx
 ·rw[h.min] at hx;exact hx
 ·exact hx
 ·exact hx
 ·unfold a5x at hx
  split at hx <;> try exact hx.elim
  rename_i f ks hf;show (match fnV _ with|some (f,ks)=>_|none=>False);rw[hf];exact h.rCall hx
theorem Ok.rCp {g:Operand->V} {os:List O} {op:Op}:Pt λK=>stepC a g os K op:=by
 intro K hx;simp only[Vm.stepC] at hx ⊢
 split at hx <;> try exact hx.elim
 ·exact⟨_,hx,λK' hk=>hk⟩
 ·exact⟨_,hx,λK' hk=>hk⟩
 ·exact b4c K hx
 ·rw[h.load] at hx ⊢;exact a0H K hx
 ·exact b1e K hx
 ·exact b4d K hx
 ·rw[h.indexAddr] at hx ⊢;exact a4J K hx
 ·rw[h.index] at hx ⊢;exact b4e K hx
 ·exact h.rBinp K hx
 ·rw[h.un] at hx ⊢;exact c0w K hx
 ·rw[h.conv] at hx ⊢;exact b4g K hx
 ·exact b1f K hx
 ·exact a0o K hx
 ·exact a7n K hx
 ·rw[h.slice] at hx ⊢;exact b1g K hx
 ·rw[h.lenV] at hx ⊢;exact b7k K hx
 ·exact h.rCallp K hx
 ·rw[h.look] at hx ⊢;exact b4f K hx
 ·rw[h.min] at hx ⊢;exact a9N K hx
 ·rw[h.min] at hx ⊢;exact a9N K hx
 ·exact c0v K hx
 ·split at hx <;> try exact hx.elim
  exact⟨_,hx,λK' hk=>by simp only[*]⟩
 ·simp only[a5x] at hx ⊢
  split at hx <;> try exact hx.elim
  exact h.rCallp K hx
theorem Ok.rApp {m:Bool} {s:S} {dst:Option Nat} {K:S->Prop} {t:Nat} {x y:V} (hx:B9 a m s dst K t x y):B9 a7 m s dst K t x y:=by
 unfold B9 at hx ⊢;simp only[h.app] at hx
 repeat' split at hx
 all_goals first|exact hx.elim|exact⟨(h.room _ _ _ hx).1,h.new _ _ (h.room _ _ _ hx).2⟩|exact h.room _ _ _ hx
theorem Ok.rAppp {m:Bool} {s:S} {dst:Option Nat} {t:Nat} {x y:V}:PtG λK=>B9 a m s dst K t x y:=by
 intro K hx;simp only[B9] at hx ⊢
 repeat' split at hx
 all_goals first|exact hx.elim|skip
 ·obtain⟨z,h1,h2⟩:=h.newp _ _ (h.room _ _ _ hx).2;exact⟨_,h1,λK' hk=>h.roomp _ _ _ _ hx (h2 _ hk)⟩
 ·exact⟨_,(h.room _ _ _ hx).2,λK' hk=>h.roomp _ _ _ _ hx hk⟩
theorem Ok.rLit {s:S} {dst:Option Nat} {K:S->Prop} {t n:Nat} {ps:List (Nat×Operand)} (hx:litV a s dst K t n ps):Vm.litV a7 s dst K t n ps:=by
 unfold Vm.litV at hx ⊢
 split at hx
 ·refine a0o.g.mono hx λv hv=>?_
  split at hv
  ·exact h.new _ _ hv
  ·exact hv.elim
 ·exact hx.elim
theorem Ok.rLitp {s:S} {dst:Option Nat} {t n:Nat} {ps:List (Nat×Operand)}:PtG λK=>litV a s dst K t n ps:=by
 intro K hx;simp only[Vm.litV] at hx ⊢
 split at hx
 ·obtain⟨v,h1,h2⟩:=a0o _ hx
  split at h1
  ·obtain⟨z,h3,h4⟩:=h.newp _ _ h1;exact⟨_,h3,λK' hk=>h2 _ (h4 _ hk)⟩
  ·exact h1.elim
 ·exact hx.elim
theorem Ok.rMk {s:S} {dst:Option Nat} {K:S->Prop} {t:Nat} {x y:V} (hx:N9 a s dst K t x y):N9 a7 s dst K t x y:=by
 unfold N9 at hx ⊢;simp only[h.eq] at hx
 repeat' split at hx
 all_goals first|exact hx.elim|skip
 exact b7N (h.rep _ _ _ hx) λrows hr=>h.new _ _ hr
theorem Ok.rMkp {s:S} {dst:Option Nat} {t:Nat} {x y:V}:PtG λK=>N9 a s dst K t x y:=by
 intro K hx;simp only[N9] at hx ⊢
 repeat' split at hx
 all_goals first|exact hx.elim|skip
 obtain⟨rows,h1,h2⟩:=h.repp _ _ _ hx;obtain⟨z,h3,h4⟩:=h.newp _ _ h1;exact⟨_,h3,λK' hk=>h2 _ (h4 _ hk)⟩
theorem Ok.rStep {m:Bool} {s:S} {dst:Option Nat} {K:S->Prop} {op:Op} (hx:step a m s dst K op):Vm.step a7 m s dst K op:=by
 unfold Vm.step at hx
 split at hx
 ·exact hx
 ·exact hx
 ·split at hx
  ·rw[h.store] at hx;exact hx
  ·exact hx.elim
 ·exact h.rMk hx
 ·exact hx
 ·split at hx
  ·rw[h.put] at hx;exact hx
  ·exact hx.elim
 ·split at hx
  ·rename_i e he;show (match (ty _).elem with|some e=>_|none=>False);rw[he];exact h.new _ _ hx
  ·exact hx.elim
 ·exact h.rApp hx
 ·split at hx
  ·refine b7O (h.lit _ _ hx) λc hc=>?_
   cases c with
   | true=>exact h.rC hc
   | false=>exact h.rLit hc
  ·exact h.rC hx
 ·split at hx
  ·exact h.callo _ _ _ _ hx
  ·exact h.rC hx
 ·split at hx
  ·split at hx
   ·rename_i f ks hf;show (match fnV _ with|some (f,ks)=>_|none=>False);rw[hf];exact h.callo _ _ _ _ hx
   ·exact hx.elim
  ·exact h.rC hx
 ·have h1:=h.rC hx;unfold Vm.step
  split <;> first|exact h1|grind
theorem Ok.rStepp {m:Bool} {s:S} {dst:Option Nat} {op:Op}:PtG λK=>step a m s dst K op:=by
 intro K hx;simp only[Vm.step] at hx ⊢
 split at hx
 ·split at hx
  ·exact⟨_,hx,λK' hk=>hk⟩
  ·exact hx.elim
 ·split at hx
  ·rename_i cs hcs;exact⟨_,hx,λK' hk=>hk⟩
  ·exact hx.elim
 ·split at hx
  ·rw[h.store] at hx ⊢;obtain⟨o',h1,h2⟩:=a3z hx;exact⟨_,h1,λK' hk=>h2 _ _ hk⟩
  ·exact hx.elim
 ·exact h.rMkp K hx
 ·split at hx
  ·split at hx
   ·rename_i kt hkt;exact⟨_,hx,λK' hk=>hk⟩
   ·exact hx.elim
  ·exact hx.elim
 ·split at hx
  ·simp only[a94] at hx ⊢
   repeat' split at hx
   all_goals first|exact hx.elim|exact⟨_,hx,λK' hk=>by simp only[*]⟩
  ·exact hx.elim
 ·split at hx
  ·rename_i e he;obtain⟨z,h1,h2⟩:=h.newp _ _ hx;exact⟨_,h1,λK' hk=>h2 _ hk⟩
  ·exact hx.elim
 ·exact h.rAppp K hx
 ·split at hx
  ·obtain⟨c,h1,h2⟩:=h.litp _ _ hx;cases c with
   | true =>
    obtain⟨v,h3,h4⟩:=h.rCp _ h1;exact⟨_,h3,λK' hk=>h2 _ (h4 _ hk)⟩
   | false =>
    obtain⟨v,h3,h4⟩:=h.rLitp _ h1;exact⟨_,h3,λK' hk=>h2 _ (h4 _ hk)⟩
  ·obtain⟨v,h3,h4⟩:=h.rCp _ hx;exact⟨_,h3,λK' hk=>h4 _ hk⟩
 ·split at hx
  ·obtain⟨⟨v,s'⟩,h1,h2⟩:=h.callop _ _ _ (λp=>K (p.2.put dst p.1)) hx;exact⟨_,h1,λK' hk=>h2 (λp=>K' (p.2.put dst p.1)) hk⟩
  ·obtain⟨v,h3,h4⟩:=h.rCp _ hx;exact⟨_,h3,λK' hk=>h4 _ hk⟩
 ·split at hx
  ·split at hx
   ·rename_i f ks hf;obtain⟨⟨v,s'⟩,h1,h2⟩:=h.callop _ _ _ (λp=>K (p.2.put dst p.1)) hx;exact⟨_,h1,λK' hk=>h2 (λp=>K' (p.2.put dst p.1)) hk⟩
   ·exact hx.elim
  ·obtain⟨v,h3,h4⟩:=h.rCp _ hx;exact⟨_,h3,λK' hk=>h4 _ hk⟩
 ·obtain⟨v,h3,h4⟩:=h.rCp _ hx;refine⟨_,h3,λK' hk=>?_⟩;exact h4 (λv=>K' (s.put dst v)) hk
theorem Ok.rStep1 {s:S} {dst:Option Nat} {K:S->Prop} {op:Op} (hx:step1 a s dst K op):Vm.step1 a7 s dst K op:=by
 unfold Vm.step1 at hx ⊢
 split at hx
 ·exact(h.ext _ _ _ _ hx).elim
 ·exact h.rStep hx
theorem Ok.rStep1p {s:S} {dst:Option Nat} {op:Op}:PtG λK=>step1 a s dst K op:=by
 intro K hx;simp only[Vm.step1] at hx ⊢
 split at hx
 ·exact(h.ext _ _ _ _ hx).elim
 ·exact h.rStepp _ hx
theorem Ok.rRun {dsts:List (Option Nat)}:∀ {l:List Oper} {s:S} {K K':S->Prop},a06 a dsts l s K->(∀s,K s->K' s)->a06 a7 dsts l s K'
 | [],s,K,K',hx,hK=>hK _ hx
 | ⟨dst,op,type,pos,after,none⟩::l,s,K,K',hx,hK=>by
  rw[a06] at hx ⊢;obtain⟨s',h1,h2⟩:=h.rStep1p _ hx;exact h.rStep1 (h2 _ (Ok.rRun h1 hK))
 | ⟨dst,op,type,pos,after,some (j,b)⟩::l,s,K,K',hx,hK=>by
  rw[a06] at hx ⊢;obtain⟨c,h1,h2⟩:=L9 hx;refine h2 _ ?_;cases c with
  | none=>exact Ok.rRun h1 hK
  | some c =>
   simp only at h1 ⊢;cases hb:bEq c b with
   | true =>
    rw[hb] at h1;obtain⟨s',h3,h4⟩:=h.rStep1p _ h1;exact h.rStep1 (h4 _ (Ok.rRun h3 hK))
   | false =>
    rw[hb] at h1;exact Ok.rRun h1 hK
theorem Ok.rRunp {dsts:List (Option Nat)}:∀ {l:List Oper} {s:S},PtG λK=>a06 a dsts l s K
 | [],s,K,hx=>⟨s,hx,λK' hk=>hk⟩
 | ⟨dst,op,type,pos,after,none⟩::l,s,K,hx=>by
  simp only[a06] at hx ⊢;obtain⟨s',h1,h2⟩:=h.rStep1p _ hx;obtain⟨s2,h3,h4⟩:=Ok.rRunp K h1;exact⟨s2,h3,λK' hk=>h2 _ (h4 K' hk)⟩
 | ⟨dst,op,type,pos,after,some (j,b)⟩::l,s,K,hx=>by
  simp only[a06] at hx ⊢;obtain⟨c,h1,h2⟩:=L9 hx;cases c with
  | none =>
   obtain⟨s2,h3,h4⟩:=Ok.rRunp K h1;exact⟨s2,h3,λK' hk=>h2 _ (h4 K' hk)⟩
  | some c =>
   simp only at h1;cases hb:bEq c b with
   | true =>
    rw[hb] at h1;obtain⟨s',h3,h4⟩:=h.rStep1p _ h1;obtain⟨s2,h5,h6⟩:=Ok.rRunp K h3;exact⟨s2,h5,λK' hk=>h2 _ (by simp only[hb];exact h4 _ (h6 K' hk))⟩
   | false =>
    rw[hb] at h1;obtain⟨s2,h3,h4⟩:=Ok.rRunp K h1;exact⟨s2,h3,λK' hk=>h2 _ (by simp only[hb];exact h4 K' hk)⟩
theorem Ok.rStepD {all:List Oper} {i:Nat} {s:S} {dst:Option Nat} {K:S->Prop} {op:Op} (hx:stepD a all i s dst K op):Vm.stepD a7 all i s dst K op:=by
 unfold Vm.stepD at hx ⊢
 split at hx
 ·split at hx
  ·split at hx
   ·exact h.callo _ _ _ _ hx
   ·split at hx
    ·exact h.callx _ _ _ _ _ hx
    ·exact h.rStep hx
  ·exact h.rStep hx
 ·exact h.rStep hx
theorem Ok.rStepDp {all:List Oper} {i:Nat} {s:S} {dst:Option Nat} {op:Op}:PtG λK=>stepD a all i s dst K op:=by
 intro K hx;simp only[Vm.stepD] at hx ⊢
 split at hx
 ·split at hx
  ·split at hx
   ·obtain⟨⟨v,s'⟩,h1,h2⟩:=h.callop _ _ _ (λp=>K (p.2.put dst p.1)) hx;exact⟨_,h1,λK' hk=>h2 (λp=>K' (p.2.put dst p.1)) hk⟩
   ·split at hx
    ·rename_i l hl;obtain⟨⟨v,s'⟩,h1,h2⟩:=h.callxp _ _ _ _ (λp=>K (p.2.put dst p.1)) hx;exact⟨_,h1,λK' hk=>h2 (λp=>K' (p.2.put dst p.1)) hk⟩
    ·exact h.rStepp _ hx
  ·exact h.rStepp _ hx
 ·exact h.rStepp _ hx
theorem Ok.rRunD {dsts:List (Option Nat)} {all:List Oper}:∀ {l:List Oper} {i:Nat} {s:S} {K K':S->Prop},a63 a dsts all i l s K->(∀s,K s->K' s)->a63 a7 dsts all i l s K'
 | [],i,s,K,K',hx,hK=>hK _ hx
 | ⟨dst,op,type,pos,after,none⟩::l,i,s,K,K',hx,hK=>by
  rw[a63,L8] at hx ⊢;obtain⟨s',h1,h2⟩:=h.rStepDp _ hx;exact h.rStepD (h2 _ (Ok.rRunD h1 hK))
 | ⟨dst,op,type,pos,after,some (j,b)⟩::l,i,s,K,K',hx,hK=>by
  rw[a63,L8] at hx ⊢;obtain⟨c,h1,h2⟩:=L9 hx;refine h2 _ ?_;cases c with
  | none=>exact Ok.rRunD h1 hK
  | some c =>
   simp only at h1 ⊢;cases hb:bEq c b with
   | true =>
    rw[hb] at h1;obtain⟨s',h3,h4⟩:=h.rStepDp _ h1;exact h.rStepD (h4 _ (Ok.rRunD h3 hK))
   | false =>
    rw[hb] at h1;exact Ok.rRunD h1 hK
theorem Ok.rRunDp {dsts:List (Option Nat)} {all:List Oper}:∀ {l:List Oper} {i:Nat} {s:S},PtG λK=>a63 a dsts all i l s K
 | [],i,s,K,hx=>⟨s,hx,λK' hk=>hk⟩
 | ⟨dst,op,type,pos,after,none⟩::l,i,s,K,hx=>by
  simp only[a63,L8] at hx ⊢;obtain⟨s',h1,h2⟩:=h.rStepDp _ hx;obtain⟨s2,h3,h4⟩:=Ok.rRunDp K h1;exact⟨s2,h3,λK' hk=>h2 _ (h4 K' hk)⟩
 | ⟨dst,op,type,pos,after,some (j,b)⟩::l,i,s,K,hx=>by
  simp only[a63,L8] at hx ⊢;obtain⟨c,h1,h2⟩:=L9 hx;cases c with
  | none =>
   obtain⟨s2,h3,h4⟩:=Ok.rRunDp K h1;exact⟨s2,h3,λK' hk=>h2 _ (h4 K' hk)⟩
  | some c =>
   simp only at h1;cases hb:bEq c b with
   | true =>
    rw[hb] at h1;obtain⟨s',h3,h4⟩:=h.rStepDp _ h1;obtain⟨s2,h5,h6⟩:=Ok.rRunDp K h3;exact⟨s2,h5,λK' hk=>h2 _ (by simp only[hb];exact h4 _ (h6 K' hk))⟩
   | false =>
    rw[hb] at h1;obtain⟨s2,h3,h4⟩:=Ok.rRunDp K h1;exact⟨s2,h3,λK' hk=>h2 _ (by simp only[hb];exact h4 K' hk)⟩
theorem Ok.rExecp:∀(c:Code) (s:S),PtG λK:X×S->Prop=>x5 a c s λx s=>K (x,s)
 | .skip,s,K,hx=>⟨_,hx,λK' hk=>hk⟩
 | .region id ops d,s,K,hx=>by
  simp only[x5] at hx ⊢
  split at hx
  ·obtain⟨s',h1,h2⟩:=h.rRunp _ hx;exact⟨_,h1,λK' hk=>h2 (λs=>K' (.normal,s)) hk⟩
  ·split at hx
   ·exact(h.reg _ _ _ hx).elim
   split at hx <;> try exact hx.elim
   obtain⟨s',h1,h2⟩:=h.rRunDp _ hx;exact⟨_,h1,λK' hk=>h2 (λs=>K' (.normal,s)) hk⟩
 | .seq c d,s,K,hx=>by
  obtain⟨⟨x,s'⟩,h1,h2⟩:=Ok.rExecp c s (λp=>b0M (λs=>a.next (λs=>x5 a d s λx s=>K (x,s)) s) (λx s=>K (x,s)) p.1 p.2) hx;cases x with
  | normal =>
   obtain⟨p,h3,h4⟩:=Ok.rExecp d s' K (h.next _ _ h1);exact⟨p,h3,λK' hk=>h2 (λp=>b0M (λs=>a.next (λs=>x5 a d s λx s=>K' (x,s)) s) (λx s=>K' (x,s)) p.1 p.2) (h.nextp _ _ (h4 K' hk))⟩
  | exit i=>exact⟨_,h1,λK' hk=>h2 (λp=>b0M (λs=>a.next (λs=>x5 a d s λx s=>K' (x,s)) s) (λx s=>K' (x,s)) p.1 p.2) hk⟩
  | ret=>exact⟨_,h1,λK' hk=>h2 (λp=>b0M (λs=>a.next (λs=>x5 a d s λx s=>K' (x,s)) s) (λx s=>K' (x,s)) p.1 p.2) hk⟩
 | .cond c d e,s,K,hx=>by
  simp only[x5] at hx ⊢
  split at hx <;> try exact hx.elim
  split at hx
  ·obtain⟨p,h3,h4⟩:=Ok.rExecp d s K hx;exact⟨p,h3,λK' hk=>h4 K' hk⟩
  ·obtain⟨p,h3,h4⟩:=Ok.rExecp e s K hx;exact⟨p,h3,λK' hk=>h4 K' hk⟩
 | .block id c,s,K,hx=>by
  obtain⟨⟨x,s'⟩,h1,h2⟩:=Ok.rExecp c s (λp=>a12 id (λx s=>K (x,s)) p.1 p.2) hx;cases x with
  | normal=>exact⟨_,h1,λK' hk=>h2 (λp=>a12 id (λx s=>K' (x,s)) p.1 p.2) hk⟩
  | ret=>exact⟨_,h1,λK' hk=>h2 (λp=>a12 id (λx s=>K' (x,s)) p.1 p.2) hk⟩
  | exit i =>
   simp only[a12] at h1;cases he:H5 i id with
   | true =>
    rw[he] at h1;exact⟨_,h1,λK' hk=>h2 (λp=>a12 id (λx s=>K' (x,s)) p.1 p.2) (by simp only[a12,he];exact hk)⟩
   | false =>
    rw[he] at h1;exact⟨_,h1,λK' hk=>h2 (λp=>a12 id (λx s=>K' (x,s)) p.1 p.2) (by simp only[a12,he];exact hk)⟩
 | .loop c,s,K,hx=>h.loopp c _ s (λs=>Ok.rExecp c s) K hx
 | .exit i,s,K,hx=>⟨_,hx,λK' hk=>hk⟩
 | .ret,s,K,hx=>⟨_,hx,λK' hk=>hk⟩
 | .rangeFunc f ps x y,s,K,hx=>by cases hx
 | .scope c,s,K,hx=>by cases hx
 | .label l,s,K,hx=>by cases hx
 | .goto l,s,K,hx=>by cases hx
 | .refuse y,s,K,hx=>by cases hx
theorem Ok.rMono {c:Code} {s:S} {K K':X->S->Prop} (hx:x5 a c s K) (hK:∀x s,K x s->K' x s):x5 a c s K' :=
 (h.rExecp c s).mono (K:=λp=>K p.1 p.2) (K':=λp=>K' p.1 p.2) hx λp hp=>hK _ _ hp
theorem Ok.rExec:∀(c:Code) (s:S) (K K':X->S->Prop),x5 a c s K->(∀x s,K x s->K' x s)->x5 a7 c s K'
 | .skip,s,K,K',hx,hK=>hK _ _ hx
 | .region id ops d,s,K,K',hx,hK=>by
  unfold x5 at hx ⊢
  split at hx
  ·exact h.rRun hx λs hs=>hK _ _ hs
  ·split at hx
   ·exact(h.reg _ _ _ hx).elim
   split at hx <;> try exact hx.elim
   exact h.rRunD hx λs hs=>hK _ _ hs
 | .seq c d,s,K,K',hx,hK=>by
  refine Ok.rExec c s _ _ hx λx s' hs=>?_
  cases x with
  | normal=>exact⟨λs2=>s2=s',λ_ _ _ _ _ h=>⟨_,rfl,h⟩,λs2 e=>by subst e;exact Ok.rExec d _ _ _ (h.next _ _ hs) hK⟩
  | exit i=>exact hK _ _ hs
  | ret=>exact hK _ _ hs
 | .cond c d e,s,K,K',hx,hK=>by
  unfold x5 at hx ⊢
  split at hx <;> try exact hx.elim
  split at hx
  ·exact Ok.rExec d _ _ _ hx hK
  ·exact Ok.rExec e _ _ _ hx hK
 | .block id c,s,K,K',hx,hK=>by
  refine Ok.rExec c s _ _ hx λx s' hs=>?_
  cases x with
  | normal=>exact hK _ _ hs
  | ret=>exact hK _ _ hs
  | exit i =>
   have hs:(match H5 i id with|true=>K .normal s'|false=>K (.exit i) s'):=hs;show (match H5 i id with|true=>K' .normal s'|false=>K' (.exit i) s');cases he:H5 i id with
   | true=>rw[he] at hs;exact hK _ _ hs
   | false=>rw[he] at hs;exact hK _ _ hs
 | .loop c,s,K,K',hx,hK=>by
  obtain⟨γ,st,inv,μ,h1,h2,h3⟩:=h.loop c _ s K hx λs K K' hK hs=>h.rMono hs hK
  refine .inr (.inl ⟨γ,st,inv,μ,h1,h2,λx hi=>Ok.rExec c _ _ _ (h3 x hi) λe s' hs=>?_⟩);cases e with
  | normal=>exact hs
  | exit i=>exact hK _ _ hs
  | ret=>exact hK _ _ hs
 | .exit i,s,K,K',hx,hK=>hK _ _ hx
 | .ret,s,K,K',hx,hK=>hK _ _ hx
 | .rangeFunc f ps x y,s,K,K',hx,hK=>by cases hx
 | .scope c,s,K,K',hx,hK=>by cases hx
 | .label l,s,K,K',hx,hK=>by cases hx
 | .goto l,s,K,K',hx,hK=>by cases hx
 | .refuse y,s,K,K',hx,hK=>by cases hx
theorem Ok.rRes {s:S}:∀ {l:List ResultVar} {K K':List V->Prop},K4 a s l K->(∀vs,K vs->K' vs)->K4 a7 s l K'
 | [],K,K',hx,hK=>hK _ hx
 | .tmp t::l,K,K',hx,hK=>Ok.rRes (l:=l) hx λvs hv=>hK _ hv
 | .cell b t::l,K,K',hx,hK=>by
  rw[K4] at hx ⊢;rw[h.load] at hx;exact a0H.g.mono hx λv hv=>Ok.rRes (l:=l) hv λvs hv=>hK _ hv
theorem Ok.rResp {s:S}:∀ {l:List ResultVar},PtG λK=>K4 a s l K
 | [],K,hx=>⟨_,hx,λK' hk=>hk⟩
 | .tmp t::l,K,hx=>by
  obtain⟨v,h1,h2⟩:=Ok.rResp (l:=l) _ hx;exact⟨_,h1,λK' hk=>h2 _ hk⟩
 | .cell b t::l,K,hx=>by
  simp only[K4] at hx ⊢;rw[h.load] at hx ⊢;obtain⟨v,h1,h2⟩:=a0H _ hx;obtain⟨vs,h3,h4⟩:=Ok.rResp (l:=l) _ h1;exact⟨_,h3,λK' hk=>h2 _ (h4 _ hk)⟩
end
def b0j (a:Ar) (l:List ResultVar) (K:List R->Prop):X->S->Prop
 | .exit _,_=>False
 | .normal,s=>K4 a s l λvs=>match a0E s.o vs with|some q=>K q|none=>False
 | .ret,s=>K4 a s l λvs=>match a0E s.o vs with|some q=>K q|none=>False
structure Good (f:Nat) (fn:Func) (c:Code):Prop where
 f:Tryd.prog.funcs[f]?=some fn
 b:fn.body=some c
 n:(fn.name != "runtime.NumGoroutine")=true
 c:r8 Tryd.prog c=true
 r:P5 fn.results.toList=true
inductive Tab where
 | nil
 | cons (f:Nat) (fn:Func) (c:Code) (h:Good f fn c) (T:Tab)
 | own (f:Nat) (F:List V->List O->Option (V×List O×List Nat)) (h:∀vs o r,F vs o=some r->Z9 f vs o λx o' ks=>(x,o',ks)=r) (T:Tab)
 | pure (f:Nat) (F:List R->Option (List R)) (h:∀rs q,F rs=some q->l6 f rs q) (T:Tab)
inductive Ent where
 | none
 | code (fn:Func) (c:Code)
 | own (F:List V->List O->Option (V×List O×List Nat))
 | pure (F:List R->Option (List R))
def Tab.get:Tab->Nat->Ent
 | .nil,_=>.none
 | .cons f fn c _ T,g=>match Nat.beq f g with|true=>.code fn c|false=>T.get g
 | .own f F _ T,g=>match Nat.beq f g with|true=>.own F|false=>T.get g
 | .pure f F _ T,g=>match Nat.beq f g with|true=>.pure F|false=>T.get g
def c2y (f:Nat):Ent->Prop
 | .none=>True
 | .code fn c=>Good f fn c
 | .own F=>∀vs o r,F vs o=some r->Z9 f vs o λx o' ks=>(x,o',ks)=r
 | .pure F=>∀rs q,F rs=some q->l6 f rs q
theorem Tab.good:∀(T:Tab) (f:Nat),c2y f (T.get f)
 | .nil,_=>trivial
 | .cons f fn c hg T,g=>by
  rw[Tab.get]
  split
  ·rename_i e;rw[<-c5d e];exact hg
  ·exact Tab.good T g
 | .own f F hg T,g=>by
  rw[Tab.get]
  split
  ·rename_i e;rw[<-c5d e];exact hg
  ·exact Tab.good T g
 | .pure f F hg T,g=>by
  rw[Tab.get]
  split
  ·rename_i e;rw[<-c5d e];exact hg
  ·exact Tab.good T g
def b43:Value->Value->Bool
 | .int k m,.int k' n=>match keq k k' with|true=>a2t m n|false=>false
 | .string x,.string y=>a1T x.data.toList y.data.toList
 | .bool x,.bool y=>bEq x y
 | .pointer none,.pointer none=>true
 | .map none,.map none=>true
 | _,_=>false
theorem b7P {u v:Value} (h:b43 u v=true):u=v:=by
 unfold b43 at h
 split at h
 ·split at h
  ·rename_i hk;rw[a1a,c4v] at h;rw[a59 hk,h]
  ·cases h
 ·rename_i x y;rw[a0a,c4v] at h;obtain⟨⟨x⟩⟩:=x;obtain⟨⟨y⟩⟩:=y;simp only at h;rw[h]
 ·rw[a08,c4v] at h;rw[h]
 ·rfl
 ·rfl
 ·cases h
def T6 {α:Type} (e:α->α->Bool):List α->List α->Bool
 | [],[]=>true
 | x::l,y::m=>match e x y with|true=>T6 e l m|false=>false
 | _,_=>false
theorem H0 {α:Type} {e:α->α->Bool} (he:∀x y,e x y=true->x=y):∀ {l m:List α},T6 e l m=true->l=m
 | [],[],_=>rfl
 | [],_::_,h=>by cases h
 | _::_,[],h=>by cases h
 | x::l,y::m,h=>by
  rw[T6] at h
  split at h
  ·rename_i h1;rw[he _ _ h1,H0 he h]
  ·cases h
def b0k:Nat->D->D->Bool
 | _,.sc u,.sc v=>b43 u v
 | f+1,.sl n rows,.sl m rows'=>match a0A n m with|true=>T6 (T6 (b0k f)) rows rows'|false=>false
 | _,_,_=>false
theorem a9d:∀ {f:Nat} {x y:D},b0k f x y=true->x=y
 | f,.sc u,.sc v,h=>by
  have h:b43 u v=true:=by cases f <;> exact h
  rw[b7P h]
 | f,.sc u,.sl n rows,h=>by cases f <;> cases h
 | f,.sl n rows,.sc u,h=>by cases f <;> cases h
 | 0,.sl n rows,.sl m rows',h=>by cases h
 | f+1,.sl n rows,.sl m rows',h=>by
  rw[b0k] at h
  split at h
  ·rename_i h1;rw[a2G,c4v] at h1;rw[h1,H0 (λ_ _ h=>H0 (λ_ _ h=>a9d h) h) h]
  ·cases h
def b1A (x y:D):Bool:=b0k 60 x y
theorem a5a {x y:D} (h:b1A x y=true):x=y:=a9d h
def vEq:V->V->Bool
 | .d x,.d y=>b1A x y
 | .em,.em=>true
 | .own j,.own k=>a0A j k
 | .ptr j m,.ptr k n=>match a0A j k with|true=>a0A m n|false=>false
 | .mp j,.mp k=>a0A j k
 | .cl f [],.cl g []=>a0A f g
 | .jk,.jk=>true
 | _,_=>false
theorem Y5 {m n:Nat} (h:a0A m n=true):m=n:=by rw[a2G,c4v] at h;exact h
theorem c13 {x y:V} (h:vEq x y=true):x=y:=by
 unfold vEq at h
 split at h
 ·rw[a5a h]
 ·rfl
 ·rw[Y5 h]
 ·split at h
  ·rename_i h1;rw[Y5 h1,Y5 h]
  ·cases h
 ·rw[Y5 h]
 ·rw[Y5 h]
 ·rfl
 ·cases h
def a7P:R->R->Bool
 | .one x,.one y=>b1A x y
 | .ag xs,.ag ys=>T6 b1A xs ys
 | _,_=>false
theorem a5b {x y:R} (h:a7P x y=true):x=y:=by
 unfold a7P at h
 split at h
 ·rw[a5a h]
 ·rw[H0 (λ_ _=>a5a) h]
 ·cases h
def b7Q (p q:R×R):Bool:=match a7P p.1 q.1 with|true=>a7P p.2 q.2|false=>false
theorem b7R {p q:R×R} (h:b7Q p q=true):p=q:=by
 unfold b7Q at h
 split at h
 ·rename_i h1;exact Prod.ext (a5b h1) (a5b h)
 ·cases h
def oEq:O->O->Bool
 | .box cs,.box ds=>T6 vEq cs ds
 | .row z e rows,.row z' e' rows'=>match bEq z z',a0A e e' with
  | true,true=>T6 (T6 b1A) rows rows'
  | _,_=>false
 | .mp k es,.mp k' es'=>match a0A k k' with|true=>T6 b7Q es es'|false=>false
 | .kl ks,.kl js=>T6 a0A ks js
 | .dead,.dead=>true
 | _,_=>false
theorem b7S {x y:O} (h:oEq x y=true):x=y:=by
 unfold oEq at h
 split at h
 ·rw[H0 (λ_ _=>c13) h]
 ·split at h
  ·rename_i h1 h2;rw[a08,c4v] at h1;rw[h1,Y5 h2,H0 (λ_ _ h=>H0 (λ_ _=>a5a) h) h]
  ·cases h
 ·split at h
  ·rename_i h1;rw[Y5 h1,H0 (λ_ _=>b7R) h]
  ·cases h
 ·rw[H0 (λ_ _=>Y5) h]
 ·rfl
 ·cases h
def b5T (o:List O) (K:List R->Prop) (res:List V) (s:S):Prop:=match m7 (E6 0 s.o) (j6 o) with
 | .kl []=>match T6 oEq (a1w (j6 o) (E6 0 s.o)) (E6 0 o) with
  | true=>match a0E s.o res with|some q=>K q|none=>False
  | false=>False
 | _=>False
def b5U (a:Ar) (o:List O) (K:List R->Prop) (l:List ResultVar):X->S->Prop
 | .exit _,_=>False
 | .normal,s=>K4 a s l λres=>b5T o K res s
 | .ret,s=>K4 a s l λres=>b5T o K res s
def it (body:S->(X->S->Prop)->Prop) (K:X->S->Prop) (n:Nat):Nat->S->Prop
 | 0,_=>False
 | m+1,s=>match Nat.ble n (j6 s.o) with
  | true=>body s λe s'=>a2z (λs2=>it body K n m s2) K e s'
  | false=>False
def c14:IntKind->Nat
 | .i8=>128
 | .i16=>32768
 | .i32=>2147483648
 | .i64=>9223372036854775808
 | .u8=>256
 | .u16=>65536
 | .u32=>4294967296
 | .u64=>18446744073709551616
def b44 (k:IntKind) (n:Int):Int:=match n with
 | .ofNat m=>match Nat.blt m (c14 k) with|true=>.ofNat m|false=>k.wrap n
 | .negSucc _=>k.wrap n
theorem b7T (k:IntKind) (n:Int):b44 k n=k.wrap n:=by
 unfold b44
 split
 ·rename_i m
  split
  ·rename_i h;have h:m<c14 k:=by simpa [c42] using h
   have key:∀(b:Nat) (sg:Bool),(m:Int)<(2:Int) ^ b->(sg=true->(m:Int)<(2:Int) ^ (b - 1))->(m:Int)=(if (sg && decide ((m:Int) % (2:Int) ^ b>=(2:Int) ^ (b - 1)))=true then (m:Int) % (2:Int) ^ b - (2:Int) ^ b else (m:Int) % (2:Int) ^ b):=λb sg h1 h2=>by
    have e:(m:Int) % (2:Int) ^ b=m:=Int.emod_eq_of_lt (by omega) h1;simp only[e];cases sg with
    | false=>rfl
    | true =>
     have:=h2 rfl;rw[c3G (by simp only[c4O,c4T];omega)]
   have h':(m:Int)<(c14 k:Int):=by omega
   refine(key k.bits k.signed ?_ ?_)
   ·cases k <;> exact Int.lt_of_lt_of_le h' (by decide)
   ·intro hs;cases k <;> first|cases hs;done|exact Int.lt_of_lt_of_le h' (by decide)
  ·rfl
 ·rfl
def a9e:Int->Int->Bool
 | .ofNat m,.ofNat n=>Nat.blt m n
 | .negSucc _,.ofNat _=>true
 | .ofNat _,.negSucc _=>false
 | .negSucc m,.negSucc n=>Nat.blt n m
theorem b1B (x y:Int):a9e x y=decide (x<y):=by
 rw[c58,decide_eq_true_iff];cases x with
 | ofNat m =>
  cases y with
  | ofNat n=>rw[a9e,c42];exact Int.ofNat_lt.symm
  | negSucc n=>exact⟨λh=>(by cases h),λh=>by have:(Int.ofNat m:Int)=(m:Int):=rfl;omega⟩
 | negSucc m =>
  cases y with
  | ofNat n=>exact⟨λ_=>by have:(Int.ofNat n:Int)=(n:Int):=rfl;omega,λ_=>rfl⟩
  | negSucc n=>rw[a9e,c42];omega
def a0C (x y:Int):Bool:=match a9e y x with|true=>false|false=>true
theorem a1j (x y:Int):a0C x y=decide (x<=y):=by
 unfold a0C;rw[b1B]
 by_cases h:y<x
 ·rw[c3K h,c3I (by omega)]
 ·rw[c3I h,c3K (by omega)]
def a5c:List UInt8->List UInt8->Bool
 | _,[]=>false
 | [],_::_=>true
 | x::l,y::m=>match Nat.blt x.toNat y.toNat with
  | true=>true
  | false=>match a0A x.toNat y.toNat with|true=>a5c l m|false=>false
theorem a7Q:∀x y:List UInt8,a5c x y=Op.bytesLess x y
 | [],[]=>rfl
 | _::_,[]=>rfl
 | [],_::_=>rfl
 | x::l,y::m=>by
  rw[a5c,Op.bytesLess,a2G,a7Q l m]
  by_cases h:x<y
  ·rw[(by rw[c42];exact c5e.1 h:Nat.blt x.toNat y.toNat=true),c3K h];rfl
  ·have h1:Nat.blt x.toNat y.toNat=false:=by
    rw[<-c5L,c42];exact λe=>h (c5e.2 e)
   rw[h1,c3I h]
   by_cases e:x=y
   ·subst e;simp
   ·have e1:(x.toNat == y.toNat)=false:=c3R.2 λe2=>e (c59.1 e2)
    have e2:(x == y)=false:=c3R.2 e;rw[e1,e2];rfl
def nth {α:Type}:List α->Nat->Option α
 | [],_=>none
 | x::_,0=>some x
 | _::l,n+1=>nth l n
theorem b7U {α:Type}:∀(l:List α) (n:Nat),nth l n=l[n]?
 | [],n=>by simp[nth]
 | x::l,0=>rfl
 | x::l,n+1=>by rw[nth,b7U l n];simp
def atI {α:Type} (l:List α):Int->Option α
 | .ofNat n=>nth l n
 | .negSucc _=>none
theorem b7V {α:Type} (l:List α) (i:Int):atI l i=if 0<=i then l[i.toNat]? else none:=by
 cases i with
 | ofNat n=>rw[atI,b7U,c3E (by simp)];rfl
 | negSucc n=>rw[atI,c3G (by omega)]
def G3:Ar:={ a7 with
 wrap:=b44
 lt:=a9e
 le:=a0C
 eq:=a2t
 seq:=a1T
 slt:=a5c
 bytes:=λb=>b.data.toList
 cat:=λx y=>⟨⟨x.data.toList++y.data.toList⟩⟩
 slen:=λb=>.ofNat (n7 b.data.toList)
 sget:=λb n=>match atI b.data.toList n with|some c=>some (.ofNat c.toNat)|none=>none
 ssub:=λb l h=>match a0C 0 l,a0C l h,a0C h (.ofNat (n7 b.data.toList)) with
  | true,true,true=>some ⟨⟨(b.data.toList.drop l.toNat).take (h.toNat - l.toNat)⟩⟩
  | _,_,_=>none
 nat:=λn m=>match n with|.ofNat k=>(match Nat.blt k m with|true=>some k|false=>none)|.negSucc _=>none
 len:=λrows=>.ofNat (n7 rows)
 get:=atI
 sub2:=λrows l h=>match a0C 0 l,a0C l h,a0C h (.ofNat (n7 rows)) with
  | true,true,true=>some ((rows.drop l.toNat).take (h.toNat - l.toNat))
  | _,_,_=>none }
theorem b1C (b:ByteArray):b.toList=b.data.toList:=ByteArray.toList_eq b
theorem v6:G3=a7:=by
 have e1:a7.wrap=b44:=by funext k n;exact(b7T k n).symm
 have e2:a7.lt=a9e:=by funext x y;exact(b1B x y).symm
 have e3:a7.le=a0C:=by funext x y;exact(a1j x y).symm
 have e4:a7.eq=a2t:=by funext x y;exact(a1a x y).symm
 have e5:a7.seq=a1T:=by funext x y;exact(a0a x y).symm
 have e6:a7.slt=a5c:=by funext x y;exact(a7Q x y).symm
 have e7:a7.bytes=λb=>b.data.toList:=by funext b;exact b1C b
 have e8:a7.cat=λx y=>⟨⟨x.data.toList++y.data.toList⟩⟩:=by
  funext x y
  show x++y=_
  apply c5q
  apply c4Y
  simp
 have e9:a7.slen=λb=>.ofNat (n7 b.data.toList):=by
  funext b
  rw[y8];rfl
 have e10:a7.sget=λb n=>match atI b.data.toList n with|some c=>some (.ofNat c.toNat)|none=>none:=by
  funext b n
  rw[b7V];show (if 0<=n then (b[n.toNat]?).map _ else none)=_
  by_cases h:0<=n
  ·rw[c3E h,c3E h]
   have e:b[n.toNat]?=b.data.toList[n.toNat]?:=by
    rw[c4w];rfl
   rw[e];cases b.data.toList[n.toNat]? <;> rfl
  ·rw[c3G h,c3G h]
 have e11:a7.ssub=λb l h=>match a0C 0 l,a0C l h,a0C h (.ofNat (n7 b.data.toList)) with
  | true,true,true=>some ⟨⟨(b.data.toList.drop l.toNat).take (h.toNat - l.toNat)⟩⟩
  | _,_,_=>none:=by
  funext b l h
  rw[a1j,a1j,a1j,y8];show (if 0<=l/\l<=h/\h<=b.size then some (b.extract l.toNat h.toNat) else none)=_;have hb:(Int.ofNat b.data.toList.length)=(b.size:Int):=rfl;rw[hb]
  by_cases h1:0<=l
  ·by_cases h2:l<=h
   ·by_cases h3:h<=(b.size:Int)
    ·rw[c3E ⟨h1,h2,h3⟩,c3K h1,c3K h2,c3K h3];simp only
     congr 1
     apply c5q
     apply c4Y
     simp[ByteArray.data_extract,List.extract_eq_take_drop]
    ·rw[c3G (λh=>h3 h.2.2),c3I h3];cases decide (0<=l) <;> cases decide (l<=h) <;> rfl
   ·rw[c3G (λh=>h2 h.2.1),c3I h2];cases decide (0<=l) <;> rfl
  ·rw[c3G (λh=>h1 h.1),c3I h1]
 have e12:a7.nat=λn m=>match n with|.ofNat k=>(match Nat.blt k m with|true=>some k|false=>none)|.negSucc _=>none:=by
  funext n m
  show (if 0<=n/\n<m then some n.toNat else none)=_;cases n with
  | ofNat k =>
   by_cases h:k<m
   ·rw[c3E ⟨by simp,by simpa using h⟩];have e:Nat.blt k m=true:=by rw[c42];exact h
    simp only[e];rfl
   ·rw[c3G (by simp;omega)];have:Nat.blt k m=false:=by rw[<-c5L,c42];exact h
    simp only[this]
  | negSucc k=>rw[c3G (by omega)]
 have e13:a7.len=λrows=>.ofNat (n7 rows):=by funext rows;rw[y8];rfl
 have e14:a7.get=atI:=by funext rows n;rw[b7V];rfl
 have e15:a7.sub2=λrows l h=>match a0C 0 l,a0C l h,a0C h (.ofNat (n7 rows)) with
  | true,true,true=>some ((rows.drop l.toNat).take (h.toNat - l.toNat))
  | _,_,_=>none:=by
  funext b l h
  rw[a1j,a1j,a1j,y8];show (if 0<=l/\l<=h/\h<=b.length then some ((b.drop l.toNat).take (h.toNat - l.toNat)) else none)=_;have hb:(Int.ofNat b.length)=(b.length:Int):=rfl;rw[hb]
  by_cases h1:0<=l
  ·by_cases h2:l<=h
   ·by_cases h3:h<=(b.length:Int)
    ·rw[c3E ⟨h1,h2,h3⟩,c3K h1,c3K h2,c3K h3]
    ·rw[c3G (λh=>h3 h.2.2),c3I h3];cases decide (0<=l) <;> cases decide (l<=h) <;> rfl
   ·rw[c3G (λh=>h2 h.2.1),c3I h2];cases decide (0<=l) <;> rfl
  ·rw[c3G (λh=>h1 h.1),c3I h1]
 unfold G3;rw[<-e11,<-e15,<-e10,<-e14,<-e1,<-e2,<-e3,<-e4,<-e5,<-e6,<-e7,<-e8,<-e9,<-e12,<-e13]
def b7W (hint:Nat->Bool) (call:Nat->List R->(List R->Prop)->Prop) (calld:Nat->List V->List O->(V->Prop)->Prop) (callo:Nat->List V->S->(V->S->Prop)->Prop) (callx:Nat->List V->List Nat->S->(V->S->Prop)->Prop):Ar:={ G3 with
 nz:=λy k=>match a2t y 0 with|true=>False|false=>k
 fits:=λx y k=>match Nat.ble (x.size+y.size) 4611686018427387904 with|true=>k|false=>False
 room:=λx y k=>match Nat.ble (n7 x+n7 y) 137438953472 with|true=>k|false=>False
 rep:=λn z k=>match n with
  | .ofNat m=>match Nat.ble m 65536,Nat.ble (m * n7 z) 16777216 with|true,true=>k (List.replicate m z)|_,_=>False
  | .negSucc _=>False
 call:=call
 calld:=calld
 callo:=callo
 callx:=callx
 new:=λe K=>K (hint e)
 lit:=λt K=>K (hint t)
 keep:=λ_ _ _ _=>False
 next:=λN s=>N s
 ext:=λ_ _ _ _=>False
 reg:=λ_ _ _=>False
 loop:=λ_ body s K=>it body K (j6 s.o) 5000 s }
def b7X:List V->List Nat
 | []=>[]
 | .own k::l=>k::b7X l
 | _::l=>b7X l
def a7R:List V->List Nat
 | []=>[]
 | .own k::l=>k::a7R l
 | .ag cs::l=>b7X cs++a7R l
 | _::l=>a7R l
def a16 (t:List V) (o o':List O):List Nat->Bool
 | []=>true
 | i::l=>match c0s (m5 t i) with
  | some k=>match oEq (m7 o' k) (m7 o k) with|true=>a16 t o o' l|false=>false
  | none=>a16 t o o' l
theorem a5V {t:List V} {o o':List O}:∀ {l:List Nat},a16 t o o' l=true->a57 l t o o'
 | [],_,i,hi,_,_=>by simp at hi
 | j::l,h,i,hi,k,hk=>by
  rw[a16] at h
  split at h
  ·rename_i m hm
   split at h
   ·rename_i he
    rcases c3F.1 hi with rfl|hi
    ·rw[hm] at hk;have hk:=Option.some.inj hk;subst hk;exact b7S he
    ·exact a5V h i hi k hk
   ·cases h
  ·rename_i hm
   rcases c3F.1 hi with rfl|hi
   ·rw[hm] at hk;cases hk
   ·exact a5V h i hi k hk
def a1s (T:Tab) (hint:Nat->Bool):Nat->Ar
 | 0=>b7W hint (λ_ _ _=>False) (λ_ _ _ _=>False) (λ_ _ _ _=>False) (λ_ _ _ _ _=>False)
 | n+1=>b7W hint
  (λf rs K=>match T.get f with
   | .code fn c=>x5 (a1s T hint n) c (a1I rs (fn.ntmps - n7 rs)) (λx s=>b0j (a1s T hint n) fn.results.toList K x s)
   | .pure F=>match F rs with|some q=>K q|none=>False
   | _=>False)
  (λf vs o K=>match T.get f with
   | .code fn c=>x5 (a1s T hint n) c (N5 vs o (fn.ntmps - n7 vs)) (λx s=>b5U (a1s T hint n) o (λq=>K (a22 q)) fn.results.toList x s)
   | _=>False)
  (λf vs s K=>match T.get f with
   | .code fn c=>x5 (a1s T hint n) c (N5 vs s.o (fn.ntmps - n7 vs)) (λx s2=>a4Q (a1s T hint n) (j6 s.o) (λv o' ks=>K v ⟨A7 ks s.t,o'⟩) fn.results.toList x s2)
   | .own F=>match F vs s.o with|some (v,o',ks)=>K v ⟨A7 ks s.t,o'⟩|none=>False
   | .pure F=>match a0E s.o vs with
    | some rs=>match F rs with|some q=>K (a22 q) s|none=>False
    | none=>match a0E (frz (a7R vs) s.o) vs with
     | some rs=>match F rs with|some q=>K (a22 q) ⟨s.t,frz (a7R vs) s.o⟩|none=>False
     | none=>False
   | .none=>False)
  (λf vs l s K=>match T.get f with
   | .code fn c=>x5 (a1s T hint n) c (N5 vs s.o (fn.ntmps - n7 vs)) (λx s2=>a4Q (a1s T hint n) (j6 s.o) (λv o' ks=>match geN (j6 s.o) ks with
    | true=>match a16 s.t s.o o' l with|true=>K v ⟨s.t,o'⟩|false=>False
    | false=>False) fn.results.toList x s2)
   | _=>False)

theorem c05 {body:S->(X->S->Prop)->Prop} (hb:∀s,PtG λK:X×S->Prop=>body s λx s=>K (x,s)) {n:Nat}:∀m s,PtG λK:X×S->Prop=>it body (λx s=>K (x,s)) n m s
 | 0,s,K,hx=>hx.elim
 | m+1,s,K,hx=>by
  simp only[it] at hx ⊢
  split at hx <;> try exact hx.elim
  obtain⟨⟨e,s'⟩,h1,h2⟩:=hb s (λp=>a2z (λs2=>it body (λx s=>K (x,s)) n m s2) (λx s=>K (x,s)) p.1 p.2) hx;cases e with
  | normal =>
   obtain⟨p,h3,h4⟩:=c05 hb m s' K h1;exact⟨p,h3,λK' hk=>h2 (λp=>a2z (λs2=>it body (λx s=>K' (x,s)) n m s2) (λx s=>K' (x,s)) p.1 p.2) (h4 K' hk)⟩
  | exit i=>exact⟨_,h1,λK' hk=>h2 (λp=>a2z (λs2=>it body (λx s=>K' (x,s)) n m s2) (λx s=>K' (x,s)) p.1 p.2) hk⟩
  | ret=>exact⟨_,h1,λK' hk=>h2 (λp=>a2z (λs2=>it body (λx s=>K' (x,s)) n m s2) (λx s=>K' (x,s)) p.1 p.2) hk⟩
theorem b9E {body:S->(X->S->Prop)->Prop} (hb:∀s K K',(∀x s,K x s->K' x s)->body s K->body s K') {K:X->S->Prop} {s:S} {m:Nat} (hx:it body K (j6 s.o) m s):a86 Eq body s K:=by
 have hle:∀m s',it body K (j6 s.o) m s'->j6 s.o<=j6 s'.o:=λm s' h=>by
  cases m with
  | zero=>exact h.elim
  | succ m =>
   rw[it] at h
   split at h
   ·rename_i e;exact c4p e
   ·exact h.elim
 refine⟨Nat×S,Prod.snd,λp=>it body K (j6 s.o) p.1 p.2,Prod.fst,λp hp=>hle _ _ hp,⟨(m,s),rfl,hx⟩,?_⟩
 rintro ⟨m,s'⟩ hp
 cases m with
 | zero=>exact hp.elim
 | succ m =>
  have hp:it body K (j6 s.o) (m+1) s':=hp;rw[it] at hp
  split at hp
  ·refine hb _ _ _ (λx s2 h=>?_) hp;cases x with
   | normal=>exact⟨(m,s2),h,Nat.lt_succ_self m,rfl⟩
   | exit i=>exact h
   | ret=>exact h
  ·exact hp.elim
section
variable {hint:Nat->Bool} {call:Nat->List R->(List R->Prop)->Prop} {calld:Nat->List V->List O->(V->Prop)->Prop} {callo:Nat->List V->S->(V->S->Prop)->Prop} {callx:Nat->List V->List Nat->S->(V->S->Prop)->Prop}
theorem b1D (h1:∀f rs K,call f rs K->a7.call f rs K) (h2:∀f rs,PtG (call f rs)) (h5:∀f vs o K,calld f vs o K->a7.calld f vs o K) (h6:∀f vs o,PtG (calld f vs o)) (h3:∀f vs s K,callo f vs s K->a7.callo f vs s K) (h4:∀f vs s,PtG λK:V×S->Prop=>callo f vs s λv s'=>K (v,s')) (h7:∀f vs l s K,callx f vs l s K->a7.callx f vs l s K) (h8:∀f vs l s,PtG λK:V×S->Prop=>callx f vs l s λv s'=>K (v,s')):Ok (b7W hint call calld callo callx) where
 wrap:=show G3.wrap=a7.wrap from congrArg Ar.wrap v6
 add:=show G3.add=a7.add from congrArg Ar.add v6
 sub:=show G3.sub=a7.sub from congrArg Ar.sub v6
 mul:=show G3.mul=a7.mul from congrArg Ar.mul v6
 quo:=show G3.quo=a7.quo from congrArg Ar.quo v6
 rem:=show G3.rem=a7.rem from congrArg Ar.rem v6
 bits:=show G3.bits=a7.bits from congrArg Ar.bits v6
 lt:=show G3.lt=a7.lt from congrArg Ar.lt v6
 le:=show G3.le=a7.le from congrArg Ar.le v6
 eq:=show G3.eq=a7.eq from congrArg Ar.eq v6
 nz y k h:=by
  have h:(match a2t y 0 with|true=>False|false=>k):=h;cases he:a2t y 0 with
  | true=>rw[he] at h;exact h.elim
  | false =>
   rw[he] at h;rw[a1a,c3R] at he;exact⟨he,h⟩
 nzp y k k' h hk:=by
  have h:(match a2t y 0 with|true=>False|false=>k):=h;show (match a2t y 0 with|true=>False|false=>k');cases he:a2t y 0 with
  | true=>rw[he] at h;exact h.elim
  | false=>exact hk
 seq:=show G3.seq=a7.seq from congrArg Ar.seq v6
 slt:=show G3.slt=a7.slt from congrArg Ar.slt v6
 bytes:=show G3.bytes=a7.bytes from congrArg Ar.bytes v6
 cat:=show G3.cat=a7.cat from congrArg Ar.cat v6
 fits x y k h:=by
  have h:(match Nat.ble (x.size+y.size) 4611686018427387904 with|true=>k|false=>False):=h;cases he:Nat.ble (x.size+y.size) 4611686018427387904 with
  | true=>rw[he] at h;exact⟨c4p he,h⟩
  | false=>rw[he] at h;exact h.elim
 fitsp x y k k' h hk:=by
  have h:(match Nat.ble (x.size+y.size) 4611686018427387904 with|true=>k|false=>False):=h;show (match Nat.ble (x.size+y.size) 4611686018427387904 with|true=>k'|false=>False);cases he:Nat.ble (x.size+y.size) 4611686018427387904 with
  | true=>exact hk
  | false=>rw[he] at h;exact h.elim
 slen:=show G3.slen=a7.slen from congrArg Ar.slen v6
 sget:=show G3.sget=a7.sget from congrArg Ar.sget v6
 ssub:=show G3.ssub=a7.ssub from congrArg Ar.ssub v6
 txt:=show G3.txt=a7.txt from congrArg Ar.txt v6
 byt:=show G3.byt=a7.byt from congrArg Ar.byt v6
 nat:=show G3.nat=a7.nat from congrArg Ar.nat v6
 len:=show G3.len=a7.len from congrArg Ar.len v6
 get:=show G3.get=a7.get from congrArg Ar.get v6
 sub2:=show G3.sub2=a7.sub2 from congrArg Ar.sub2 v6
 app:=show G3.app=a7.app from congrArg Ar.app v6
 set:=show G3.set=a7.set from congrArg Ar.set v6
 room x y k h:=by
  have h:(match Nat.ble (n7 x+n7 y) 137438953472 with|true=>k|false=>False):=h;cases he:Nat.ble (n7 x+n7 y) 137438953472 with
  | true =>
   rw[he] at h;have:=c4p he;rw[y8,y8] at this;exact⟨this,h⟩
  | false=>rw[he] at h;exact h.elim
 roomp x y k k' h hk:=by
  have h:(match Nat.ble (n7 x+n7 y) 137438953472 with|true=>k|false=>False):=h;show (match Nat.ble (n7 x+n7 y) 137438953472 with|true=>k'|false=>False);cases he:Nat.ble (n7 x+n7 y) 137438953472 with
  | true=>exact hk
  | false=>rw[he] at h;exact h.elim
 mlook:=show G3.mlook=a7.mlook from congrArg Ar.mlook v6
 mput:=show G3.mput=a7.mput from congrArg Ar.mput v6
 deq:=show G3.deq=a7.deq from congrArg Ar.deq v6
 rep n z K h:=by
  cases n with
  | negSucc m=>exact(show False from h).elim
  | ofNat m =>
   have h:(match Nat.ble m 65536,Nat.ble (m * n7 z) 16777216 with|true,true=>K (List.replicate m z)|_,_=>False):=h
   split at h
   ·rename_i e1 e2;have e1:=c4p e1;have e2:=c4p e2;rw[y8] at e2;exact⟨⟨by simp,by simp;omega,e2⟩,h⟩
   ·exact h.elim
 repp n z K h:=by
  cases n with
  | negSucc m=>exact(show False from h).elim
  | ofNat m =>
   have h:(match Nat.ble m 65536,Nat.ble (m * n7 z) 16777216 with|true,true=>K (List.replicate m z)|_,_=>False):=h
   split at h
   ·rename_i e1 e2;refine⟨_,h,λK' hk=>?_⟩;show (match Nat.ble m 65536,Nat.ble (m * n7 z) 16777216 with|true,true=>K' (List.replicate m z)|_,_=>False);rw[e1,e2];exact hk
   ·exact h.elim
 call:=h1
 callp:=h2
 calld:=h5
 calldp:=h6
 callo:=h3
 callop:=h4
 callx:=h7
 callxp:=h8
 new e K h:=⟨_,h⟩
 newp e K h:=⟨_,h,λK' hk=>hk⟩
 lit t K h:=⟨_,h⟩
 litp t K h:=⟨_,h,λK' hk=>hk⟩
 next N s h:=h
 ext _ _ _ _ h:=h
 reg _ _ _ h:=h
 nextp N s h:=h
 loop c body s K h hb:=b9E hb h
 loopp c body s hb:=c05 hb _ _
end
theorem a7S {a:Ar} (h:Ok a) {l:List ResultVar} {K:List R->Prop} {x:X} {s:S} (hx:b0j a l K x s):∃q,K q/\(∀K',K' q->b0j a l K' x s)/\c1c a7 l q x s:=by
 have key:K4 a s l (λvs=>match a0E s.o vs with|some q=>K q|none=>False)->∃q,K q/\(∀K':List R->Prop,K' q->K4 a s l (λvs=>match a0E s.o vs with|some q=>K' q|none=>False))/\a76 a7 s l q:=λhx=>by
  obtain⟨vs,h1,h2⟩:=h.rResp _ hx
  split at h1 <;> try exact h1.elim
  rename_i q hq;refine⟨q,h1,λK' hk=>h2 _ (by rw[hq];exact hk),?_⟩;have h3:K4 a7 s l (λus=>us=vs):=h.rRes (h2 (λus=>us=vs) rfl) λ_ h=>h
  exact toS h3 hq
 cases x with
 | normal=>exact key hx
 | ret=>exact key hx
 | exit i=>exact hx.elim
where
 toS {s:S}:∀ {l:List ResultVar} {vs:List V} {q:List R},K4 a7 s l (λus=>us=vs)->a0E s.o vs=some q->a76 a7 s l q
  | [],vs,q,h,hq=>by
   have h:[]=vs:=h;subst h;injection hq with hq;subst hq
   trivial
  | .tmp t::l,vs,q,h,hq=>by
   cases vs with
   | nil =>
    have h:K4 a7 s l (λvs=>m5 s.t t::vs=[]):=h;obtain⟨v,h1,_⟩:=resO_ptr _ h;cases h1
   | cons v vs =>
    have h:K4 a7 s l (λus=>m5 s.t t::us=v::vs):=h;obtain⟨us,h1,h2⟩:=resO_ptr _ h;injection h1 with h1 h3;subst h3;rw[<-h1] at hq;rw[a0E] at hq
    split at hq <;> try cases hq
    rename_i y hy
    split at hq <;> try cases hq
    rename_i ys hys;exact⟨hy,toS (h2 (λvs=>vs=us) rfl) hys⟩
  | .cell b t::l,vs,q,h,hq=>by
   have h:C1 a7 s.o (λy=>K4 a7 s l (λus=>y::us=vs)) t (m5 s.t b):=h;obtain⟨y,h1,h2⟩:=a0H _ h;obtain⟨us,h3,h4⟩:=resO_ptr _ h1;subst h3;rw[a0E] at hq
   split at hq <;> try cases hq
   rename_i r hr
   split at hq <;> try cases hq
   rename_i rs hrs;exact⟨h2 _ hr,toS (h4 (λvs=>vs=us) rfl) hrs⟩
 resO_ptr {s:S}:∀ {l:List ResultVar},PtG λK=>K4 a7 s l K
  | [],K,hx=>⟨_,hx,λK' hk=>hk⟩
  | .tmp t::l,K,hx=>by
   obtain⟨v,h1,h2⟩:=resO_ptr (l:=l) _ hx;exact⟨_,h1,λK' hk=>h2 _ hk⟩
  | .cell b t::l,K,hx=>by
   obtain⟨v,h1,h2⟩:=a0H _ hx;obtain⟨vs,h3,h4⟩:=resO_ptr (l:=l) _ h1;exact⟨_,h3,λK' hk=>h2 _ (h4 _ hk)⟩
theorem b9F {a:Ar} (h:Ok a) {l:List ResultVar} {x:X} {s:S}:PtG λK=>b0j a l K x s:=by
 intro K hx;obtain⟨q,h1,h2,_⟩:=a7S h hx;exact⟨q,h1,h2⟩
theorem b7Y {n:Nat} {res:List V} {s:S}:PtG λK:V×List O×List Nat->Prop=>a3S n (λv o ks=>K (v,o,ks)) res s:=by
 intro K hx;simp only[a3S] at hx ⊢
 split at hx <;> try exact hx.elim
 exact⟨_,hx,λK' hk=>hk⟩
theorem b0l {a:Ar} (h:Ok a) {n:Nat} {l:List ResultVar} {x:X} {s:S}:PtG λK:V×List O×List Nat->Prop=>a4Q a n (λv o ks=>K (v,o,ks)) l x s:=by
 intro K hx
 have key:K4 a s l (λvs=>a3S n (λv o ks=>K (v,o,ks)) vs s)->∃v,K v/\∀K':V×List O×List Nat->Prop,K' v->K4 a s l (λvs=>a3S n (λv o ks=>K' (v,o,ks)) vs s):=λhx=>by
  obtain⟨vs,h1,h2⟩:=h.rResp _ hx;obtain⟨p,h3,h4⟩:=b7Y K h1;exact⟨p,h3,λK' hk=>h2 _ (h4 K' hk)⟩
 cases x with
 | normal=>exact key hx
 | ret=>exact key hx
 | exit i=>exact hx.elim
theorem a9f {a:Ar} (h:Ok a) {n:Nat} {K:V->List O->List Nat->Prop} {l:List ResultVar} {x:X} {s:S} (hx:a4Q a n K l x s):a4Q a7 n K l x s:=by
 cases x with
 | normal=>exact h.rRes (l:=l) hx λ_ h=>h
 | ret=>exact h.rRes (l:=l) hx λ_ h=>h
 | exit i=>exact hx.elim
theorem b1E {a:Ar} (h:Ok a) {o:List O} {l:List ResultVar} {K:List R->Prop} {x:X} {s:S} (hx:b5U a o K l x s):∃q,K q/\(∀K':List R->Prop,K' q->b5U a o K' l x s)/\c2p a7 o l q x s:=by
 have key:K4 a s l (λres=>b5T o K res s)->∃q,K q/\(∀K':List R->Prop,K' q->K4 a s l (λres=>b5T o K' res s))/\K4 a7 s l (λres=>m7 (E6 0 s.o) (j6 o)=.kl []/\a1w (j6 o) (E6 0 s.o)=E6 0 o/\a0E s.o res=some q):=λhx=>by
  obtain⟨vs,h1,h2⟩:=h.rResp _ hx;unfold b5T at h1
  split at h1 <;> try exact h1.elim
  rename_i hk
  split at h1 <;> try exact h1.elim
  rename_i he
  split at h1 <;> try exact h1.elim
  rename_i q hq;refine⟨q,h1,λK' hk'=>h2 _ ?_,?_⟩
  ·unfold b5T;simp only[hk,he,hq];exact hk'
  ·refine h.rRes (h2 (λus=>us=vs) rfl) λus e=>?_
   subst e;exact⟨hk,H0 (λ_ _=>b7S) he,hq⟩
 cases x with
 | normal=>exact key hx
 | ret=>exact key hx
 | exit i=>exact hx.elim
theorem b45 (T:Tab) (hint:Nat->Bool):∀n,Ok (a1s T hint n)
 | 0=>b1D (λ_ _ _ h=>h.elim) (λ_ _ _ h=>h.elim) (λ_ _ _ _ h=>h.elim) (λ_ _ _ _ h=>h.elim) (λ_ _ _ _ h=>h.elim) (λ_ _ _ _ h=>h.elim) (λ_ _ _ _ _ h=>h.elim) (λ_ _ _ _ _ h=>h.elim)
 | n+1=>by
  have ih:=b45 T hint n;refine b1D (λf rs K hx=>?_) (λf rs K hx=>?_) (λf vs o K hx=>?_) (λf vs o K hx=>?_) (λf vs s K hx=>?_) (λf vs s K hx=>?_) (λf vs l s K hx=>?_) (λf vs l s K hx=>?_)
  ·have hg:=T.good f
   split at hx <;> try exact hx.elim
   ·rename_i fn c hT;rw[hT] at hg;obtain⟨⟨x,s'⟩,h1,h2⟩:=ih.rExecp c (a1I rs (fn.ntmps - n7 rs)) (λp=>b0j (a1s T hint n) fn.results.toList K p.1 p.2) hx;obtain⟨q,h3,h4,h5⟩:=a7S ih h1;refine⟨q,a1v hg.f hg.b hg.n hg.c hg.r λqa qb qc qd qe qf qg qh qi qj qk ql qm qo qp qq qs qt qu qv qw qx qy qz vc vd ve vf vg vh vj vk vl vp vq vr vt vu vv vw vx vy vz hA=>?_,h3⟩;rw[hA]
    exact ih.rExec _ _ _ _ (h2 (λp=>p=(x,s')) rfl) λx2 s2 he=>by
     obtain⟨e1,e2⟩:=Prod.mk.inj he;subst e1;subst e2;exact h5
   ·rename_i F hT;rw[hT] at hg
    split at hx <;> try exact hx.elim
    rename_i q hq;exact⟨q,hg _ _ hq,hx⟩
  ·split at hx <;> try exact hx.elim
   ·rename_i fn c hT;obtain⟨⟨x,s'⟩,h1,h2⟩:=ih.rExecp c (a1I rs (fn.ntmps - n7 rs)) (λp=>b0j (a1s T hint n) fn.results.toList K p.1 p.2) hx;obtain⟨q,h3,h4⟩:=b9F ih K h1;refine⟨q,h3,λK' hk=>?_⟩;exact h2 (λp=>b0j (a1s T hint n) fn.results.toList K' p.1 p.2) (h4 K' hk)
   ·rename_i F hT
    split at hx <;> try exact hx.elim
    rename_i q hq;exact⟨q,hx,λK' hk=>hk⟩
  ·have hg:=T.good f
   split at hx <;> try exact hx.elim
   rename_i fn c hT;rw[hT] at hg;obtain⟨⟨x,s'⟩,h1,h2⟩:=ih.rExecp c (N5 vs o (fn.ntmps - n7 vs)) (λp=>b5U (a1s T hint n) o (λq=>K (a22 q)) fn.results.toList p.1 p.2) hx;obtain⟨q,h3,h4,h5⟩:=b1E ih h1;refine⟨a22 q,c1f hg.f hg.b hg.n hg.c hg.r ?_,h3⟩
   exact ih.rExec _ _ _ _ (h2 (λp=>p=(x,s')) rfl) λx2 s2 he=>by
    obtain⟨e1,e2⟩:=Prod.mk.inj he;subst e1;subst e2;exact h5
  ·split at hx <;> try exact hx.elim
   rename_i fn c hT;obtain⟨⟨x,s'⟩,h1,h2⟩:=ih.rExecp c (N5 vs o (fn.ntmps - n7 vs)) (λp=>b5U (a1s T hint n) o (λq=>K (a22 q)) fn.results.toList p.1 p.2) hx;obtain⟨q,h3,h4,h5⟩:=b1E ih h1;refine⟨a22 q,h3,λK' hk=>?_⟩;exact h2 (λp=>b5U (a1s T hint n) o (λq=>K' (a22 q)) fn.results.toList p.1 p.2) (h4 (λq=>K' (a22 q)) hk)
  ·have hg:=T.good f
   split at hx <;> try exact hx.elim
   ·rename_i fn c hT;rw[hT] at hg;exact b2J hg.f hg.b hg.n hg.c hg.r (ih.rExec _ _ _ _ hx λx s2 h=>a9f ih h)
   ·rename_i F hT;rw[hT] at hg
    split at hx <;> try exact hx.elim
    rename_i v o' ks hF;refine(hg _ _ _ hF).mono λx o2 ks2 e=>?_
    obtain⟨e1,e2⟩:=Prod.mk.inj e;obtain⟨e2,e3⟩:=Prod.mk.inj e2;subst e1;subst e2;subst e3;exact hx
   ·rename_i F hT;rw[hT] at hg
    split at hx
    ·rename_i rs hrs
     split at hx <;> try exact hx.elim
     rename_i q hq;refine(a6V (hg _ _ hq) hrs).mono λx o' ks ⟨e1,e2,e3⟩=>?_
     subst e1;subst e2;subst e3;exact hx
    ·split at hx <;> try exact hx.elim
     rename_i rs hrs
     split at hx <;> try exact hx.elim
     rename_i q hq;refine(b51 _ (hg _ _ hq) hrs).mono λx o' ks ⟨e1,e2,e3⟩=>?_
     subst e1;subst e2;subst e3;exact hx
  ·split at hx <;> try exact hx.elim
   ·rename_i fn c hT;obtain⟨⟨x,s'⟩,h1,h2⟩:=ih.rExecp c (N5 vs s.o (fn.ntmps - n7 vs)) (λp=>a4Q (a1s T hint n) (j6 s.o) (λv o' ks=>K (v,⟨A7 ks s.t,o'⟩)) fn.results.toList p.1 p.2) hx;obtain⟨⟨v,o',ks⟩,h3,h4⟩:=b0l ih (λp=>K (p.1,⟨A7 p.2.2 s.t,p.2.1⟩)) h1;refine⟨_,h3,λK' hk=>?_⟩;exact h2 (λp=>a4Q (a1s T hint n) (j6 s.o) (λv o' ks=>K' (v,⟨A7 ks s.t,o'⟩)) fn.results.toList p.1 p.2) (h4 (λp=>K' (p.1,⟨A7 p.2.2 s.t,p.2.1⟩)) hk)
   ·rename_i F hT
    split at hx <;> try exact hx.elim
    rename_i v o' ks hF;exact⟨_,hx,λK' hk=>hk⟩
   ·rename_i F hT
    split at hx
    ·rename_i rs hrs
     split at hx <;> try exact hx.elim
     rename_i q hq;exact⟨_,hx,λK' hk=>hk⟩
    ·split at hx <;> try exact hx.elim
     rename_i rs hrs
     split at hx <;> try exact hx.elim
     rename_i q hq;exact⟨_,hx,λK' hk=>hk⟩
  ·have hg:=T.good f
   split at hx <;> try exact hx.elim
   rename_i fn c hT;rw[hT] at hg;refine b9x hg.f hg.b hg.n hg.c hg.r (ih.rExec _ _ _ _ hx λx s2 h=>?_)
   obtain⟨⟨v,o',ks⟩,h3,h4⟩:=b0l ih (λp=>match geN (j6 s.o) p.2.2 with
    | true=>match a16 s.t s.o p.2.1 l with|true=>K p.1 ⟨s.t,p.2.1⟩|false=>False
    | false=>False) h
   simp only at h3
   split at h3 <;> try exact h3.elim
   rename_i hk1
   split at h3 <;> try exact h3.elim
   rename_i hk2;exact a9f ih (h4 (λp=>geN (j6 s.o) p.2.2=true/\(a57 l s.t s.o p.2.1/\K p.1 ⟨s.t,p.2.1⟩)) ⟨hk1,a5V hk2,h3⟩)
  ·split at hx <;> try exact hx.elim
   rename_i fn c hT
   obtain⟨⟨x,s'⟩,h1,h2⟩:=ih.rExecp c (N5 vs s.o (fn.ntmps - n7 vs)) (λp=>a4Q (a1s T hint n) (j6 s.o) (λv o' ks=>match geN (j6 s.o) ks with
    | true=>match a16 s.t s.o o' l with|true=>K (v,⟨s.t,o'⟩)|false=>False
    | false=>False) fn.results.toList p.1 p.2) hx
   obtain⟨⟨v,o',ks⟩,h3,h4⟩:=b0l ih (λp=>match geN (j6 s.o) p.2.2 with
    | true=>match a16 s.t s.o p.2.1 l with|true=>K (p.1,⟨s.t,p.2.1⟩)|false=>False
    | false=>False) h1
   simp only at h3
   split at h3 <;> try exact h3.elim
   rename_i hk1
   split at h3 <;> try exact h3.elim
   rename_i hk2;refine⟨_,h3,λK' hk=>?_⟩
   exact h2 (λp=>a4Q (a1s T hint n) (j6 s.o) (λv o' ks=>match geN (j6 s.o) ks with
    | true=>match a16 s.t s.o o' l with|true=>K' (v,⟨s.t,o'⟩)|false=>False
    | false=>False) fn.results.toList p.1 p.2) (h4 (λp=>match geN (j6 s.o) p.2.2 with
    | true=>match a16 s.t s.o p.2.1 l with|true=>K' (p.1,⟨s.t,p.2.1⟩)|false=>False
    | false=>False) (by simp only[hk1,hk2];exact hk))
theorem b5V {T:Tab} {hint:Nat->Bool} {n f:Nat} {fn:Func} {c:Code} {rs q:List R} (hg:Good f fn c)
  (h:x5 (a1s T hint n) c (a1I rs (fn.ntmps - n7 rs)) (λx s=>b0j (a1s T hint n) fn.results.toList (λq'=>match T6 a7P q' q with|true=>True|false=>False) x s)=True):l6 f rs q:=by
 have ih:=b45 T hint n;have hx:=of_eq_true h;obtain⟨⟨x,s'⟩,h1,h2⟩:=ih.rExecp c (a1I rs (fn.ntmps - n7 rs)) (λp=>b0j (a1s T hint n) fn.results.toList (λq'=>match T6 a7P q' q with|true=>True|false=>False) p.1 p.2) hx;obtain⟨q',h3,h4,h5⟩:=a7S ih h1
 split at h3 <;> try exact h3.elim
 rename_i he;rw[H0 (λ_ _=>a5b) he] at h5;refine a1v hg.f hg.b hg.n hg.c hg.r ?_;intros;rename_i hA;rw[hA]
 exact ih.rExec _ _ _ _ (h2 (λp=>p=(x,s')) rfl) λx2 s2 he=>by
  obtain⟨e1,e2⟩:=Prod.mk.inj he;subst e1;subst e2;exact h5
section
variable {qa:IntKind->Int->Int} {qb:Int->Int->Int} {qc:Int->Int->Int} {qd:Int->Int->Int} {qe:Int->Int->Int} {qf:Int->Int->Int} {qg:BinOp->IntKind->Int->IntKind->Int->Option Int} {qh:Int->Int->Bool} {qi:Int->Int->Bool} {qj:Int->Int->Bool} {qk:Int->Prop->Prop} {ql:List UInt8->List UInt8->Bool} {qm:List UInt8->List UInt8->Bool} {qo:ByteArray->List UInt8} {qp:ByteArray->ByteArray->ByteArray} {qq:ByteArray->ByteArray->Prop->Prop} {qs:ByteArray->Int} {qt:ByteArray->Int->Option Int} {qu:ByteArray->Int->Int->Option ByteArray} {qv:List (List D)->Option ByteArray} {qw:ByteArray->List (List D)} {qx:Int->Nat->Option Nat} {qy:List (List D)->Int} {qz:List (List D)->Int->Option (List D)} {vc:List (List D)->Int->Int->Option (List (List D))} {vd:List (List D)->List (List D)->List (List D)} {ve:List (List D)->Int->List D->List (List D)} {vf:List (List D)->List (List D)->Prop->Prop} {vg:List (R×R)->R->Option R} {vh:List (R×R)->R->R->List (R×R)} {vj:List D->List D->Bool} {vk:Int->List D->(List (List D)->Prop)->Prop} {vl:Nat->List R->(List R->Prop)->Prop} {vp:Nat->List V->List O->(V->Prop)->Prop} {vq:Nat->List V->S->(V->S->Prop)->Prop} {vr:Nat->List V->List Nat->S->(V->S->Prop)->Prop} {vt:Nat->(Bool->Prop)->Prop} {vu:Nat->(Bool->Prop)->Prop} {vv:Nat->(List V->List O->Prop)->List V->S->Prop} {vw:(S->Prop)->S->Prop} {vx:Op->Option Nat->S->(S->Prop)->Prop} {vy:Array Oper->S->(S->Prop)->Prop} {vz:Code->(S->(X->S->Prop)->Prop)->S->(X->S->Prop)->Prop}
end
end
end Go.Proofs.YtlofmibkljoapaaDoor.Vm
end
section
namespace Go.Proofs.YtlofmibkljoapaaDoor.Vm
open Go.RowKit Go.Proofs
section
variable {F:Fence} {n:Nat} {P:Program} {w:World}
def b7Z (B:Nat) (Kp:World->World->Prop) (I:World->Prop) (Ix:Code->World->Prop) (W:World):Exit->Act->World->Prop
 | .normal,_,W'=>KeepsFrom B W W'/\Kp W W'/\I W'
 | .ret,_,W'=>KeepsFrom B W W'/\Ix .ret W'
 | .exit i,_,W'=>KeepsFrom B W W'/\Ix (.exit i) W'
 | _,_,_=>False
def b9G (F:Fence) (n:Nat) (P:Program) (gf:Nat) (lb:Array Value) (encs:Nat->Array Value) (Kp:World->World->Prop) (N:Nat) (w:World):Prop :=
 ∀(l:Nat) (J:Nat->World->Prop) (Jx:Unit->World->Prop) (W:World),Below w.heap.size w W ->
  (∀k W1,k<N->J k W1->YieldAt F (n - 1) P l (encs k) W1 λe W'=>(e=.returned (.bool true)/\J (k+1) W'/\Kp W1 W')\/(e=.returned (.bool false)/\Jx () W')) ->
  J 0 W->CallsIn F n P gf (#[.func (.yield l) #[] #[]]++lb) W λe W'=>(∃v,e=.returned v)/\(J N W'\/Jx () W')
def b1F (L:Nat) (p:World->Prop):Prop:=∀(W:World) (r r':Loop),p W->W.heap[L]?=some (.loop r)->p (W.putObj L (.loop r'))
theorem b9H {g:Operand} {ps:Array Tmp} {assign body:Code} {Q:Exit->Act->World->Prop} {a:Act}
  (hro:F.round=none) (h1:1<=n) {gf:Nat} {lb:Array Value} (hg:a.eval g=.func (.func gf) #[] lb) (hFg:F.fn gf) (eg:∀args w,(callFunc gf args).run P w=.ok (.enter gf args) w)
  {encs:Nat->Array Value} {Kp:World->World->Prop} {N:Nat} (hseq:b9G F (n - 1) P gf lb encs Kp N w)
  (hKt:∀ {A B C:World},Kp A B->Kp B C->Kp A C) (hKb:∀(W:World) (l:Nat) (o o':Obj),w.heap.size<=l->W.heap[l]?=some o->o.isCells=false->o.isWalk=false->Kp W (W.putObj l o')) (hps:∀k,(encs k).size=ps.size)
  (I:Nat->World->Prop) (Ix:Code->World->Prop) (hI:∀k,b1F (w.heap.size+1) (I k)) (hIx:∀c,b1F (w.heap.size+1) (Ix c)) (h0:∀r:Loop,I 0 ((w.alloc (.deferred (some []))).alloc (.loop r)))
  (hround:∀(l k:Nat) (W:World),k<N->I k W->((∃r:Loop,W.heap[w.heap.size+1]?=some (.loop r))/\W.heap[w.heap.size]?=some (.deferred (some [])))->assign.wpIn (F.inRound l) (n - 1 - 1) P (Exit.then (λa' W1=>KeepsFrom w.heap.size W W1/\Kp W W1/\∃R:World->Prop,b1F (w.heap.size+1) R/\R W1/\∀W2,R W2->body.wpIn (F.inRound l) (n - 1 - 1) P (b7Z w.heap.size Kp (I (k+1)) Ix W2) a' W2) (λ_ _ _=>False))
   { tmps:=(ps.zip (encs k)).foldl (λt (p,v)=>t.setIfInBounds p v) a.tmps,defers:=[] } W)
  (hdone:∀(D:Nat) (W:World),D=w.heap.size->I N W->W.heap[D]?=some (.deferred (some []))->Q .normal { a with defers:={ target:=.collected D,args:=#[] }::a.defers } W)
  (hstop:∀(D:Nat) (c:Code) (W:World),w.heap.size<=D->Ix c W->W.heap[D]?=some (.deferred (some []))->c.wpIn F n P Q { a with defers:={ target:=.collected D,args:=#[] }::a.defers } W) :
  (Code.rangeFunc g ps assign body).wpIn F n P Q a w:=by
 refine wpIn_rangeFunc λfn hfn=>?_
 rw[hro];obtain⟨D,hD⟩:∃D,D=w.heap.size:=⟨_,rfl⟩;obtain⟨rec,hrec⟩:∃rec:LoopState->Option Code->Loop,rec=λst pe=>{ state:=st,pending:=pe,fn,tmps:=a.tmps,params:=ps,assign,body,defers:=w.heap.size }:=⟨_,rfl⟩
 obtain⟨W1,hW1⟩:∃W1,W1=(w.alloc (.deferred (some []))).alloc (.loop (rec .ready none)):=⟨_,rfl⟩;have hs1:W1.heap.size=D+1+1:=by rw[hW1,hD];simp
 have hbel:Below D w W1:=by rw[hW1,hD];exact((Below.refl _ w).alloc (c3A _) _).alloc (by simp) _
 have hL1:W1.heap[D+1]?=some (.loop (rec .ready none)):=by
  have:=World.alloc_heap_new (w.alloc (.deferred (some []))) (.loop (rec .ready none));rw[World.size_alloc,<-hD,<-hW1] at this;exact this
 have hD1:W1.heap[D]?=some (.deferred (some [])):=by
  rw[hW1,hD];exact(Below.heap_alloc _ _ _ (by simp)).trans (World.alloc_heap_new w _)
 have hI1:I 0 W1:=by rw[hW1];exact h0 _
 refine⟨D+1,[{ target:=.collected D,args:=#[] }],W1,{ target:=.fn (.func gf) lb,args:=#[.func (.yield (D+1)) #[] #[]] },W1,gf,#[.func (.yield (D+1)) #[] #[]]++lb,W1,
  by rw[hW1,hrec,hD];exact run_enterLoop_outer _ _ _ _ _,by simp only[resolve,hg];simp[go_sem],λf' hf=>by simp[Target.leads] at hf;subst hf;exact hFg,by simp[invoke,go_sem,eg],λ_=>h1,?_⟩
 refine(hseq (D+1) (λk W=>I k W/\W.heap[D+1]?=some (.loop (rec .ready none))/\W.heap[D]?=some (.deferred (some [])))
  (λ_ W=>∃c,Ix c W/\W.heap[D+1]?=some (.loop (rec .done (some c)))/\W.heap[D]?=some (.deferred (some []))) W1 (hD ▸ hbel) ?_ ⟨hI1,hL1,hD1⟩).mono ?_
 ·rintro k W hk ⟨hi,hl,hd⟩
  have hy:=run_yield (P:=P) (args:=encs k) hl (by rw[hrec];exact hps k);rw[hrec] at hy;refine⟨fn,_,assign,body,hy,roundIn_of_wpIn hfn (wpIn_mono (hround (D+1) k W hk hi ⟨⟨_,hD ▸ hl⟩,hD ▸ hd⟩) λe a' Wa h=>?_)⟩;cases e with
  | normal =>
   obtain⟨ha1,ha2,R,hR,hr1,hb⟩:=h;have hl2:=ha1.same _ _ (by omega) hl rfl;have hd2:=ha1.same _ _ (by omega) hd rfl;refine⟨_,run_beginRound hl2 (by rw[hrec]),?_⟩;obtain⟨W2,hW2⟩:∃W2,W2=Wa.putObj (D+1) (.loop { rec .ready none with state:=.busy }):=⟨_,rfl⟩;have hl3:W2.heap[D+1]?=some (.loop { rec .ready none with state:=.busy }):=by rw[hW2];exact World.putObj_heap_same (c3L.1 hl2).1
   have hd3:W2.heap[D]?=some (.deferred (some [])):=by rw[hW2];exact(World.putObj_heap_other (by omega)).trans hd2
   have hk3:Kp Wa W2:=by rw[hW2];exact hKb _ _ _ _ (by omega) hl2 rfl rfl
   have hr2:R W2:=by rw[hW2];rw[hD] at hl2 ⊢;exact hR _ _ _ hr1 hl2
   rw[<-hW2];refine wpIn_mono (hb W2 hr2) λe a3 W3 hp=>?_
   have fin:∀jump:Option Code,KeepsFrom w.heap.size W2 W3->∃W4,W4=W3.putObj (D+1) (.loop (rec (if jump.isNone then .ready else .done) jump))/\(Instr.endRound (D+1) jump).run P W3=.ok (.bool jump.isNone) W4 /\
     W3.heap[D+1]?=some (.loop { rec .ready none with state:=.busy })/\W4.heap[D+1]?=some (.loop (rec (if jump.isNone then .ready else .done) jump))/\W4.heap[D]?=some (.deferred (some [])):=λjump hk=>by
    have h3:=hk.same _ _ (by omega) hl3 rfl;refine⟨_,rfl,?_,h3,World.putObj_heap_same (c3L.1 h3).1,(World.putObj_heap_other (by omega)).trans (hk.same _ _ (by omega) hd3 rfl)⟩;have:=run_endRound (P:=P) jump h3;rw[hrec] at this ⊢;exact this
   cases e with
   | normal =>
    obtain⟨h5,h6,h7⟩:=hp;obtain⟨W4,e4,hr4,hl4,hl5,hd5⟩:=fin none h5;exact⟨_,W4,hr4,.inl ⟨rfl,⟨by rw[e4];rw[hD] at hl4 ⊢;exact hI _ _ _ _ h7 hl4,hl5,hd5⟩,hKt ha2 (hKt (hKt hk3 h6) (by rw[e4];exact hKb _ _ _ _ (by omega) hl4 rfl rfl))⟩⟩
   | ret =>
    obtain⟨h5,h7⟩:=hp;obtain⟨W4,e4,hr4,hl4,hl5,hd5⟩:=fin (some .ret) h5;exact⟨_,W4,hr4,.inr ⟨rfl,.ret,by rw[e4];rw[hD] at hl4 ⊢;exact hIx _ _ _ _ h7 hl4,hl5,hd5⟩⟩
   | exit i =>
    obtain⟨h5,h7⟩:=hp;obtain⟨W4,e4,hr4,hl4,hl5,hd5⟩:=fin (some (.exit i)) h5;exact⟨_,W4,hr4,.inr ⟨rfl,.exit i,by rw[e4];rw[hD] at hl4 ⊢;exact hIx _ _ _ _ h7 hl4,hl5,hd5⟩⟩
   | goto t=>exact hp.elim
   | panic ch=>exact hp.elim
   | outgrown=>exact hp.elim
  | _=>exact h.elim
 ·rintro e W2 ⟨⟨v,rfl⟩,⟨hi,hl,hd⟩|⟨c,hi,hl,hd⟩⟩
  ·exact⟨none,_,by have:=run_endLoop (P:=P) hl (by rw[hrec];simp);rw[hrec] at this;exact this,hdone D _ hD (by rw[hD] at hl ⊢;exact hI _ _ _ _ hi hl) ((World.putObj_heap_other (by omega)).trans hd)⟩
  ·exact⟨some c,_,by have:=run_endLoop (P:=P) hl (by rw[hrec];simp);rw[hrec] at this;exact this,hstop D c _ (by omega) (by rw[hD] at hl ⊢;exact hIx _ _ _ _ hi hl) ((World.putObj_heap_other (by omega)).trans hd)⟩
end
end Go.Proofs.YtlofmibkljoapaaDoor.Vm
end
section
namespace Go.Proofs.YtlofmibkljoapaaDoor.Vm
open Go.RowKit Go.Shelf Go.Proofs
attribute [local go_sem] Oper.semAt_some
def KpB (Bs b off m:Nat) (W W':World):Prop:=(∀v,W.cell? ⟨Bs,0,none⟩=some v->W'.cell? ⟨Bs,0,none⟩=some v)/\∀i,i<m->∀v,W.cell? ⟨b,off+i,none⟩=some v->W'.cell? ⟨b,off+i,none⟩=some v
theorem KpB.refl {Bs b off m:Nat} (W:World):KpB Bs b off m W W:=⟨λ_ h=>h,λ_ _ _ h=>h⟩
theorem KpB.trans {Bs b off m:Nat} {A B C:World} (h:KpB Bs b off m A B) (h':KpB Bs b off m B C):KpB Bs b off m A C:=⟨λv hv=>h'.1 v (h.1 v hv),λi hi v hv=>h'.2 i hi v (h.2 i hi v hv)⟩
theorem KpB.turn {Bs b off m:Nat} (W:World) (l:Nat) (o o':Obj) (hl:W.heap[l]?=some o) (ho:o.isCells=false):KpB Bs b off m W (W.putObj l o') :=
 ⟨λv hv=>cell_kept hv (grownBy_putObj' W l o') (λr e=>by cases e;exact⟨o,hl,ho⟩),λi hi v hv=>cell_kept hv (grownBy_putObj' W l o') (λr e=>by cases e;exact⟨o,hl,ho⟩)⟩
set_option maxRecDepth 100000 in
set_option maxHeartbeats 4000000 in
theorem b8a (e:Nat->Nat->Value) (F:Fence) (n:Nat) (hf:F.fn 82) (hro:F.round=none) (hn:1<=n) (l Bs b off len cap:Nat) (hreach:len * 80<=140737488351232) (J:Nat->World->Prop) (Jx:Unit->World->Prop)
  (hY:∀(k:Nat) (W:World),k<len->J k W->YieldAt F (n - 1) Tryd.prog l #[.int .i64 ((len - 1 - k:Nat):Int),.agg #[e (len - 1 - k) 0,e (len - 1 - k) 1,e (len - 1 - k) 2,e (len - 1 - k) 3,e (len - 1 - k) 4]] W λr W' =>
   (r=.returned (.bool true)/\J (k+1) W'/\KpB Bs b off (len * 5) W W')\/(r=.returned (.bool false)/\Jx () W'))
  (W:World) (hBs:W.cell? ⟨Bs,0,none⟩=some (.slice (some ⟨b,off,none⟩) len cap)) (hc:∀j,j<len->∀i,i<5->W.cell? ⟨b,off+(j * 5+i),none⟩=some (e j i)) (h0:J 0 W) :
  CallsIn F n Tryd.prog 82 #[.func (.yield l) #[] #[],.pointer (some ⟨Bs,0,none⟩)] W λr W'=>(∃v,r=.returned v)/\(J len W'\/Jx () W'):=by
 refine callsIn_of_wp Tryd.func82 rfl hf ?_ hro;simp only[Tryd.ntmps82,c5o,c3C,c3H,Nat.reduceAdd,Nat.reduceSub,Array.replicate_succ,Array.replicate_zero,List.push_toArray,List.append_toArray,c4t,c4r]
 gi_wp2
 gi_loopw [3] (λi wr=>∃k r:Nat,k+r=len/\i=.int .i64 ((r:Int) - 1)/\J k wr/\KpB Bs b off (len * 5) W wr)
  (λi _=>(intOf i+1).toNat)
 case atStart=>exact⟨0,len,by omega,rfl,h0,KpB.refl W⟩
 case round =>
  obtain⟨k,r,hk,rfl,hJs,hnx⟩:=hrel;have hbx:=hnx.1 _ hBs;cases r with
  | succ q =>
   have eq:(((q+1:Nat):Int) - 1)=(q:Int):=by omega
   have hq:len - 1 - k=q:=by omega
   rw[eq];have hy0:=hY k wr (by omega) hJs;rw[hq] at hy0;obtain⟨fn,tmps,assign,body,hy,hR⟩:=hy0;have h2:∀i,i<5->wr.cell? ⟨b,off+q * 5+i,none⟩=some (e q i):=λi hi=>by rw[c4K];exact hnx.2 _ (by omega) _ (hc q (by omega) i hi)
   have c0:=h2 0 (by omega);have c1:=h2 1 (by omega);have c2:=h2 2 (by omega);have c3:=h2 3 (by omega);have c4:=h2 4 (by omega);clear h2 hc hY;simp only[c4F] at c0;have hqn:(0:Int)<=(q:Int):=by omega
   have hql:(q:Int)<(len:Int):=by omega
   have hqlt:q<len:=by omega
   gi_wp2
   refine hR.mono ?_
   rintro r W3 (⟨rfl,hJ3,hk3⟩|⟨rfl,hJx3⟩)
   ·gi_wp2
    go_roundw
    case rel=>exact⟨k+1,q,by omega,by simp,hJ3,hnx.trans hk3⟩
    case measure=>simp[intOf]
   ·gi_wp2
    refine bodyPost_ret (results_none rfl _ _ _) rfl ?_;exact⟨⟨_,rfl⟩,.inr hJx3⟩
  | zero =>
   obtain rfl:k=len:=by omega
   clear hY
   gi_wp2
   go_end0
   exact⟨⟨_,rfl⟩,.inl hJs⟩
set_option maxRecDepth 100000 in
set_option maxHeartbeats 2000000 in
theorem b5W (A:Option Addr) (cap:Nat) (F:Fence) (n:Nat) (hf:F.fn 82) (hro:F.round=none) (l Bs:Nat) (J:World->Prop) (W:World) (hBs:W.cell? ⟨Bs,0,none⟩=some (.slice A 0 cap)) (h0:J W) :
  CallsIn F n Tryd.prog 82 #[.func (.yield l) #[] #[],.pointer (some ⟨Bs,0,none⟩)] W λe W'=>(∃v,e=.returned v)/\J W':=by
 refine callsIn_of_wp Tryd.func82 rfl hf ?_ hro;simp only[Tryd.ntmps82,c5o,c3C,c3H,Nat.reduceAdd,Nat.reduceSub,Array.replicate_succ,Array.replicate_zero,List.push_toArray,List.append_toArray,c4t,c4r]
 gi_wp2
 gi_loopw [3] (λi wr=>i=.int .i64 (-1)/\J wr) (λ_ _=>0)
 case atStart=>exact⟨rfl,h0⟩
 case round =>
  obtain⟨rfl,hJs⟩:=hrel
  gi_wp2
  go_end0
  exact⟨⟨_,rfl⟩,hJs⟩
theorem a9g {I:Nat->Nat->Prop} {w:World} {v:Value} {rows:List (List D)} {Bs:Nat} (hlt:∀b h,I b h->b<w.heap.size) (hv:AtD I w v (.sl 5 rows)) (hBl:Bs<w.heap.size) (hBs:w.cell? ⟨Bs,0,none⟩=some v) (hreach:rows.length * 80<=140737488351232) :
    ∃(b off:Nat) (us:List Value),us.length=rows.length * 5/\(rows≠[]->Up I b (off+rows.length * 5))/\s9 I w us rows.flatten/\(∀r∈rows,r.length=5) /\
      ∀(F:Fence) (n:Nat),F.fn 82->F.round=none->1<=n->b9G F n Tryd.prog 82 #[.pointer (some ⟨Bs,0,none⟩)] (λk=>#[.int .i64 ((rows.length - 1 - k:Nat):Int),.agg (((us.drop ((rows.length - 1 - k) * 5)).take 5).toArray)]) (KpB Bs b off (rows.length * 5)) rows.length w:=by
  obtain⟨A,cap,rfl,hcap,h⟩:=hv.slice
  rcases h with rfl|⟨b,off,us,rfl,hI,hr,hl,hc,hd⟩
  · exact⟨0,0,[],rfl,λh=>absurd rfl h,.nil I w,λr hr=>(by cases hr),λF n hf hro hn l J Jx W hW hY h0 =>
      (b5W A cap F n hf hro l Bs (J 0) W ((hW.cell (p:=⟨Bs,0,none⟩) hBl).trans hBs) h0).mono λe W' h=>⟨h.1,.inl h.2⟩⟩
  · refine⟨b,off,us,hl,λ_=>hI,hd,hr,λF n hf hro hn l J Jx W hW hY h0=>?_⟩
    have hbl:b<w.heap.size:=by obtain⟨k,h1,h2⟩:=hI;exact hlt _ _ h2
    refine b8a (λj i=>us.getD (j * 5+i) undef) F n hf hro hn l Bs b off rows.length cap hreach J Jx (λk W1 hk hj=>?_) W ((hW.cell (p:=⟨Bs,0,none⟩) hBl).trans hBs) (λj hj i hi=>?_) h0
    · have:=hY k W1 hk hj
      have hlen:(rows.length - 1 - k) * 5+5<=us.length:=by rw[hl,<-c4R];exact c41 _ (by omega)
      have e:((us.drop ((rows.length - 1 - k) * 5)).take 5)=[us.getD ((rows.length - 1 - k) * 5+0) undef,us.getD ((rows.length - 1 - k) * 5+1) undef,us.getD ((rows.length - 1 - k) * 5+2) undef,us.getD ((rows.length - 1 - k) * 5+3) undef,us.getD ((rows.length - 1 - k) * 5+4) undef]:=by
        apply c5h
        intro i;rw[c4l]
        split
        · rename_i hi
          rw[c4k];have h3:(rows.length - 1 - k) * 5+i<us.length:=by omega
          have hu:∀j,(rows.length - 1 - k) * 5+j<us.length->us[(rows.length - 1 - k) * 5+j]?=some (us.getD ((rows.length - 1 - k) * 5+j) undef):=λj hj=>by rw[c3T,c39 hj];rfl
          rw[hu i h3]
          match i,hi with
          | 0,_=>rfl
           | 1,_=>rfl
           | 2,_=>rfl
           | 3,_=>rfl
           | 4,_=>rfl
          
        · rename_i hi
          rw[c4u (by simp;omega)]
      dsimp only at this;rw[e] at this;exact this
    · refine(hW.cell (p:=⟨b,off+(j * 5+i),none⟩) hbl).trans ?_
      have h3:j * 5+i<us.length:=by
        have h4:j * 5+5<=rows.length * 5:=by rw[<-c4R];exact c41 _ (by omega)
        omega
      have:=hc (j * 5+i) _ (c39 h3);rw[this,c3T,c39 h3];rfl
end Go.Proofs.YtlofmibkljoapaaDoor.Vm
end
section
namespace Go.Proofs.YtlofmibkljoapaaDoor.Vm
open Go.RowKit
set_option maxRecDepth 100000
set_option maxHeartbeats 4000000
section
section
variable {I0:Nat->Nat->Prop} {X:Nat->Prop} {w0:W0} {I:Nat->Nat->Prop} {g:Nat->Value} {s:S} {a:Act} {w:World}
def other:Obj->Bool
 | .cells _ _ _=>false
 | .map _ _=>false
 | _=>true
theorem a0f {L:Nat} {o:Obj} (hI:∀k,¬I L k):o6 I w (w.putObj L o):=λb k hb i hi=>by
 have hne:b≠L:=λe=>hI k (e ▸ hb)
 show (match (w.putObj L o).heap[b]? with|some (.cells c _ _)=>c[i]?|_=>none)=_;rw[World.putObj_heap_other hne];rfl
theorem a1k {L:Nat} {y:Obj} (hl:w.heap[L]?=some y) (hy:other y=true) {k:Nat} {o:O} (h:Z3 X w0 I w g k o) (hd:o≠.dead):¬P0 (g k) L:=λhg=>by
 cases o with
 | dead=>exact hd rfl
 | box cs =>
  obtain⟨b,us,t,h1,h2,_⟩:=h;rw[h1] at hg;obtain rfl:b=L:=hg;rw[hl] at h2;rw[Option.some.inj h2] at hy;cases hy
 | row z e rows =>
  obtain⟨us,h1,_⟩:=h
  rcases h1.2 with⟨e0,_⟩|⟨g',cap,cur,e0,_,hh,_⟩
  ·rw[e0] at hg;exact hg.elim
  ·rw[e0] at hg;have hg:g'=L:=hg;subst hg;rw[hl] at hh;rw[Option.some.inj hh] at hy;cases hy
 | ob T vs =>
  obtain⟨b,h1,h2,_⟩:=h;rw[h1] at hg;obtain rfl:b=L:=hg;rw[hl] at h2;rw[Option.some.inj h2] at hy;cases hy
 | mp kt es =>
  obtain⟨b,l,c,h1,h2,_⟩:=h;rw[h1] at hg;obtain rfl:b=L:=hg;rw[hl] at h2;rw[Option.some.inj h2] at hy;cases hy
 | it P =>
  obtain⟨A,n,cap,F,h1,h2,h3,h4⟩:=h;rw[h1,B0] at hg;obtain⟨c,t,h5⟩:=(h4 L hg).1;rw[hl] at h5;rw[Option.some.inj h5] at hy;cases hy
 | kl ks =>
  obtain⟨us,h1,_⟩:=h;rw[h1] at hg;exact hg.elim
theorem b1G {L:Nat} {y y':Obj} (hl:w.heap[L]?=some y) (hy:other y=true) (hI:∀k,¬I L k) {k:Nat} {o:O} (h:Z3 X w0 I w g k o):Z3 X w0 I (w.putObj L y') g k o:=by
 cases hd:o with
 | dead=>exact True.intro
 | _ =>
  rw[hd] at h;exact h.keep (λ_ _ h=>h) (a0f hI) (λb hb=>World.putObj_heap_other λe=>a1k hl hy h (by simp) (e ▸ hb)) (λb hb h' hh=>hh)
theorem RelI.turned (h:RelI I0 X w0 I g s a w) {L:Nat} {y y':Obj} (hl:w.heap[L]?=some y) (hy:other y=true) (h0:w0.w.heap.size<=L) (hI:∀k,¬I L k):RelI I0 X w0 I g s a (w.putObj L y'):=by
 have hk:=a0f (w:=w) (o:=y') hI;refine⟨h.im,λb k hb=>⟨?_,(h.lt b k hb).2⟩,⟨h.fr.os,h.fr.tape,h.fr.output,?_,λb hb hX=>(World.putObj_heap_other (by omega)).trans (h.fr.block b hb hX)⟩,h.kp.trans λb k hb i hi=>hk b k (h.im b k hb) i hi,h.lo,h.st,λk o ho=>b1G hl hy hI (h.obj k o ho),h.dis,h.out,h.tmp.mono (λ_ _ h=>h) hk,h.dfr⟩
 ·have:=(h.lt b k hb).1;simpa using this
 ·have:=h.fr.size;simpa using this
end
section
variable {I0:Nat->Nat->Prop} {X:Nat->Prop} {w0:W0} {I:Nat->Nat->Prop} {g:Nat->Value} {s:S} {a:Act} {w:World}
theorem RelI.turnBoth (h:RelI I0 X w0 I g s a w) {L:Nat} {y y0 y':Obj} (hl:w.heap[L]?=some y) (hy:other y=true) (hl0:w0.w.heap[L]?=some y0) (hI:∀k,¬I L k):RelI I0 X ⟨w0.w.putObj L y',w0.g,w0.n,w0.d⟩ I g s a (w.putObj L y'):=by
 have hk:=a0f (w:=w) (o:=y') hI;have hk0:=a0f (w:=w0.w) (o:=y') (I:=I0) (λk hk=>hI k (h.im L k hk))
 have hM:∀b,a19 X w0 b->a19 X ⟨w0.w.putObj L y',w0.g,w0.n,w0.d⟩ b:=λb hb=>by
  rcases hb with hb|hb
  ·exact .inl (by simpa using hb)
  ·exact .inr hb
 refine⟨h.im,λb k hb=>⟨?_,λhlt=>(h.lt b k hb).2 (by simpa using hlt)⟩,⟨h.fr.os,h.fr.tape,h.fr.output,?_,λb hb hX=>?_⟩,?_,h.lo,h.st,λk o ho=>?_,h.dis,h.out,h.tmp.mono (λ_ _ h=>h) hk,h.dfr.1,?_⟩
 ·have:=(h.lt b k hb).1;simpa using this
 ·have:=h.fr.size;simpa using this
 ·by_cases e:b=L
  ·subst e;rw[World.putObj_heap_same (c3L.1 hl).1,World.putObj_heap_same (c3L.1 hl0).1]
  ·rw[World.putObj_heap_other e,World.putObj_heap_other e];exact h.fr.block b (by simpa using hb) hX
 ·intro b k hb i hi;exact((hk b k (h.im b k hb) i hi).trans (h.kp b k hb i hi)).trans (hk0 b k hb i hi).symm
 ·have:=b1G (y':=y') hl hy hI (h.obj k o ho);cases o with
  | dead=>exact True.intro
  | box cs=>obtain⟨b,us,t,h1,h2,h3,h4,h5,h6⟩:=this;exact⟨b,us,t,h1,h2,h3,h4,h5,hM b h6⟩
  | mp kt es=>obtain⟨b,l,c,h1,h2,h3,h4,h6⟩:=this;exact⟨b,l,c,h1,h2,h3,h4,hM b h6⟩
  | it P=>obtain⟨A,n,cap,F,h1,h2,h3,h4⟩:=this;exact⟨A,n,cap,F,h1,h2,h3,λb hb=>⟨(h4 b hb).1,(h4 b hb).2.1,hM b (h4 b hb).2.2⟩⟩
  | kl ks=>exact this
  | ob T vs=>obtain⟨b,h1,h2,h3,h4⟩:=this;exact⟨b,h1,h2,h3,hM b h4⟩
  | row z e rows=>obtain⟨us,h1,h2,h3,h4⟩:=this;exact⟨us,h1,h2,h3,λb hb=>⟨(h4 b hb).1,(h4 b hb).2.1,hM b (h4 b hb).2.2⟩⟩
 ·intro t ht;obtain⟨h1,h2⟩:=h.dfr.2 t ht;obtain⟨gl,ty,c,e1,e2,e3⟩:=b6G h1
  have hne:gl≠L:=λe=>by
   subst e;have:=(h.fr.block gl e3 (h2 gl e1)).trans e2;rw[hl] at this;injection this with this;subst this;cases hy
  exact⟨b6H e1 ((World.putObj_heap_other hne).trans e2),h2⟩
theorem a5d {B:Nat} {g':Nat->Value} {os:List O} {nn:Nat} {d:List Deferred} {I2:Nat->Nat->Prop} {g2:Nat->Value} {s2:S} {a2:Act} {w2:World} (h:∀k o,os[k]?=some o->Z3 X w0 I w g' k o) (hmp:∀j kt es b,os[j]?=some (.mp kt es)->P0 (g' j) b->b<B)
  (h2:RelI I (Xof g' os) ⟨w,g',nn,d⟩ I2 g2 s2 a2 w2):KeepsFrom B w w2:=by
 refine⟨h2.fr.size,λk o hk ho hc=>(h2.fr.block k (c3L.1 ho).1 λ⟨j,x,hj,hd,hb⟩=>?_).trans ho⟩;have hob:=h j x hj;cases x with
 | dead=>exact hd rfl
 | box cs =>
  obtain⟨b,us,t,h1,h2,_⟩:=hob;rw[h1] at hb;obtain rfl:b=k:=hb;rw[ho] at h2;injection h2 with h2;rw[h2] at hc;cases hc
 | row z e rows =>
  obtain⟨us,h1,_⟩:=hob
  rcases h1.2 with⟨e0,_⟩|⟨g3,cap,cur,e0,_,hh,_⟩
  ·rw[e0] at hb;exact hb.elim
  ·rw[e0] at hb;have hb:g3=k:=hb;subst hb;rw[ho] at hh;injection hh with hh;rw[hh] at hc;cases hc
 | mp kt es=>have:=hmp j kt es k hj hb;omega
 | ob T vs =>
  obtain⟨b,h1,h2,_⟩:=hob;rw[h1] at hb;obtain rfl:b=k:=hb;rw[ho] at h2;injection h2 with h2;rw[h2] at hc;cases hc
 | it P =>
  obtain⟨A,n,cap,F,h1,h2,h3,h4⟩:=hob;rw[h1,B0] at hb;obtain⟨c,t,h5⟩:=(h4 k hb).1;rw[ho] at h5;injection h5 with h5;rw[h5] at hc;cases hc
 | kl ks =>
  obtain⟨us,h1,_⟩:=hob;rw[h1] at hb;exact hb.elim
end
def b1H:O->Bool
 | .mp _ _=>true
 | _=>false
def a1M:List O->List O->Bool
 | _,[]=>true
 | [],o::l=>match b1H o with|true=>false|false=>a1M [] l
 | x::k,o::l=>match b1H o with|true=>(match b1H x with|true=>a1M k l|false=>false)|false=>a1M k l
theorem b9I {o:O} (h:b1H o=true):∃kt es,o=.mp kt es:=by
 cases o with
 | mp kt es=>exact⟨kt,es,rfl⟩
 | _=>cases h
theorem a5e:∀ {k l:List O} {j:Nat} {kt:Nat} {es:List (R×R)},a1M k l=true->l[j]?=some (.mp kt es)->∃kt' es',k[j]?=some (.mp kt' es')
 | _,[],j,_,_,_,h=>by simp at h
 | [],o::l,j,kt,es,hs,h=>by
  simp only[a1M] at hs;cases ho:b1H o with
  | true=>rw[ho] at hs;cases hs
  | false =>
   rw[ho] at hs;cases j with
   | zero=>simp at h;subst h;cases ho
   | succ j =>
    obtain⟨a,b,hx⟩:=a5e hs (show l[j]?=_ by simpa using h)
    simp at hx
 | x::k,o::l,j,kt,es,hs,h=>by
  simp only[a1M] at hs;cases j with
  | zero =>
   simp at h
   subst h;cases hx:b1H x with
   | true=>obtain⟨a,b,rfl⟩:=b9I hx;exact⟨a,b,rfl⟩
   | false=>rw[hx] at hs;cases hs
  | succ j =>
   have hs':a1M k l=true:=by
    cases ho:b1H o with
    | true =>
     rw[ho] at hs;cases hx:b1H x with
     | true=>rw[hx] at hs;exact hs
     | false=>rw[hx] at hs;cases hs
    | false=>rw[ho] at hs;exact hs
   obtain⟨a,b,hx⟩:=a5e hs' (show l[j]?=_ by simpa using h);exact⟨a,b,by simpa using hx⟩
def b8b (ks1 ks2:List Nat) (n:Nat) (o o':List O) (m:Nat) (s2:S):Prop:=m7 s2.o m=.kl ks1/\m7 s2.o n=.kl ks2/\a1w n s2.o=o'/\a1Z n o'=true/\a1M o o'=true
def b8c (n:Nat) (o o':List O) (m:Nat) (s2:S):Prop:=m7 s2.o m=.kl []/\m7 s2.o n=.kl []/\a1w n s2.o=o'/\a1Z n o'=true/\a1M o o'=true
def b8d (ks1 ks2:List Nat) (asg bdy:Code) (tk:List V) (o o':List O):Prop :=
 x5 a7 asg ⟨tk,o9 o (.kl [])⟩ (λx s1=>x=.normal/\a1M o s1.o=true/\x5 a7 bdy ⟨s1.t,o9 s1.o (.kl [])⟩ (λx s2=>x=.normal/\b8b ks1 ks2 (j6 o) o o' (j6 s1.o) s2))
def c16 (asg bdy:Code) (tk:List V) (o o':List O):Prop :=
 x5 a7 asg ⟨tk,o9 o (.kl [])⟩ (λx s1=>x=.normal/\a1M o s1.o=true/\x5 a7 bdy ⟨s1.t,o9 s1.o (.kl [])⟩ (λx s2=>x=.normal/\b8c (j6 o) o o' (j6 s1.o) s2))
section
variable {I0:Nat->Nat->Prop} {X:Nat->Prop} {w0:W0} {I:Nat->Nat->Prop} {g:Nat->Value} {t:List V} {o:List O} {a:Act} {W:World}
def a2o (I0:Nat->Nat->Prop) (X:Nat->Prop) (w0:W0) (I:Nat->Nat->Prop) (L B:Nat) (t:List V) (a:Act) (o:List O) (W:World):Prop :=
 ∃I' g',(∀b k,I b k->I' b k)/\(∀k,¬I' L k/\¬I' B k)/\RelI I0 X w0 I' g' ⟨t,o⟩ a W/\∀j kt es b,o[j]?=some (.mp kt es)->P0 (g' j) b->b<B
theorem b8e {asg bdy:Code} {ro:Option Nat} {n L B:Nat} {r:Loop} {us:List Value} {tk:List V} {o':List O} {ks1 ks2:List Nat} (hA:r8 Tryd.prog asg=true) (hB:r8 Tryd.prog bdy=true)
  (h:RelI I0 X w0 I g ⟨t,o⟩ a W) (hL:W.heap[L]?=some (.loop r)) {dd:Option (List Deferred)} (hD:W.heap[B]?=some (.deferred dd)) (hL0:w0.w.heap.size<=L) (hI2:∀k,¬I L k/\¬I B k) (hmp:∀j kt es b,o[j]?=some (.mp kt es)->P0 (g j) b->b<B) (hv:j2 I W g us tk) (ht:A7 ks2 t=t) (hx:b8d ks1 ks2 asg bdy tk o o') :
  asg.wpIn (FW ro) n Tryd.prog (Exit.then (λa' W1=>KeepsFrom B W W1/\o6 I W W1/\∃R:World->Prop,b1F L R/\R W1/\∀W2,R W2->bdy.wpIn (FW ro) n Tryd.prog (b7Z B (o6 I) (a2o I0 X w0 I L B t a o') (λ_ _=>False) W2) a' W2) (λ_ _ _=>False)) { tmps:=us.toArray,defers:=[] } W:=by
 obtain⟨g',hg,hgn,h1⟩:=h.rebase hv;have hLt:L<W.heap.size:=(c3L.1 hL).1;have hDt:B<W.heap.size:=(c3L.1 hD).1;have hIL:∀k,¬I L k:=λk=>(hI2 k).1
 have hmp1:∀j kt es b,(o9 o (.kl []))[j]?=some (.mp kt es)->P0 (g' j) b->b<B:=λj kt es b hj hb=>by
  rw[a0s] at hj
  have hlt:j<o.length:=by
   have:=(c35.1 hj).1;rw[c37,c43] at this
   rcases c4q j o.length with h|h
   ·exact h
   ·have:j=o.length:=by omega
    subst this
    simp at hj
  rw[c3S hlt] at hj;rw[hg j hlt] at hb;exact hmp j kt es b hj hb
 have hXL:¬Xof g' (o9 o (.kl [])) L:=λ⟨j,x,hj,hd,hb⟩=>a1k hL rfl (h1.obj j x hj) hd hb
 have hXD:¬Xof g' (o9 o (.kl [])) B:=λ⟨j,x,hj,hd,hb⟩=>a1k hD rfl (h1.obj j x hj) hd hb
 refine H2 asg _ _ _ _ _ hA ⟨I,g',h1⟩ hx λe s1 a' W1 hr hk=>?_
 obtain⟨he,hms,hx2⟩:=hk;subst he;obtain⟨I1,g1,h1a⟩:=hr
 have hI1L:∀k,¬I1 L k:=λk hk=>by
  rcases (h1a.lt L k hk).2 hLt with h2|h2
  ·exact hIL k h2
  ·exact hXL h2
 have hI1D:∀k,¬I1 B k:=λk hk=>by
  rcases (h1a.lt B k hk).2 hDt with h2|h2
  ·exact(hI2 k).2 h2
  ·exact hXD h2
 have hmp2:∀j kt es b,s1.o[j]?=some (.mp kt es)->P0 (g1 j) b->b<B:=λj kt es b hj hb=>by
  obtain⟨kt',es',ho⟩:=a5e hms hj;have hlt:=(c35.1 ho).1;obtain⟨b0,l0,c0,e0,_⟩:=h.obj j _ ho;have e1:=hg j hlt;rw[e0] at e1;have e2:=h1a.st j (Nat.lt_succ_of_lt hlt) (by show J9 (g' j)=true;rw[e1];rfl);have e2:g1 j=g' j:=e2;rw[e2,e1] at hb;exact hmp j kt' es' b ho (by rw[e0];exact hb)
 refine⟨a5d h1.obj hmp1 h1a,h1a.kp,λW2=>∃(Wb:World) (rb r2:Loop),RelI I0 X w0 I g ⟨t,o⟩ a Wb/\Wb.heap[L]?=some (.loop rb)/\W2.heap[L]?=some (.loop r2)/\(B≠L->W2.heap[B]?=some (.deferred dd))/\RelI I (Xof g' (o9 o (.kl []))) ⟨Wb,g',o.length+1,[]⟩ I1 g1 s1 a' W2,?_,?_,?_⟩
 ·rintro W2 r3 r' ⟨Wb,rb,r2,b1,b2,b3,bd,b4⟩ hl
  exact⟨Wb.putObj L (.loop r'),r',r',b1.turned b2 rfl hL0 hIL,World.putObj_heap_same (c3L.1 b2).1,World.putObj_heap_same (c3L.1 b3).1,λhne=>(World.putObj_heap_other hne).trans (bd hne),b4.turnBoth hl rfl b2 hI1L⟩
 ·exact⟨W,r,r,h,hL,(h1a.fr.block L hLt hXL).trans hL,λ_=>(h1a.fr.block B hDt hXD).trans hD,h1a⟩
 ·rintro W2 ⟨Wb,rb,r2,b1,b2,b3,bd,b4⟩
  have hne:B≠L:=λe=>by rw[e,hL] at hD;cases hD
  have bd:=bd hne;obtain⟨g3,hg3,hgn3,h5⟩:=b4.rebase b4.tmp
  have ea:({ tmps:=a'.tmps.toList.toArray,defers:=[] }:Act)=a':=by
   have:=b4.dfr.1;cases a';simp only at this;subst this;rfl
  rw[ea] at h5
  have hmp3:∀j kt es b,(o9 s1.o (.kl []))[j]?=some (.mp kt es)->P0 (g3 j) b->b<B:=λj kt es b hj hb=>by
   rw[a0s] at hj
   have hlt:j<s1.o.length:=by
    have:=(c35.1 hj).1;rw[c37,c43] at this
    rcases c4q j s1.o.length with h|h
    ·exact h
    ·have:j=s1.o.length:=by omega
     subst this
     simp at hj
   rw[c3S hlt] at hj;rw[hg3 j hlt] at hb;exact hmp2 j kt es b hj hb
  refine H2 bdy _ _ _ _ _ hB ⟨I1,g3,h5⟩ hx2 λe s2 a3 W3 hr hk=>?_
  obtain⟨he,k1,k2,k3,k4,k5⟩:=hk;subst he;obtain⟨I2,g2,h6⟩:=hr;have hlo:o.length+1<=s1.o.length:=h1a.lo;have k1:=j8 k1 (by simp);have k2:=j8 k2 (by simp);rw[l9] at k1 k2 k3 k4;rw[a2T] at k3;obtain⟨_,h7⟩:=b4.unbase hg3 hgn3 h6 k1;obtain⟨hcut,h8⟩:=b1.unbase hg hgn h7 (ks:=ks2) (by rw[c3O (by show s1.o.length≠o.length;omega)];exact k2)
  have e3:((s2.o.set s1.o.length .dead).set o.length .dead).take o.length=o':=by
   rw[c5t (c3A _),c5t (by omega),k3]
  have hl2:o.length<s2.o.length:=(c35.1 k2).1;have h9:=h8.trim (n:=o.length) h.lo (by show o.length<=((s2.o.set _ _).set _ _).length;rw[c3N,c3N];omega) hcut (by show a1Z _ (((s2.o.set _ _).set _ _).take _)=true;rw[e3];exact k4);have e4:(⟨A7 ks2 t,((s2.o.set s1.o.length .dead).set o.length .dead).take o.length⟩:S)=⟨t,o'⟩:=by rw[e3,ht]
  have h9':RelI I0 X w0 I2 (a2J o.length g2) ⟨t,o'⟩ a W3:=by rw[<-e4];exact h9
  refine⟨a5d h5.obj hmp3 h6,λb k hb=>h6.kp b k (h1a.im b k hb),I2,a2J o.length g2,h7.im,λk=>?_,h9',λj kt es b hj hb=>?_⟩
  ·constructor
   ·intro hk
    rcases (h6.lt L k hk).2 (c3L.1 b3).1 with h2|⟨j,x,hj,hd,hb⟩
    ·exact hI1L k h2
    ·exact a1k b3 rfl (h5.obj j x hj) hd hb
   ·intro hk
    rcases (h6.lt B k hk).2 (c3L.1 bd).1 with h2|⟨j,x,hj,hd,hb⟩
    ·exact hI1D k h2
    ·exact a1k bd rfl (h5.obj j x hj) hd hb
  ·obtain⟨kt',es',ho⟩:=a5e k5 hj;have hlt:=(c35.1 ho).1;obtain⟨b0,l0,c0,e0,_⟩:=h.obj j _ ho;have e1:=hg j hlt;rw[e0] at e1;have e2:g2 j=g' j:=h7.st j (Nat.lt_succ_of_lt hlt) (by show J9 (g' j)=true;rw[e1];rfl);rw[show a2J o.length g2 j=g2 j from c3E hlt,e2,e1] at hb;exact hmp j kt' es' b ho (by rw[e0];exact hb)
end
theorem a3C {s:S} {k i:Nat} (h:B1 ⟨s.t,s.o.set k .dead⟩ i):B1 s i:=by
 obtain⟨o,ho,hd⟩:=h
 by_cases e:k=i
 ·subst e;rw[List.getElem?_set] at ho
  split at ho
  ·split at ho
   ·exact absurd (Option.some.inj ho).symm hd
   ·cases ho
  ·exact absurd rfl ‹¬_›
 ·exact⟨o,by simpa [c3O e] using ho,hd⟩
section
variable {I0:Nat->Nat->Prop} {X:Nat->Prop} {w0:W0} {I:Nat->Nat->Prop} {g:Nat->Value} {s:S} {a:Act} {w:World}
theorem RelI.frzBox (h:RelI I0 X w0 I g s a w) {k:Nat} {cs:List V} (hk:s.o[k]?=some (.box cs)):∃(b:Nat) (us:List Value) (t:TypeId×List Value),g k=.pointer (some ⟨b,0,none⟩)/\w.heap[b]?=some (.cells (us++t.2).toArray t.1 (0,0))/\j2 I w g us cs /\
  RelI I0 X w0 (λb' n=>I b' n\/(b'=b/\n<=us.length)) g ⟨s.t,s.o.set k .dead⟩ a w:=by
 obtain⟨b,us,t,h1,h2,h3,h4,h5,h6⟩:=h.obj k _ hk;have hlk:B1 s k:=⟨_,hk,by simp⟩;have hgk:P0 (g k) b:=by rw[h1];rfl
 have hkp:o6 I w w:=o6.refl I w;refine⟨b,us,t,h1,h2,h3,λb n hb=>.inl (h.im b n hb),λb' n hb=>?_,h.fr,h.kp,by simpa using h.lo,h.st,λj o hj=>?_,λi j b hi hj=>h.dis i j b (a3C hi) (a3C hj),λj hj=>h.out j (by simpa using hj),h.tmp.mono (λ_ _ h=>.inl h) hkp,h.dfr⟩
 ·rcases hb with hb|⟨rfl,_⟩
  ·exact h.lt b' n hb
  ·refine⟨(c3L.1 h2).1,λhlt=>.inr ?_⟩
   rcases h6 with hM|hM
   ·omega
   ·exact hM
 ·by_cases hjk:k=j
  ·subst hjk;have hlt:k<s.o.length:=(c35.1 hk).1;simp only[c3V hlt] at hj;injection hj with hj;subst hj;exact True.intro
  ·simp only[c3O hjk] at hj
   by_cases hd:o=.dead
   ·subst hd;exact True.intro
   refine(h.obj j o hj).keep (λ_ _ h=>.inl h) hkp (λ_ _=>rfl) λb' hb n hn=>?_
   rcases hn with hn|⟨rfl,_⟩
   ·exact hn
   ·exact absurd (h.dis k j b' hlk ⟨o,hj,hd⟩ hgk hb) hjk
end
section
variable {I0:Nat->Nat->Prop} {X:Nat->Prop} {w0:W0} {I:Nat->Nat->Prop} {g:Nat->Value} {t:List V} {a:Act} {w:World}
theorem a2o.turned {L B:Nat} {o:List O} (h0:w0.w.heap.size<=L):b1F L (a2o I0 X w0 I L B t a o):=by
 rintro W r r' ⟨I',g',h1,h2,h3,h4⟩ hl
 exact⟨I',g',h1,h2,h3.turned hl rfl h0 (λk=>(h2 k).1),h4⟩
theorem b1I {asg bdy:Code} {n:Nat} {g0:Operand} {p1 p2 gf N:Nat} {lb:Array Value} {u1 u2:Nat->Value} {Kp:World->World->Prop} {st:Nat->List O} {tk:Nat->List V} {Q:Exit->Act->World->Prop} {ks1 ks2:List Nat} (hA:r8 Tryd.prog asg=true) (hB:r8 Tryd.prog bdy=true)
  (h:RelI I0 X w0 I g ⟨t,st 0⟩ a w) (h1:1<=n) (hg:a.eval g0=.func (.func gf) #[] lb) (eg:∀args w,(callFunc gf args).run Tryd.prog w=.ok (.enter gf args) w)
  (hseq:b9G (FW none) (n - 1) Tryd.prog gf lb (λk=>#[u1 k,u2 k]) Kp N w) (hKt:∀ {A B C:World},Kp A B->Kp B C->Kp A C) (hKb:∀(W:World) (l:Nat) (o o':Obj),w.heap.size<=l->W.heap[l]?=some o->o.isCells=false->o.isWalk=false->Kp W (W.putObj l o')) (hKp:∀W W',o6 I W W'->Kp W W')
  (hv:∀k W I' g',k<N->(∀b j,I b j->I' b j)->o6 I w W->j2 I' W g' a.tmps.toList t->j2 I' W g' ((a.tmps.setIfInBounds p1 (u1 k)).setIfInBounds p2 (u2 k)).toList (tk k))
  (ht:A7 ks2 t=t) (hx:∀k,k<N->b8d ks1 ks2 asg bdy (tk k) (st k) (st (k+1)))
  (hQ:∀(D:Nat) (W:World),D=w.heap.size->a2o I0 X w0 I (w.heap.size+1) w.heap.size t a (st N) W->W.heap[D]?=some (.deferred (some []))->Q .normal { a with defers:={ target:=.collected D,args:=#[] }::a.defers } W) :
  (Code.rangeFunc g0 #[p1,p2] asg bdy).wpIn (FW none) n Tryd.prog Q a w:=by
 obtain⟨L,hL⟩:∃L,L=w.heap.size+1:=⟨_,rfl⟩;have hL0:w0.w.heap.size<=L:=by have:=h.fr.size;omega
 have hIL:∀k,¬I L k/\¬I w.heap.size k:=λk=>⟨λhk=>by have:=(h.lt L k hk).1;omega,λhk=>by have:=(h.lt _ k hk).1;omega⟩
 have hIL1:∀k,¬I L k:=λk=>(hIL k).1
 refine b9H (F:=FW none) rfl h1 hg trivial eg hseq hKt hKb (λ_=>rfl) (λk W=>a2o I0 X w0 I L w.heap.size t a (st k) W/\o6 I w W) (λ_ _=>False) (λk W r r' hw hl=>?_) (λ_ _ _ _ hw _=>hw) (λr=>?_) (λl k W hk hw hl=>?_) (λD W hD hw hd=>?_) (λ_ _ _ _ hw _=>hw.elim)
 ·rw[<-hL] at hl ⊢;exact⟨a2o.turned hL0 W r r' hw.1 hl,hw.2.trans (a0f hIL1)⟩
 ·have hbel:Below w.heap.size w ((w.alloc (.deferred (some []))).alloc (.loop r)):=((Below.refl _ w).alloc (c3A _) _).alloc (by simp) _;refine⟨⟨I,g,λ_ _ h=>h,hIL,h.grow hbel (λ_ _ h=>h) (λ_ _ h=>.inl h),λj kt es b hj hb=>((h.obj j _ hj).blk (by simp) b hb).1⟩,λb j hb i _=>hbel.cell (p:=⟨b,i,none⟩) (h.lt b j hb).1⟩
 ·obtain⟨⟨I',g',h2,h3,h4,h5⟩,hk2⟩:=hw;obtain⟨⟨r,hl⟩,hdd⟩:=hl;rw[<-hL] at hl;have key:=b8e (ro:=some l) (n:=n - 1 - 1) hA hB h4 hl hdd hL0 h3 h5 (hv k W I' g' hk h2 hk2 h4.tmp) ht (hx k hk);have ez:(#[p1,p2].zip #[u1 k,u2 k]).foldl (λt (x:Tmp×Value)=>match x with|(p,v)=>t.setIfInBounds p v) a.tmps=(a.tmps.setIfInBounds p1 (u1 k)).setIfInBounds p2 (u2 k):=by simp
  rw[Array.toArray_toList,<-ez] at key;refine wpIn_mono key λe a' W1 he=>?_
  cases e with
  | normal =>
   obtain⟨e1,e2,R,e3,e4,e5⟩:=he;have hkI:∀ {A B:World},o6 I' A B->o6 I A B:=λh b j hb=>h b j (h2 b j hb)
   refine⟨e1,hKp _ _ (hkI e2),λW2=>R W2/\o6 I w W2,?_,⟨e4,hk2.trans (hkI e2)⟩,?_⟩
   ·rintro W2 r1 r2 ⟨f1,f2⟩ hl2
    rw[<-hL] at hl2 ⊢;exact⟨e3 W2 r1 r2 f1 hl2,f2.trans (a0f hIL1)⟩
   ·rintro W2 ⟨f1,f2⟩
    refine wpIn_mono (e5 W2 f1) λe a3 W3 he=>?_
    cases e with
    | normal =>
     obtain⟨q1,q2,I2,g2,q3,q4,q5,q6⟩:=he;exact⟨q1,hKp _ _ (hkI q2),⟨I2,g2,λb j hb=>q3 b j (h2 b j hb),q4,q5,q6⟩,f2.trans (hkI q2)⟩
    | ret=>exact he
    | exit i=>exact he
    | goto t=>exact he
    | panic c=>exact he
    | outgrown=>exact he
  | ret=>exact he.elim
  | exit i=>exact he.elim
  | goto t=>exact he.elim
  | panic c=>exact he.elim
  | outgrown=>exact he.elim
 ·rw[hL] at hw;exact hQ D W hD hw.1 hd
theorem b8f {asg bdy:Code} {n:Nat} {g0:Operand} {p1 p2 gf N:Nat} {lb:Array Value} {u1 u2:Nat->Value} {Kp:World->World->Prop} {st:Nat->List O} {tk:Nat->List V} {Q:Exit->Act->World->Prop} (hA:r8 Tryd.prog asg=true) (hB:r8 Tryd.prog bdy=true)
  (h:RelI I0 X w0 I g ⟨t,st 0⟩ a w) (h1:1<=n) (hg:a.eval g0=.func (.func gf) #[] lb) (eg:∀args w,(callFunc gf args).run Tryd.prog w=.ok (.enter gf args) w)
  (hseq:b9G (FW none) (n - 1) Tryd.prog gf lb (λk=>#[u1 k,u2 k]) Kp N w) (hKt:∀ {A B C:World},Kp A B->Kp B C->Kp A C) (hKb:∀(W:World) (l:Nat) (o o':Obj),w.heap.size<=l->W.heap[l]?=some o->o.isCells=false->o.isWalk=false->Kp W (W.putObj l o')) (hKp:∀W W',o6 I W W'->Kp W W')
  (hv:∀k W I' g',k<N->(∀b j,I b j->I' b j)->o6 I w W->j2 I' W g' a.tmps.toList t->j2 I' W g' ((a.tmps.setIfInBounds p1 (u1 k)).setIfInBounds p2 (u2 k)).toList (tk k))
  (hx:∀k,k<N->c16 asg bdy (tk k) (st k) (st (k+1)))
  (hQ:∀(D:Nat) (W:World),D=w.heap.size->a2o I0 X w0 I (w.heap.size+1) w.heap.size t a (st N) W->W.heap[D]?=some (.deferred (some []))->Q .normal { a with defers:={ target:=.collected D,args:=#[] }::a.defers } W) :
  (Code.rangeFunc g0 #[p1,p2] asg bdy).wpIn (FW none) n Tryd.prog Q a w :=
 b1I (ks1:=[]) (ks2:=[]) hA hB h h1 hg eg hseq hKt hKb hKp hv rfl hx hQ
end
section
variable {I0:Nat->Nat->Prop} {X:Nat->Prop} {w0:W0} {I:Nat->Nat->Prop} {g:Nat->Value} {s:S} {a:Act} {w:World}
theorem RelI.mark (h:RelI I0 X w0 I g s a w) (d:List Deferred):RelI I0 X ⟨w0.w,w0.g,w0.n,d⟩ I g s { a with defers:=d } w :=
 ⟨h.im,h.lt,h.fr,h.kp,h.lo,h.st,h.obj,h.dis,h.out,h.tmp,rfl,h.dfr.2⟩
end
def c20 (l:List ResultVar) (q:List R) (m:Nat):Vm.X->S->Prop
 | .exit _,_=>False
 | _,s=>m7 s.o m=.kl []/\a76 a7 s l q
theorem b5X {c2:Code} {n D:Nat} {fn:Func} {q:List R} {w:World} {I IN:Nat->Nat->Prop} {gN:Nat->Value} {t:List V} {oN:List O} {a:Act} {W:World} (hc:r8 Tryd.prog c2=true) (hr:P5 fn.results.toList=true)
  (h:RelI I (λ_=>False) ⟨w,λ_=>.nilFunc,0,[]⟩ IN gN ⟨t,oN⟩ a W) (hID:∀k,¬IN D k) (hD0:w.heap.size<=D) (hD:W.heap[D]?=some (.deferred (some [])))
  (hx:x5 a7 c2 ⟨t,o9 oN (.kl [])⟩ (λx s=>c20 fn.results.toList q (j6 oN) x s)) :
  c2.wpIn (FW none) n Tryd.prog (bodyPostM (FW none) n Tryd.prog fn (λe w'=>∃v,e=.returned v/\a2E (nxt I w w') w' v q/\Below w.heap.size w w')) { a with defers:={ target:=.collected D,args:=#[] }::a.defers } W:=by
 obtain⟨g',hg,hgn,h1⟩:=h.rebase h.tmp;have hDt:D<W.heap.size:=(c3L.1 hD).1;have hXD:¬Xof g' (o9 oN (.kl [])) D:=λ⟨j,x,hj,hd,hb⟩=>a1k hD rfl (h1.obj j x hj) hd hb
 have h2:=h1.mark [{ target:=.collected D,args:=#[] }]
 have ea:({ ({ tmps:=a.tmps.toList.toArray,defers:=[] }:Act) with defers:=[{ target:=.collected D,args:=#[] }] }:Act)={ a with defers:={ target:=.collected D,args:=#[] }::a.defers }:=by
  have:=h.dfr.1;cases a;simp only at this;subst this;rfl
 rw[ea] at h2;refine H2 c2 _ _ _ _ _ hc ⟨IN,g',h2⟩ hx λe s2 a2 W2 hrel hk=>?_
 obtain⟨I2,g2,h3⟩:=hrel;have hD2:W2.heap[D]?=some (.deferred (some [])):=(h3.fr.block D hDt hXD).trans hD
 have hI2D:∀k,¬I2 D k:=λk hk=>by
  rcases (h3.lt D k hk).2 hDt with h4|h4
  ·exact hID k h4
  ·exact hXD h4
 have key:m7 s2.o (j6 oN)=.kl []/\a76 a7 s2 fn.results.toList q->LeavesInM (FW none) n Tryd.prog fn a2.tmps (λe w'=>∃v,e=.returned v/\a2E (nxt I w w') w' v q/\Below w.heap.size w w') a2.defers .returning W2:=λ⟨hkl,hres⟩=>by
  rw[h3.dfr.1];have h4:=h3.turnBoth (y':=.deferred none) hD2 rfl hD hI2D;have h5:=h.turned (y':=.deferred none) hD rfl hD0 hID;have h6:=h4.mark [];have hkl:=j8 hkl (by simp);rw[l9] at hkl;obtain⟨_,h7⟩:=h5.unbase hg hgn h6 hkl;obtain⟨v,r1,r2⟩:=a77 h4 hr hres;refine⟨by simp,.inl ⟨_,_,rfl,run_takeDeferred hD2,?_⟩⟩;refine⟨v,r1,v,rfl,?_,⟨h7.fr.os,h7.fr.tape,h7.fr.output,h7.fr.size,λb hb=>h7.fr.block b hb (λhx=>hx)⟩⟩
  have hnx:∀b k,I2 b k->nxt I w _ b k:=λb k hbk=>by
   obtain⟨h3,h4⟩:=h7.lt b k hbk
   rcases c4q b w.heap.size with hlt|hge
   ·exact .inl ((h4 hlt).resolve_right (λhx=>hx))
   ·exact .inr ⟨hge,h3⟩
  match q,r2 with
  | [],⟨us,e,hu⟩=>exact⟨us,e,hu.mono hnx (o6.refl _ _)⟩
  | [r],hu=>exact AtR.mono hnx (o6.refl _ _) hu
  | r::r'::q,⟨us,e,hu⟩=>exact⟨us,e,hu.mono hnx (o6.refl _ _)⟩
 cases e with
 | normal=>exact key hk
 | exit i=>exact hk.elim
 | ret=>exact key hk
theorem b3a {f:Nat} {fn:Func} {c0 c1 cp c2 asg bdy:Code} {bi:Nat} {g0:Operand} {ps:Array Tmp} {rs q:List R} {Pre:S->Prop} (hf:Tryd.prog.funcs[f]?=some fn)
  (hb:fn.body=some (.seq c0 (.seq c1 (.seq (.seq cp (.block bi (.rangeFunc g0 ps asg bdy))) c2)))) (hn:(fn.name != "runtime.NumGoroutine")=true) (h0:r8 Tryd.prog c0=true) (h1:r8 Tryd.prog c1=true) (hp:r8 Tryd.prog cp=true)
  (hpre:x5 a7 (.seq c0 (.seq c1 cp)) (a1I rs (fn.ntmps - n7 rs)) (λx s=>x=.normal/\Pre s))
  (hmid:∀(I I':Nat->Nat->Prop) (g:Nat->Value) (w W:World) (s:S) (a:Act),Pre s->RelI I (λ_=>False) ⟨w,λ_=>.nilFunc,0,[]⟩ I' g s a W ->
   (Code.rangeFunc g0 ps asg bdy).wpIn (FW none) 3 Tryd.prog (Exit.inBlock bi (Exit.then (c2.wpIn (FW none) 3 Tryd.prog (bodyPostM (FW none) 3 Tryd.prog fn (λe w'=>∃v,e=.returned v/\a2E (nxt I w w') w' v q/\Below w.heap.size w w')))
    (bodyPostM (FW none) 3 Tryd.prog fn (λe w'=>∃v,e=.returned v/\a2E (nxt I w w') w' v q/\Below w.heap.size w w')))) a W):l6 f rs q:=by
 refine⟨by unfold a0X;rw[hf];simp only[hn,hb];rfl,?_⟩;intro I w args hI hat;have hlen:=hat.len;have hsz:args.toArray.size=n7 rs:=by rw[y8];simp[hlen]
 refine callsIn_wide.1 (callsIn_of_wp_marks (n:=3) hf hb trivial ?_);rw[hsz];have hst:=b1n hI hat (fn.ntmps - n7 rs);refine wpIn_seq (H2 (ro:=none) c0 _ _ _ _ _ h0 ⟨I,_,hst⟩ hpre λe s1 a1 W1 hr1 hk1=>?_);cases e with
 | normal =>
  obtain⟨F1,hg1,hk1⟩:=hk1;obtain⟨z1,hf1,hr1'⟩:=hg1 _ _ _ _ _ hr1;refine wpIn_seq (H2 (ro:=none) c1 _ _ _ _ _ h1 hr1' (hk1 z1 hf1) λe s2 a2 W2 hr2 hk2=>?_);cases e with
  | normal =>
   obtain⟨F2,hg2,hk2⟩:=hk2;obtain⟨z2,hf2,hr2'⟩:=hg2 _ _ _ _ _ hr2;refine wpIn_seq (wpIn_seq (H2 (ro:=none) cp _ _ _ _ _ hp hr2' (hk2 z2 hf2) λe s3 a3 W3 hr3 hk3=>?_));obtain⟨he,hP⟩:=hk3;subst he;obtain⟨I',g',h3⟩:=hr3;exact wpIn_block (hmid I I' g' w W3 s3 a3 hP h3)
  | exit i=>exact absurd hk2.1 (by simp)
  | ret=>exact absurd hk2.1 (by simp)
 | exit i=>exact absurd hk1.1 (by simp)
 | ret=>exact absurd hk1.1 (by simp)
end
section
def Q0:Code->Code
 | .seq c _=>c
 | c=>c
def C0:Code->Code
 | .seq _ c=>c
 | c=>c
def jT (rows:List (List D)) (d0 d1 d2 d3:D):List V:=[.d (.sl 5 rows),.ag [.d d0,.d d1,.d d2,.d d3],.tu [],.ptr 0 0,.ptr 1 0,.ptr 2 0,.tu [],.tu [],.ag [.d d0,.d d1,.d d2,.d d3],.ag [.d d0,.d d1,.d d2,.d d3],.d (.sl 5 rows),
 .cl 82 [4],.tu [],.tu [],.tu [],.tu [],.tu [],.tu [],.tu [],.tu [],.tu [],.tu [],.tu []]
def jO (d0 d1 d2 d3:D) (acc:List V) (b:O):List O:=[.box [.d d0,.d d1,.d d2,.d d3],.box [.d (.sc (.int .u8 0)),.d (.sc (.string ⟨#[]⟩)),.d (.sc (.int .i64 0)),.em],.box acc,.dead,b]
set_option maxRecDepth 100000
set_option maxHeartbeats 4000000
theorem b8g (rows:List (List D)) (d0 d1 d2 d3:D) (hcp:l6 69 [.ag [d0,d1,d2,d3]] [.ag [d0,d1,d2,d3]]) (P:S->Prop) (hP:P ⟨jT rows d0 d1 d2 d3,jO d0 d1 d2 d3 [.d d0,.d d1,.d d2,.d d3] (.box [.d (.sl 5 rows)])⟩):∀qa qb qc qd qe qf qg qh qi qj qk ql qm qo qp qq qs qt qu qv qw qx qy qz vc vd ve vf vg vh vj vk vl vp vq vr vt vu vv vw vx vy vz,Ar.mk qa qb qc qd qe qf qg qh qi qj qk ql qm qo qp qq qs qt qu qv qw qx qy qz vc vd ve vf vg vh vj vk vl vp vq vr vt vu vv vw vx vy vz=a7->x5 (Ar.mk qa qb qc qd qe qf qg qh qi qj qk ql qm qo qp qq qs qt qu qv qw qx qy qz vc vd ve vf vg vh vj vk vl vp vq vr vt vu vv vw vx vy vz) (.seq (Q0 (Tryd.f45.body.getD .skip)) (.seq (Q0 (C0 (Tryd.f45.body.getD .skip))) (Q0 (Q0 (C0 (C0 (Tryd.f45.body.getD .skip)))))))
  (a1I [.one (.sl 5 rows),.ag [d0,d1,d2,d3]] (Tryd.f45.ntmps - n7 [R.one (.sl 5 rows),.ag [d0,d1,d2,d3]])) (λx s=>x=.normal/\P s):=by
 intro _ _ _ _ _ _ _ _ _ _ _ _ _ _ _ _ _ _ _ _ _ _ _ _ _ _ _ _ _ _ _ _ _ _ _ _ _ _ _ _ _ vy _ hA;cbv
 repeat ((with_reducible apply b6 hA);cbv)
 refine c5 hA _ hcp ?_ ?_
 ·rfl
 cbv
 repeat ((with_reducible apply b6 hA);cbv)
 refine b7x hA Tryd.func70 rfl (by kernel_rfl) (by kernel_rfl) (by kernel_rfl) ?_;cbv
 repeat ((with_reducible apply b6 hA);cbv)
 exact hP
def b0m:Code->Code
 | .block _ (.rangeFunc _ _ a _)=>a
 | c=>c
def b0n:Code->Code
 | .block _ (.rangeFunc _ _ _ b)=>b
 | c=>c
theorem b3b (rows:List (List D)) (d0 d1 d2 d3 a0 a1 a2 a3 nm c0 c1 c2 c3:D) (i:Int) (hcp:l6 69 [.ag [c0,c1,c2,c3]] [.ag [c0,c1,c2,c3]]):∀qa qb qc qd qe qf qg qh qi qj qk ql qm qo qp qq qs qt qu qv qw qx qy qz vc vd ve vf vg vh vj vk vl vp vq vr vt vu vv vw vx vy vz,Ar.mk qa qb qc qd qe qf qg qh qi qj qk ql qm qo qp qq qs qt qu qv qw qx qy qz vc vd ve vf vg vh vj vk vl vp vq vr vt vu vv vw vx vy vz=a7 ->
  x5 (Ar.mk qa qb qc qd qe qf qg qh qi qj qk ql qm qo qp qq qs qt qu qv qw qx qy qz vc vd ve vf vg vh vj vk vl vp vq vr vt vu vv vw vx vy vz) (b0m (C0 (Q0 (C0 (C0 (Tryd.f45.body.getD .skip)))))) ⟨G5 (G5 (jT rows d0 d1 d2 d3) 12 (vi .i64 i)) 13 (.ag [.d nm,.d c0,.d c1,.d c2,.d c3]),o9 (jO d0 d1 d2 d3 [.d a0,.d a1,.d a2,.d a3] .dead) (.kl [])⟩
   (λx s1=>x=.normal/\a1M (jO d0 d1 d2 d3 [.d a0,.d a1,.d a2,.d a3] .dead) s1.o=true/\x5 (Ar.mk qa qb qc qd qe qf qg qh qi qj qk ql qm qo qp qq qs qt qu qv qw qx qy qz vc vd ve vf vg vh vj vk vl vp vq vr vt vu vv vw vx vy vz) (b0n (C0 (Q0 (C0 (C0 (Tryd.f45.body.getD .skip)))))) ⟨s1.t,o9 s1.o (.kl [])⟩ (λx s2=>x=.normal /\
    b8c 5 (jO d0 d1 d2 d3 [.d a0,.d a1,.d a2,.d a3] .dead) (jO d0 d1 d2 d3 [.d (.sc (.int .u8 11)),.d nm,.d (.sc (.int .i64 0)),.d (.sl 4 [[c0,c1,c2,c3],[a0,a1,a2,a3]])] .dead) (j6 s1.o) s2)):=by
 intro _ _ _ _ _ _ _ _ _ _ _ _ _ _ _ _ _ _ _ _ _ _ _ _ _ _ _ _ _ _ _ _ _ _ _ _ _ _ _ _ _ vy _ hA;cbv
 repeat ((with_reducible apply b6 hA);cbv)
 refine c7 hA _ hcp ?_;cbv
 repeat ((with_reducible first|apply b6 hA|apply z6 hA true);cbv)
 exact⟨rfl,trivial⟩
def a5f:List (List D)->List D->List D
 | [],tl=>tl
 | r::rows,tl=>[.sc (.int .u8 11),r.headD (.sl 0 []),.sc (.int .i64 0),.sl 4 [r.tail,a5f rows tl]]
theorem a7T (rows:List (List D)) (d0 d1 d2 d3:D):∃a0 a1 a2 a3,a5f rows [d0,d1,d2,d3]=[a0,a1,a2,a3]:=by
 cases rows <;> exact⟨_,_,_,_,rfl⟩
def a82 (rows:List (List D)) (tl:List D) (k:Nat):List D:=a5f (rows.drop (rows.length - k)) tl
theorem b5Y {rows:List (List D)} {tl r:List D} {k:Nat} (hk:k<rows.length) (hr:rows[rows.length - 1 - k]?=some r):a82 rows tl (k+1)=a5f (r::rows.drop (rows.length - k)) tl:=by
 have h1:rows.length - (k+1)<rows.length:=by omega
 have h2:=c3U h1;have e1:rows.length - 1 - k=rows.length - (k+1):=by omega
 rw[e1,c39 h1] at hr;rw[a82,h2,Option.some.inj hr,show rows.length - (k+1)+1=rows.length - k by omega]
theorem a7U {W:World} {b:Nat} {us:Array Value} {t:TypeId} {m:Nat×Nat} {i:Nat} (h:W.heap[b]?=some (.cells us t m)):W.cell? ⟨b,i,none⟩=us[i]?:=by
 show (match W.heap[b]? with|some (.cells c _ _)=>c[i]?|_=>none)=_;rw[h]
theorem b8h (rows:List (List D)) (d0 d1 d2 d3 a0 a1 a2 a3:D):∀qa qb qc qd qe qf qg qh qi qj qk ql qm qo qp qq qs qt qu qv qw qx qy qz vc vd ve vf vg vh vj vk vl vp vq vr vt vu vv vw vx vy vz,Ar.mk qa qb qc qd qe qf qg qh qi qj qk ql qm qo qp qq qs qt qu qv qw qx qy qz vc vd ve vf vg vh vj vk vl vp vq vr vt vu vv vw vx vy vz=a7->x5 (Ar.mk qa qb qc qd qe qf qg qh qi qj qk ql qm qo qp qq qs qt qu qv qw qx qy qz vc vd ve vf vg vh vj vk vl vp vq vr vt vu vv vw vx vy vz) (C0 (C0 (C0 (Tryd.f45.body.getD .skip)))) ⟨jT rows d0 d1 d2 d3,o9 (jO d0 d1 d2 d3 [.d a0,.d a1,.d a2,.d a3] .dead) (.kl [])⟩
  (λx s=>c20 Tryd.f45.results.toList [.ag [a0,a1,a2,a3]] 5 x s):=by
 intro _ _ _ _ _ _ _ _ _ _ _ _ _ _ _ _ _ _ _ _ _ _ _ _ _ _ _ _ _ _ _ _ _ _ _ _ _ _ _ _ _ vy _ hA;cbv
 repeat ((with_reducible apply b6 hA);cbv)
end
theorem b46:Tryd.f45.body=some (.seq (Q0 (Tryd.f45.body.getD .skip)) (.seq (Q0 (C0 (Tryd.f45.body.getD .skip))) (.seq (.seq (Q0 (Q0 (C0 (C0 (Tryd.f45.body.getD .skip))))) (.block 0 (.rangeFunc (.tmp 11) #[12,13] (b0m (C0 (Q0 (C0 (C0 (Tryd.f45.body.getD .skip)))))) (b0n (C0 (Q0 (C0 (C0 (Tryd.f45.body.getD .skip))))))))) (C0 (C0 (C0 (Tryd.f45.body.getD .skip))))))):=by kernel_rfl
theorem b47:(Tryd.f45.name != "runtime.NumGoroutine")=true:=by kernel_rfl
theorem b48:r8 Tryd.prog (Q0 (Tryd.f45.body.getD .skip))=true:=by kernel_rfl
theorem b49:r8 Tryd.prog (Q0 (C0 (Tryd.f45.body.getD .skip)))=true:=by kernel_rfl
theorem b4A:r8 Tryd.prog (Q0 (Q0 (C0 (C0 (Tryd.f45.body.getD .skip)))))=true:=by kernel_rfl
theorem b4B:r8 Tryd.prog (C0 (C0 (C0 (Tryd.f45.body.getD .skip))))=true:=by kernel_rfl
theorem b4C:P5 Tryd.f45.results.toList=true:=by kernel_rfl
theorem b4D:r8 Tryd.prog (b0m (C0 (Q0 (C0 (C0 (Tryd.f45.body.getD .skip))))))=true:=by kernel_rfl
theorem b4E:r8 Tryd.prog (b0n (C0 (Q0 (C0 (C0 (Tryd.f45.body.getD .skip))))))=true:=by kernel_rfl
theorem b5Z (rows:List (List D)) (d0 d1 d2 d3:D) (hcp:l6 69 [.ag [d0,d1,d2,d3]] [.ag [d0,d1,d2,d3]]) (P:S->Prop) (hP:P ⟨jT rows d0 d1 d2 d3,jO d0 d1 d2 d3 [.d d0,.d d1,.d d2,.d d3] (.box [.d (.sl 5 rows)])⟩) :
  x5 a7 (.seq (Q0 (Tryd.f45.body.getD .skip)) (.seq (Q0 (C0 (Tryd.f45.body.getD .skip))) (Q0 (Q0 (C0 (C0 (Tryd.f45.body.getD .skip))))))) (a1I [.one (.sl 5 rows),.ag [d0,d1,d2,d3]] (Tryd.f45.ntmps - n7 [R.one (.sl 5 rows),.ag [d0,d1,d2,d3]])) (λx s=>x=.normal/\P s) :=
 b8g rows d0 d1 d2 d3 hcp P hP _ _ _ _ _ _ _ _ _ _ _ _ _ _ _ _ _ _ _ _ _ _ _ _ _ _ _ _ _ _ _ _ _ _ _ _ _ _ _ _ _ _ _ rfl
theorem b8i (rows:List (List D)) (d0 d1 d2 d3:D) (hlen:rows.length * 80<=140737488351232) (htl:l6 69 [.ag [d0,d1,d2,d3]] [.ag [d0,d1,d2,d3]]) (hrows:∀r∈rows,∃nm c0 c1 c2 c3,r=[nm,c0,c1,c2,c3]/\l6 69 [.ag [c0,c1,c2,c3]] [.ag [c0,c1,c2,c3]]) :
  l6 45 [.one (.sl 5 rows),.ag [d0,d1,d2,d3]] [.ag (a5f rows [d0,d1,d2,d3])]:=by
 refine b3a (Pre:=λs=>s=⟨jT rows d0 d1 d2 d3,jO d0 d1 d2 d3 [.d d0,.d d1,.d d2,.d d3] (.box [.d (.sl 5 rows)])⟩) Tryd.func45 b46 b47 b48 b49 b4A ?_ ?_
 ·exact b5Z rows d0 d1 d2 d3 htl _ rfl
 intro I I' g w W s a hs h;subst hs;obtain⟨b,us,ty,h1,h2,h3,h4⟩:=h.frzBox (k:=4) rfl;obtain⟨v,us',rfl,hv,hn⟩:=h3.uncons;obtain rfl:=hn.unnil;have hvD:AtD I' W v (.sl 5 rows):=by cases hv with|d h=>exact h
 have hBs:W.cell? ⟨b,0,none⟩=some v:=a7U h2;have hbl:b<W.heap.size:=(c3L.1 h2).1;obtain⟨bb,off,vs,hl,hup,hds,hr5,hseq⟩:=a9g (λb k hb=>(h.lt b k hb).1) hvD hbl hBs hlen
 have hcl:a.eval (.tmp 11)=.func (.func 82) #[] #[.pointer (some ⟨b,0,none⟩)]:=by
  have h5:=h4.get (.tmp 11);have h5:AtV _ W g (a.eval (.tmp 11)) (.cl 82 [4]):=h5;generalize a.eval (.tmp 11)=ax at h5 ⊢;cases h5 with
  | cl f us ks hl hh =>
   match us,hl with
   | [u],_=>rw[(hh 0 u 4 rfl rfl).1,h1]
 have hst0:RelI I (λ_=>False) ⟨w,λ_=>.nilFunc,0,[]⟩ (λb' n=>I' b' n\/(b'=b/\n<=1)) g ⟨jT rows d0 d1 d2 d3,jO d0 d1 d2 d3 (ofD (a82 rows [d0,d1,d2,d3] 0)) .dead⟩ a W:=by
  have e:a82 rows [d0,d1,d2,d3] 0=[d0,d1,d2,d3]:=by rw[a82,c4m (by omega)];rfl
  rw[e];exact h4
 refine b8f (t:=jT rows d0 d1 d2 d3) (p1:=12) (p2:=13) (gf:=82) (N:=rows.length) (lb:=#[.pointer (some ⟨b,0,none⟩)])
  (u1:=λk=>.int .i64 ((rows.length - 1 - k:Nat):Int)) (u2:=λk=>.agg (((vs.drop ((rows.length - 1 - k) * 5)).take 5).toArray)) (Kp:=KpB b bb off (rows.length * 5)) (st:=λk=>jO d0 d1 d2 d3 (ofD (a82 rows [d0,d1,d2,d3] k)) .dead)
  (tk:=λk=>G5 (G5 (jT rows d0 d1 d2 d3) 12 (vi .i64 ((rows.length - 1 - k:Nat):Int))) 13 (.ag (ofD (rows.getD (rows.length - 1 - k) []))))
  b4D b4E hst0 (by decide) hcl (enters_of Tryd.func82 (by kernel_rfl) rfl) (hseq (FW none) 2 trivial rfl (by decide)) KpB.trans (λW l o o' _ hl ho _=>KpB.turn W l o o' hl ho) ?_ ?_ ?_ ?_
 ·intro W1 W2 hk;refine⟨λv hv=>?_,λi hi v hv=>?_⟩
  ·rw[hk b 1 (.inr ⟨rfl,c3A _⟩) 0 (by decide)];exact hv
  ·obtain⟨n,hn1,hn2⟩:=hup (λe=>by rw[e] at hi;simp at hi);rw[hk bb n (.inl hn2) (off+i) (by omega)];exact hv
 ·intro k W1 I1 g1 hk hI1 hk1 hvs;have hlt:rows.length - 1 - k<rows.length:=by omega
  have e1:∀(ts:Array Value) (i:Nat) (u:Value),(ts.setIfInBounds i u).toList=ts.toList.set i u:=λts i u=>by simp
  rw[e1,e1,Q5,Q5];refine(hvs.set (.d (.sc _ rfl)) 12).set (a07 ?_) 13;refine s9.toV g1 ?_;have h5:=(hds.drop ((rows.length - 1 - k) * 5)).take 5
  have e2:(rows.flatten.drop ((rows.length - 1 - k) * 5)).take 5=rows.getD (rows.length - 1 - k) []:=by
   have hg:rows[rows.length - 1 - k]?=some (rows.getD (rows.length - 1 - k) []):=by rw[c3T,c39 hlt];rfl
   apply c5h
   intro i;rw[c4l];have h6:(rows.getD (rows.length - 1 - k) []).length=5:=hr5 _ (c3J hg)
   split
   ·rename_i hi;rw[c4k,L6 hr5 hg hi]
   ·rename_i hi;rw[c4u (by omega)]
  rw[e2] at h5;exact h5.mono (λb j hb=>hI1 b j (.inl hb)) (λb j hb=>hk1 b j (.inl hb))
 ·intro k hk;have hlt:rows.length - 1 - k<rows.length:=by omega
  have hg:rows[rows.length - 1 - k]?=some (rows.getD (rows.length - 1 - k) []):=by rw[c3T,c39 hlt];rfl
  have ea:=b5Y (tl:=[d0,d1,d2,d3]) hk hg;obtain⟨nm,c0,c1,c2,c3,er,hsp⟩:=hrows _ (c3J hg);obtain⟨a0,a1,a2,a3,e4⟩:=a7T (rows.drop (rows.length - k)) d0 d1 d2 d3;have e5:a82 rows [d0,d1,d2,d3] k=[a0,a1,a2,a3]:=e4;have e6:a82 rows [d0,d1,d2,d3] (k+1)=[.sc (.int .u8 11),nm,.sc (.int .i64 0),.sl 4 [[c0,c1,c2,c3],[a0,a1,a2,a3]]]:=by rw[ea,er];show [_,_,_,D.sl 4 [_,a5f _ _]]=_;rw[e4];rfl
  try dsimp only
  rw[e5,e6,er];exact b3b rows d0 d1 d2 d3 a0 a1 a2 a3 nm c0 c1 c2 c3 _ hsp _ _ _ _ _ _ _ _ _ _ _ _ _ _ _ _ _ _ _ _ _ _ _ _ _ _ _ _ _ _ _ _ _ _ _ _ _ _ _ _ _ _ _ rfl
 ·rintro D W1 hD ⟨I1,g1,q1,q2,q3,q4⟩ hd
  obtain⟨a0,a1,a2,a3,e4⟩:=a7T rows d0 d1 d2 d3;have e5:a82 rows [d0,d1,d2,d3] rows.length=[a0,a1,a2,a3]:=by rw[a82,c5g];exact e4
  rw[e4]
  try dsimp only at q3
  rw[e5] at q3;have hID:∀k,¬I1 D k:=λk=>by rw[hD];exact(q2 k).2
  have hD0:w.heap.size<=D:=by rw[hD];exact h.fr.size
  refine b5X b4B b4C q3 hID hD0 hd ?_;exact b8h rows d0 d1 d2 d3 a0 a1 a2 a3 _ _ _ _ _ _ _ _ _ _ _ _ _ _ _ _ _ _ _ _ _ _ _ _ _ _ _ _ _ _ _ _ _ _ _ _ _ _ _ _ _ _ _ rfl
theorem a7V (tl:Ty):∀fs:List (ByteArray×Ty),a5f (rF fs) (cT tl)=cT (A4 fs tl)
 | []=>rfl
 | f::fs=>by
  rw[H6,cT];have ih:=a7V tl fs;show a5f ((.sc (.string f.1)::cT f.2)::rF fs) (cT tl)=_;rw[a5f,ih];rfl
theorem a3k:∀(m:Nat) (t:Ty),t.parts.length<=m->m<=1048576->(∀x∈t.parts,G2 x)->l6 35 [.ag (cT t)] [.ag (cT (b9 t))]:=by
 intro m
 induction m with
 | zero=>intro t h;have:=j5 t;omega
 | succ m ih =>
  intro t hm hm2 hsp;have hself:t∈t.parts:=by rw[r7];exact c38 ..
  have hkl:=m9 t;obtain⟨op,nm,n,ks⟩:=t;generalize ht:Ty.mk op nm n ks=t at *;have hc:cT t=[.sc (.int .u8 op),.sc (.string nm),.sc (.int .i64 n),.sl 4 (rT ks)]:=by rw[<-ht,cT]
  have hks:t.kids=ks:=by rw[<-ht];rfl
  rw[hks] at hkl
  by_cases hop:op=11
  ·have hF:=b2Z t (hsp t hself) (by omega);have hcr:=G9 (t:=t) (by rw[<-ht];exact hop)
   have hfs:∀f∈d5 x8 (c6 t),f.2.parts.length<=m/\Y4 f.2:=λf hf=>by
    have h1:=B8 hf;have h2:=A1 _ t (c3A _) f h1;have h3:=M5 _ t (c3A _) f h1;exact⟨by omega,λx hx=>hsp x (A2 hx h3)⟩
   have hih:∀f∈d5 x8 (c6 t),l6 35 [.ag (cT f.2)] [.ag (cT (b9 f.2))]:=λf hf=>ih f.2 (hfs f hf).1 (by omega) (hfs f hf).2
   have hlen:(d5 x8 (c6 t)).length<=1048576:=by
    rw[K8];have:=U5 _ t (c3A _);omega
   have htl:(f7 t).parts.length<=1048576:=by
    have h1:=a0y _ t (c3A _) (hsp t hself);omega
   rw[hc] at hF ⊢;obtain⟨K0,hK0⟩:∃K,K=rT ks:=⟨_,rfl⟩;rw[<-hK0] at hF ⊢;generalize d5 x8 (c6 t)=L at *;have hj:=a7V (f7 t) (L.map cfS);rw[show A4 (L.map cfS) (f7 t)=b9 t from hcr.symm] at hj;have hct:=a3h (f7 t) htl
   have hcf:∀r∈rF (L.map cfS),∃nm c0 c1 c2 c3,r=[nm,c0,c1,c2,c3]/\l6 69 [.ag [c0,c1,c2,c3]] [.ag [c0,c1,c2,c3]]:=λr hr=>by
    obtain⟨f,hf,rfl⟩:=c4o.1 hr;obtain⟨f0,hf0,rfl⟩:=c4o.1 hf;have h1:=hfs f0 hf0;have h2:=E9 _ f0.2 (c3A _) h1.2;have h3:=a3h (b9 f0.2) (by omega);obtain⟨c0,c1,c2,c3,hcc⟩:=c9 (b9 f0.2);rw[hcc] at h3;exact⟨_,c0,c1,c2,c3,by show D.sc _::cT (b9 f0.2)=_;rw[hcc],h3⟩
   obtain⟨y0,y1,y2,y3,hy⟩:=c9 (b9 t);obtain⟨q0,q1,q2,q3,hq⟩:=c9 (f7 t);rw[hq] at hF hct hj;rw[hy] at hj ⊢;have hJ:=b8i (rF (L.map cfS)) q0 q1 q2 q3 (by rw[G1,c4h];omega) hct hcf;rw[hj] at hJ;obtain⟨M0,hM0⟩:∃M,M=rF L:=⟨_,rfl⟩;rw[<-hM0] at hF;refine K7 Tryd.func35 rfl λqa qb qc qd qe qf qg qh qi qj qk ql qm qo qp qq qs qt qu qv qw qx qy qz vc vd ve vf vg vh vj vk vl vp vq vr vt vu vv vw vx vy vz hA=>?_
   cbv;refine gn ?_;have h11:qj op 11=decide (op=11):=by have e:=j3 hA;exact e.2.2.2.2.2.2.2.2 _ _
   rw[c3K hop] at h11;rw[h11];cbv;refine gn ?_;refine d7 hA [] hF ⟨rfl,rfl,rfl,rfl,rfl,rfl,rfl⟩ ?_
   rintro res os2 ⟨rfl,rfl⟩
   cbv;refine gn ?_;obtain⟨e1,e2,e3,e4,e5,e6,e7,e8,e9⟩:=j3 hA;obtain⟨r1,r2,r3,r4⟩:=m8 hA;obtain⟨m1,m2,m3,m4⟩:=N6 hA;refine l7 hA (γ:=Int×List (List D)) (λx=>[(19,vi .i64 x.1),(12,.jk),(14,.jk)]) (λx=>[(2,.row false 73 x.2)]) (λx=>∃k:Nat,x.1=(k:Int)/\k<=L.length/\x.2=rF ((L.take k).map cfS++L.drop k)) (λx=>L.length - x.1.toNat) (0,M0) ?_ ?_ ?_
   ·exact⟨0,rfl,c4e _,hM0⟩
   ·cbv
   ·intro x hinv;obtain⟨z,M⟩:=x;cbv;refine gn ?_;try simp only[nc] at *
    obtain⟨k,hz,hk,hM⟩:=hinv;have hll:qy M0=((L.length:Nat):Int):=by rw[r1,hM0,G1]
    have hlt:qh z (qy M0)=decide (k<L.length):=by rw[e7,hll,hz];exact c3M.2 (by omega)
    by_cases h9:k<L.length
    ·rw[c3K h9] at hlt;obtain⟨x,hx⟩:∃x,L[k]?=some x:=⟨_,c39 h9⟩;have hspx:=hih x (c3J hx)
     have hxe:((L.take k).map cfS++L.drop k)[k]?=some x:=by
      rw[c3Q (by simp;omega)]
      simp
      rw[c57 (by omega),c5g,c4F];exact hx
     have hset:((L.take k).map cfS++L.drop k).set k (cfS x)=(L.take (k+1)).map cfS++L.drop (k+1):=by
      obtain⟨hi,e⟩:=c35.1 hx;have e0:k - ((L.take k).map cfS).length=0:=by rw[c4h,c3Z];omega
      rw[c4V _ _ (by rw[c4h,c3Z];omega),c5a,hx,c4J,c4c,c3U hi,e0];rfl
     obtain⟨xn,xt⟩:=x;obtain⟨x0,x1,x2,x3,hxx⟩:=c9 xt;obtain⟨v0,v1,v2,v3,hvv⟩:=c9 (b9 xt);simp only at hspx;rw[hxx,hvv] at hspx;have gx:qz M z=some [.sc (.string xn),x0,x1,x2,x3]:=by rw[r2,hz,c3E (by omega),hM,show ((k:Int)).toNat=k by omega,a1d hxe,hxx]
     have hz1:qa .i64 (qb z 1)=((k+1:Nat):Int):=by rw[e1,e2,hz,IntWalk.i64_in _ (by omega)];omega
     have hmu:L.length - (qa .i64 (qb z 1)).toNat<L.length - z.toNat:=by rw[hz1,hz];omega
     have hnew:ve M z [.sc (.string xn),v0,v1,v2,v3]=rF ((L.take (k+1)).map cfS++L.drop (k+1)):=by
      rw[m4,<-hset,hM,hz,show ((k:Int)).toNat=k by omega];unfold rF;rw[List.map_set];show _=List.set _ k (.sc (.string xn)::cT (b9 xt));rw[hvv]
     rw[hlt]
     iterate 2 (try cbv;repeat ((first|with_reducible apply b6 hA|rw[gx]|refine c5 hA _ hspx rfl ?_);cbv))
     try simp (maxSteps:=4000000) only [nc] at *
     refine⟨(qa .i64 (qb z 1),ve M z [.sc (.string xn),v0,v1,v2,v3]),⟨k+1,hz1,h9,hnew⟩,hmu,?_⟩;cbv
    ·rw[c3I h9] at hlt;have hM2:M=rF (L.map cfS):=by rw[hM,c4i (by omega),c5j (by omega),c3X]
     rw[<-hM2] at hJ;rw[hlt];cbv;refine b7v hA [2] ?_;cbv
     repeat (first|(with_reducible apply b6 hA;cbv)|(refine c5 hA _ hJ rfl ?_;cbv))
  ·have hcn:=x9 (t:=t) (by rw[<-ht];exact hop);rw[hks,show t.op=op by rw[<-ht];rfl,show t.name=nm by rw[<-ht];rfl,show t.n=n by rw[<-ht];rfl] at hcn
   have hih:∀x∈ks,l6 35 [.ag (cT x)] [.ag (cT (b9 x))]:=λx hx=>by
    have h2:=hkl.2 x hx;exact ih x (by omega) (by omega) λy hy=>hsp y (by rw[d9,hks];exact c36 _ (c4a.2 ⟨x,hx,hy⟩))
   rw[hcn,cT,hc];obtain⟨K,hK⟩:∃K,K=rT ks:=⟨_,rfl⟩;obtain⟨Q,hQ⟩:∃Q,Q=rT (ks.map b9):=⟨_,rfl⟩;rw[<-hK,<-hQ];refine K7 Tryd.func35 rfl λqa qb qc qd qe qf qg qh qi qj qk ql qm qo qp qq qs qt qu qv qw qx qy qz vc vd ve vf vg vh vj vk vl vp vq vr vt vu vv vw vx vy vz hA=>?_
   cbv;refine gn ?_;obtain⟨e1,e2,e3,e4,e5,e6,e7,e8,e9⟩:=j3 hA;obtain⟨r1,r2,r3,r4⟩:=m8 hA;have h11:qj op 11=decide (op=11):=e9 _ _;rw[c3I hop] at h11;rw[h11];cbv
   repeat (first|(refine a2g hA 6 25 true rfl ?_;cbv)|(with_reducible apply b6 hA;cbv))
   refine l7 hA (γ:=Int×List (List D)) (λx=>[(39,vi .i64 x.1),(6,.own 2)]) (λx=>[(2,.row true 25 x.2)]) (λx=>∃k:Nat,x.1=(k:Int)/\k<=ks.length/\x.2=rT ((ks.map b9).take k)) (λx=>ks.length - x.1.toNat) (0,[]) ?_ ?_ ?_
   ·exact⟨0,rfl,c4e _,rfl⟩
   ·cbv
   ·intro x hinv;obtain⟨z,M⟩:=x;cbv;refine gn ?_;try simp only[nc] at *
    obtain⟨k,hz,hk,hM⟩:=hinv;have hll:qy K=((ks.length:Nat):Int):=by rw[r1,hK,B7]
    have hlt:qh z (qy K)=decide (k<ks.length):=by rw[e7,hll,hz];exact c3M.2 (by omega)
    by_cases h9:k<ks.length
    ·rw[c3K h9] at hlt;obtain⟨x,hx⟩:∃x,ks[k]?=some x:=⟨_,c39 h9⟩;have hspx:=hih x (c3J hx);have hx2:(ks.map b9)[k]?=some (b9 x):=by rw[c4j,hx];rfl
     have hsn:=a3A hx2;obtain⟨x0,x1,x2,x3,hxx⟩:=c9 x;obtain⟨v0,v1,v2,v3,hvv⟩:=c9 (b9 x);rw[hxx,hvv] at hspx;rw[hvv] at hsn;have gx:qz K z=some [x0,x1,x2,x3]:=by rw[r2,hz,c3E (by omega),hK,show ((k:Int)).toNat=k by omega,T3 hx,hxx]
     have hz1:qa .i64 (qb z 1)=((k+1:Nat):Int):=by rw[e1,e2,hz,IntWalk.i64_in _ (by omega)];omega
     have hmu:ks.length - (qa .i64 (qb z 1)).toNat<ks.length - z.toNat:=by rw[hz1,hz];omega
     have hnew:vd M [[v0,v1,v2,v3]]=rT ((ks.map b9).take (k+1)):=by rw[r4,hsn,hM]
     have hMl:M.length<=1048576:=by rw[hM,B7,c3Z];omega
     rw[hlt]
     iterate 2 (try cbv;repeat ((first|with_reducible apply b6 hA|rw[gx]|refine c7 hA _ hspx ?_|refine c5 hA _ hspx rfl ?_|refine z6 hA true ?_|(refine w8 hA (by simp only[r4,c37,c3C,c3H];omega) ?_));cbv))
     try simp (maxSteps:=4000000) only [nc] at *
     refine⟨(qa .i64 (qb z 1),vd M [[v0,v1,v2,v3]]),⟨k+1,hz1,h9,hnew⟩,hmu,?_⟩;cbv
    ·rw[c3I h9] at hlt;have hM2:M=Q:=by rw[hM,hQ,c4i (by rw[c4h];omega)]
     rw[hlt];cbv;refine gn ?_;exact⟨by rw[hM2],trivial⟩
def c06 (l:List ResultVar) (Q:List V->List O->Prop) (m:Nat) (kl:List Nat):Vm.X->S->Prop
 | .exit _,_=>False
 | _,s=>m7 s.o m=.kl kl/\K4 a7 s l (λvs=>a7.keep 0 Q vs ⟨s.t,B5 s.o m .dead⟩)
def b4F (I:Nat->Nat->Prop) (w:World) (Q:List V->List O->Prop) (e:Ending) (w':World):Prop:=∃us res os2 I' g',e=.returned (pkg us)/\Q res os2/\RelI I (λ_=>False) ⟨w,λ_=>.nilFunc,0,[]⟩ I' g' ⟨res,os2⟩ { tmps:=us.toArray,defers:=[] } w'
theorem b3c {c2:Code} {n D:Nat} {fn:Func} {Q:List V->List O->Prop} {w:World} {I IN:Nat->Nat->Prop} {gN:Nat->Value} {t:List V} {oN:List O} {a:Act} {W:World} {kl:List Nat} (hc:r8 Tryd.prog c2=true) (hr:P5 fn.results.toList=true)
  (h:RelI I (λ_=>False) ⟨w,λ_=>.nilFunc,0,[]⟩ IN gN ⟨t,oN⟩ a W) (hID:∀k,¬IN D k) (hD0:w.heap.size<=D) (hD:W.heap[D]?=some (.deferred (some [])))
  (hx:x5 a7 c2 ⟨t,o9 oN (.kl [])⟩ (λx s=>c06 fn.results.toList Q (j6 oN) kl x s)) :
  c2.wpIn (FW none) n Tryd.prog (bodyPostM (FW none) n Tryd.prog fn (b4F I w Q)) { a with defers:={ target:=.collected D,args:=#[] }::a.defers } W:=by
 obtain⟨g',hg,hgn,h1⟩:=h.rebase h.tmp;have hDt:D<W.heap.size:=(c3L.1 hD).1;have hXD:¬Xof g' (o9 oN (.kl [])) D:=λ⟨j,x,hj,hd,hb⟩=>a1k hD rfl (h1.obj j x hj) hd hb
 have h2:=h1.mark [{ target:=.collected D,args:=#[] }]
 have ea:({ ({ tmps:=a.tmps.toList.toArray,defers:=[] }:Act) with defers:=[{ target:=.collected D,args:=#[] }] }:Act)={ a with defers:={ target:=.collected D,args:=#[] }::a.defers }:=by
  have:=h.dfr.1;cases a;simp only at this;subst this;rfl
 rw[ea] at h2;refine H2 c2 _ _ _ _ _ hc ⟨IN,g',h2⟩ hx λe s2 a2 W2 hrel hk=>?_
 obtain⟨I2,g2,h3⟩:=hrel;have hD2:W2.heap[D]?=some (.deferred (some [])):=(h3.fr.block D hDt hXD).trans hD
 have hI2D:∀k,¬I2 D k:=λk hk=>by
  rcases (h3.lt D k hk).2 hDt with h4|h4
  ·exact hID k h4
  ·exact hXD h4
 have key:(m7 s2.o (j6 oN)=.kl kl/\K4 a7 s2 fn.results.toList (λvs=>a7.keep 0 Q vs ⟨s2.t,B5 s2.o (j6 oN) .dead⟩))->LeavesInM (FW none) n Tryd.prog fn a2.tmps (b4F I w Q) a2.defers .returning W2:=λ⟨hkl,hres⟩=>by
  rw[h3.dfr.1];have h4:=h3.turnBoth (y':=.deferred none) hD2 rfl hD hI2D;have h5:=h.turned (y':=.deferred none) hD rfl hD0 hID;have h6:=h4.mark [];have hkl:=j8 hkl (by simp);rw[l9] at hkl;obtain⟨_,h7⟩:=h5.unbase hg hgn h6 hkl;obtain⟨us,vs,r1,r2,ks,res',os',hko,hQ⟩:=a0v h4 hr hres;refine⟨by simp,.inl ⟨_,_,rfl,run_takeDeferred hD2,?_⟩⟩;rw[y5,l9] at hko;refine⟨_,r1,us,res',os',I2,_,rfl,hQ,b3O (w0:=⟨w,λ_=>.nilFunc,0,[]⟩) h7 rfl ⟨hko.nd,hko.len,hko.head,hko.args,hko.objs,hko.low,hko.lowo,hko.nk⟩ r2⟩
 cases e with
 | normal=>exact key hk
 | exit i=>exact hk.elim
 | ret=>exact key hk
theorem b1J {f:Nat} {fn:Func} {c0 c1 cp c2 asg bdy:Code} {bi:Nat} {g0:Operand} {ps:Array Tmp} {vs:List V} {Q:List V->List O->Prop} {Pre:S->Prop} (hf:Tryd.prog.funcs[f]?=some fn)
  (hb:fn.body=some (.seq c0 (.seq c1 (.seq (.seq cp (.block bi (.rangeFunc g0 ps asg bdy))) c2)))) (hn:(fn.name != "runtime.NumGoroutine")=true) (h0:r8 Tryd.prog c0=true) (h1:r8 Tryd.prog c1=true) (hp:r8 Tryd.prog cp=true)
  (hpre:x5 a7 (.seq c0 (.seq c1 cp)) (a2S vs [] (fn.ntmps - n7 vs)) (λx s=>x=.normal/\Pre s))
  (hmid:∀(I I':Nat->Nat->Prop) (g:Nat->Value) (w W:World) (s:S) (a:Act),Pre s->RelI I (λ_=>False) ⟨w,λ_=>.nilFunc,0,[]⟩ I' g s a W ->
   (Code.rangeFunc g0 ps asg bdy).wpIn (FW none) 3 Tryd.prog (Exit.inBlock bi (Exit.then (c2.wpIn (FW none) 3 Tryd.prog (bodyPostM (FW none) 3 Tryd.prog fn (b4F I w Q)))
    (bodyPostM (FW none) 3 Tryd.prog fn (b4F I w Q)))) a W):o5 f vs [] Q:=by
 refine⟨by unfold a0X;rw[hf];simp only[hn,hb];rfl,?_⟩;intro I w g args hrel;have hg0:g=λ_=>.nilFunc:=funext λk=>hrel.out k (c4e _)
 have hX0:Xof g []=λ_=>False:=funext λb=>propext ⟨λ⟨k,o,hk,_⟩=>by simp at hk,λh=>h.elim⟩
 rw[hX0] at hrel ⊢;subst hg0;have hv:j2 I w _ args vs:=hrel.tmp;have hsz:args.toArray.size=n7 vs:=by rw[y8];simp[hv.1]
 refine callsIn_wide.1 (callsIn_of_wp_marks (n:=3) hf hb trivial ?_);rw[hsz]
 have hst:RelI I (λ_=>False) ⟨w,λ_=>.nilFunc,0,[]⟩ I (λ_=>.nilFunc) (a2S vs [] (fn.ntmps - n7 vs)) { tmps:=args.toArray++Array.replicate (fn.ntmps - n7 vs) undef,defers:=[] } w:=by
  refine⟨hrel.im,hrel.lt,hrel.fr,hrel.kp,hrel.lo,hrel.st,hrel.obj,hrel.dis,hrel.out,?_,rfl,hrel.dfr.2⟩;show j2 I w _ (args.toArray++Array.replicate (fn.ntmps - n7 vs) undef).toList (a1X vs (uns (fn.ntmps - n7 vs)));rw[W8,c5i,a4i];refine hv.append ?_;rw[c4Z];refine⟨by simp,λi u c hu hc=>?_⟩;rw[c4N] at hu hc
  split at hu
  ·rename_i hi;rw[c3E hi] at hc;injection hu with hu;injection hc with hc;subst hu;subst hc;exact .tu [] [] rfl λi u c hu _=>by simp at hu
  ·cases hu
 refine wpIn_seq (H2 (ro:=none) c0 _ _ _ _ _ h0 ⟨I,_,hst⟩ hpre λe s1 a1 W1 hr1 hk1=>?_);cases e with
 | normal =>
  obtain⟨F1,hg1,hk1⟩:=hk1;obtain⟨z1,hf1,hr1'⟩:=hg1 _ _ _ _ _ hr1;refine wpIn_seq (H2 (ro:=none) c1 _ _ _ _ _ h1 hr1' (hk1 z1 hf1) λe s2 a2 W2 hr2 hk2=>?_);cases e with
  | normal =>
   obtain⟨F2,hg2,hk2⟩:=hk2;obtain⟨z2,hf2,hr2'⟩:=hg2 _ _ _ _ _ hr2;refine wpIn_seq (wpIn_seq (H2 (ro:=none) cp _ _ _ _ _ hp hr2' (hk2 z2 hf2) λe s3 a3 W3 hr3 hk3=>?_));obtain⟨he,hP⟩:=hk3;subst he;obtain⟨I',g',h3⟩:=hr3;exact wpIn_block (hmid I I' g' w W3 s3 a3 hP h3)
  | exit i=>exact absurd hk2.1 (by simp)
  | ret=>exact absurd hk2.1 (by simp)
 | exit i=>exact absurd hk1.1 (by simp)
 | ret=>exact absurd hk1.1 (by simp)
def dd:List Nat->List Nat
 | []=>[]
 | x::l=>match l.any (Nat.beq x) with|true=>dd l|false=>x::dd l
theorem b3d (x:Nat):∀l:List Nat,x∈dd l↔x∈l
 | []=>Iff.rfl
 | y::l=>by
  rw[dd];cases h:l.any (Nat.beq y) with
  | true =>
   simp only[b3d x l,c3F];refine⟨.inr,λh2=>h2.elim (λe=>?_) id⟩;obtain⟨z,hz,he⟩:=List.any_eq_true.1 h;rw[Nat.beq_eq] at he;rw[e,he];exact hz
  | false=>simp only[c3F,b3d x l]
def b4G:List Oper->List (List Nat)->List (List Nat)
 | [],acc=>acc
 | o::l,acc=>b4G l (acc++[dd ((a2d o).flatMap λj=>j::acc.getD j [])])
def b1K (a b:List (List Nat)):Prop:=a.length=b.length/\∀i j,j∈a.getD i []↔j∈b.getD i []
theorem b1K.snoc {a b:List (List Nat)} (h:b1K a b) {x y:List Nat} (hx:∀j,j∈x↔j∈y):b1K (a++[x]) (b++[y]):=by
 refine⟨by simp[h.1],λi j=>?_⟩
 rcases Nat.lt_trichotomy i a.length with hi|hi|hi
 ·have e1:(a++[x]).getD i []=a.getD i []:=by rw[c3T,c3S hi,c3T]
  have e2:(b++[y]).getD i []=b.getD i []:=by rw[c3T,c3S (by rw[<-h.1];exact hi),c3T]
  rw[e1,e2];exact h.2 i j
 ·have e1:(a++[x]).getD i []=x:=by rw[c3T,hi];simp
  have e2:(b++[y]).getD i []=y:=by rw[c3T,hi,h.1];simp
  rw[e1,e2];exact hx j
 ·have e1:(a++[x]).getD i []=[]:=by rw[c3T,c4u (by simp;omega)];rfl
  have e2:(b++[y]).getD i []=[]:=by rw[c3T,c4u (by simp;have:=h.1;omega)];rfl
  rw[e1,e2]
theorem a9h:∀(l:List Oper) (a b:List (List Nat)),b1K a b->b1K (H1 l a) (b4G l b)
 | [],a,b,h=>h
 | o::l,a,b,h=>by
  rw[H1,b4G];refine a9h l _ _ (h.snoc λj=>?_);rw[b3d,c4a,c4a];refine exists_congr λk=>and_congr_right λ_=>?_
  rw[c3F,c3F,h.2 k j]
def b4H (ops:Array Oper):Bool :=
 let l:=ops.toList
 let an:=b4G l []
 let d:=l8 l
 l.all (b3Y (Q6 l)) && (List.range l.length).all λi=>(an.getD i []).all (λj=>Nat.blt j i) && (List.range i).all λj=>a72 d (Q6 l) l an j i
theorem b3e {ops:Array Oper} (h:b4H ops=true):a73 ops=true:=by
 have hs:=a9h ops.toList [] [] ⟨rfl,λ_ _=>Iff.rfl⟩;have h0:=c53.1 h;refine c53.2 ⟨h0.1,c4g.2 λi hi=>?_⟩;have h1:=c4g.1 h0.2 i hi;rw[c3D] at h1 ⊢;refine⟨c4g.2 λj hj=>c4g.1 h1.1 j ((hs.2 i j).1 hj),c4g.2 λj hj=>?_⟩;have h2:=c4g.1 h1.2 j hj;unfold a72 at h2 ⊢;rw[c45] at h2 ⊢;refine h2.imp (λh3=>?_) id;rw[c4A] at h3 ⊢;exact(hs.2 i j).2 h3
def a0r (P:Program):Code->Bool
 | .region _ ops d=>b3Z P ops.toList && (!d || (b4H ops || b9p ops.toList))
 | .seq c d=>a0r P c && a0r P d
 | .cond _ c d=>a0r P c && a0r P d
 | .block _ c=>a0r P c
 | .loop c=>a0r P c
 | _=>true
theorem M8 {P:Program}:∀ {c:Code},a0r P c=true->r8 P c=true
 | .region _ ops d,h=>by
  simp only[r8,a0r,c3D,c45] at h ⊢;exact⟨h.1,h.2.imp id λh2=>h2.imp b3e id⟩
 | .seq c d,h=>by
  simp only[r8,a0r,c3D] at h ⊢;exact⟨M8 h.1,M8 h.2⟩
 | .cond _ c d,h=>by
  simp only[r8,a0r,c3D] at h ⊢;exact⟨M8 h.1,M8 h.2⟩
 | .block _ c,h=>M8 (c:=c) h
 | .loop c,h=>M8 (c:=c) h
 | .skip,_=>rfl
 | .exit _,_=>rfl
 | .ret,_=>rfl
 | .rangeFunc _ _ _ _,_=>rfl
 | .scope _,_=>rfl
 | .label _,_=>rfl
 | .goto _,_=>rfl
 | .refuse _,_=>rfl
section
def a00 (i:Nat):List Nat->List Nat
 | []=>[]
 | x::l=>match H5 x i with|true=>a00 i l|false=>x::a00 i l
def b1L:List (List Nat)->Nat->List Nat
 | [],_=>[]
 | x::_,0=>x
 | _::l,n+1=>b1L l n
def b6a:List Oper->Nat->Option Oper
 | [],_=>none
 | x::_,0=>some x
 | _::l,n+1=>b6a l n
def a7W:List Nat->List Nat->Bool
 | [],_=>true
 | j::m,l=>match a8y j l with|true=>false|false=>a7W m l
def a83 (an:List (List Nat)) (l:List Nat) (i:Nat):Bool:=a7W (b1L an i) l
def a1N (an:List (List Nat)) (l:List Nat):List Nat->Option Nat
 | []=>none
 | i::fr=>match a8y i l with
  | true=>match a83 an l i with|true=>some i|false=>a1N an l fr
  | false=>a1N an l fr
def b6b (an:List (List Nat)) (l:List Nat):List Nat->List Nat
 | []=>[]
 | i::m=>match a83 an l i with|true=>i::b6b an l m|false=>b6b an l m
def c17 (f:Nat->Prop):List Nat->Prop
 | []=>True
 | [i]=>f i
 | i::j::l=>f i/\c17 f (j::l)
theorem b4I {f:Nat->Prop}:∀ {l:List Nat},c17 f l->∀i∈l,f i
 | [],_,i,h=>by simp at h
 | [x],h,i,hi=>by simp at hi;subst hi;exact h
 | x::y::l,h,i,hi=>by
  rcases c3F.1 hi with rfl|hi
  ·exact h.1
  ·exact b4I h.2 i hi
def b6c (a:Ar) (dsts:List (Option Nat)) (all:List Oper) (an:List (List Nat)) (fr:List Nat):Nat->List Nat->S->(S->Prop)->Prop
 | 0,_,s,K=>a.next K s
 | n+1,l,s,K=>match a1N an l fr with
  | some i=>match b6a all i with
   | some o=>a06 a dsts [o] s (λs=>b6c a dsts all an fr n (a00 i l) s K)
   | none=>False
  | none=>c17 (λi=>match b6a all i with
   | some o=>a06 a dsts [o] s (λs=>b6c a dsts all an fr n (a00 i l) s K)
   | none=>False) (b6b an l l)
def c21:Op->Bool
 | .move _=>true
 | .load _ _=>true
 | .fieldAddr _ _ _=>true
 | .field _ _ _=>true
 | .indexAddr _ _ _=>true
 | .extract _ _=>true
 | _=>false
def b4J:Oper->Bool
 | ⟨_,op,_,_,_,none⟩=>c21 op
 | _=>false
def a9i (all:List Oper) (an:List (List Nat)) (i:Nat):Bool:=match all[i]? with
 | some o=>b4J o && (List.range all.length).all λj=>(an.getD i []).contains j || (an.getD j []).contains i || Nat.beq j i || match all[j]? with|some oj=>b4J oj && b4i (l8 all) o oj|none=>true
 | none=>false
def b3f (ops:Array Oper) (fr:List Nat):Bool :=
 let an:=H1 ops.toList []
 (List.range ops.size).all (λi=>(an.getD i []).all λj=>Nat.blt j i) && fr.all (a9i ops.toList an)
theorem b1M:∀(l:List (List Nat)) (i:Nat),b1L l i=l.getD i []
 | [],i=>by simp[b1L]
 | x::l,0=>rfl
 | x::l,i+1=>by rw[b1L,b1M l i];simp
theorem b0o:∀(l:List Oper) (i:Nat),b6a l i=l[i]?
 | [],i=>by simp[b6a]
 | x::l,0=>rfl
 | x::l,i+1=>by rw[b6a,b0o l i];simp
theorem a01 {i j:Nat}:∀ {l:List Nat},j∈a00 i l↔j∈l/\j≠i
 | []=>by simp[a00]
 | x::l=>by
  rw[a00];cases e:H5 x i
  ·have:=a0V.1 e;simp only[c3F,a01 (l:=l)]
   constructor
   ·rintro (rfl|h)
    ·exact⟨.inl rfl,this⟩
    ·exact⟨.inr h.1,h.2⟩
   ·rintro ⟨rfl|h,h2⟩
    ·exact .inl rfl
    ·exact .inr ⟨h,h2⟩
  ·have:=y9.1 e;subst this;simp only[a01 (l:=l),c3F];exact⟨λh=>⟨.inr h.1,h.2⟩,λh=>⟨h.1.resolve_left h.2,h.2⟩⟩
theorem a9j {i j:Nat}:∀(l:List Nat),a00 i (a00 j l)=a00 j (a00 i l)
 | []=>rfl
 | x::l=>by
  cases e:H5 x i <;> cases e2:H5 x j <;> simp[a00,e,e2,a9j l]
theorem a9k:∀ {m l:List Nat},a7W m l=true↔∀j∈m,j∉l
 | [],l=>by simp[a7W]
 | a::m,l=>by
  rw[a7W];cases e:a8y a l
  ·simp only[List.forall_mem_cons,a9k (m:=m)];exact Iff.intro (λh=>And.intro (λhm=>(by rw[a3v.2 hm] at e;cases e)) h) λh=>h.2
  ·simp only[List.forall_mem_cons];exact Iff.intro (λh=>(by cases h)) λh=>absurd (a3v.1 e) h.1
theorem a4t {an:List (List Nat)} {l:List Nat} {i:Nat}:a83 an l i=true↔∀j∈an.getD i [],j∉l:=by
 rw[a83,b1M,a9k]
theorem a7X {an:List (List Nat)} {l:List Nat} {i:Nat}:∀ {m:List Nat},i∈b6b an l m↔i∈m/\a83 an l i=true
 | []=>by simp[b6b]
 | x::m=>by
  rw[b6b];cases e:a83 an l x
  ·simp only[a7X (m:=m),c3F];refine Iff.intro (λh=>⟨.inr h.1,h.2⟩) λh=>⟨h.1.resolve_left λe2=>?_,h.2⟩
   rw[e2,e] at h;cases h.2
  ·simp only[c3F,a7X (m:=m)]
   constructor
   ·rintro (rfl|h)
    ·exact⟨.inl rfl,e⟩
    ·exact⟨.inr h.1,h.2⟩
   ·rintro ⟨rfl|h,h2⟩
    ·exact .inl rfl
    ·exact .inr ⟨h,h2⟩
theorem a2p {an:List (List Nat)} {l:List Nat} {i:Nat}:∀ {fr:List Nat},a1N an l fr=some i->i∈fr/\i∈l/\a83 an l i=true
 | [],h=>by cases h
 | x::fr,h=>by
  rw[a1N] at h
  split at h
  ·rename_i hm
   split at h
   ·rename_i hr;injection h with h;subst h;exact⟨c38 ..,a3v.1 hm,hr⟩
   ·obtain⟨h1,h2⟩:=a2p h;exact⟨c36 _ h1,h2⟩
  ·obtain⟨h1,h2⟩:=a2p h;exact⟨c36 _ h1,h2⟩
def b6d (ops:Array Oper) (o:Oper) (s:S) (K1:S->Prop):Prop:=∀(I0:Nat->Nat->Prop) (X:Nat->Prop) (w0:W0) (a:Act) (w:World) (ro:Option Nat) (n:Nat) (Q:Exit->Act->World->Prop) (Kw:Act->World->Prop),Z0 Tryd.prog o.op=true->Z4 I0 X w0 s a w->(∀s' a' w',Z4 I0 X w0 s' a' w'->K1 s'->Kw a' w') ->
 if Region.wanted o (yielded ops a.tmps) then o.wpIn (FW ro) n Tryd.prog a w Kw Q else (∀f,o.about Tryd.prog w a.eval=some f->(FW ro).fn f)/\Kw (a.put o.dst undef) w
theorem b6d.mono {ops:Array Oper} {o:Oper} {s:S} {K K':S->Prop} (h:b6d ops o s K) (hK:∀s,K s->K' s):b6d ops o s K' :=
 λI0 X w0 a w ro n Q Kw hop hr hk=>h I0 X w0 a w ro n Q Kw hop hr λs' a' w' h1 h2=>hk s' a' w' h1 (hK s' h2)
theorem c22 {ops:Array Oper} {o:Oper} {s:S} {K1:S->Prop} (h:a06 a7 (l8 ops.toList) [o] s K1):b6d ops o s K1:=by
 intro I0 X w0 a w ro n Q Kw hop hrel hKw;obtain⟨dst,op,type,pos,after,gd⟩:=o
 have hstep:step1 a7 s dst K1 op->Oper.wpIn (FW ro) n Tryd.prog ⟨dst,op,type,pos,after,gd⟩ a w Kw Q:=λhs =>
  b1c (λc hc=>a2K hop c hc) (Oper.wp_mono (λa' w' ⟨s',h1,h2⟩=>hKw s' a' w' h1 h2) (b1d hrel (o:=⟨dst,op,type,pos,after,gd⟩) (Q:=Q) hop hs))
 have hskip:K1 (s.put dst Y9)->Kw (a.put dst undef) w:=λhs=>by
  obtain⟨I,g,h⟩:=hrel;exact hKw _ _ w ⟨I,g,h.put (x:=Y9) (.tu [] [] rfl (λi u c hu _=>by simp at hu)) dst⟩ hs
 cases gd with
 | none =>
  rw[c3E (by rfl)];rw[a06] at h;exact hstep h
 | some jb =>
  obtain⟨j,b⟩:=jb;rw[a06] at h;obtain⟨c,hc,hK⟩:=a7m hrel h;have hw:Region.wanted ⟨dst,op,type,pos,after,some (j,b)⟩ (yielded ops a.tmps)=(c == some b):=by simp[Region.wanted,hc]
  rw[hw];cases c with
  | none =>
   rw[c3G (by simp)];exact⟨λ_ _=>trivial,hskip hK⟩
  | some c =>
   simp only at hK
   split at hK
   ·rename_i hb;rw[a08] at hb;rw[c3E (by simpa using hb)];exact hstep hK
   ·rename_i hb;rw[a08] at hb;rw[c3G (by simpa using hb)];exact⟨λ_ _=>trivial,hskip hK⟩
theorem b4K {dsts:List (Option Nat)} {o:Oper} (ho:b4J o=true) {s:S} {K:S->Prop}:a06 a7 dsts [o] s K=j9 a7 dsts o s K:=by
 obtain⟨dst,op,type,pos,after,gd⟩:=o;cases gd with
 | some g=>cases ho
 | none =>
  have h:c21 op=true:=ho;cases op <;> first|rfl|cases h
def exG (ops:Array Oper) (o:Oper) (s:S) (K:S->Prop):Prop:=if b4J o=true then j9 a7 (l8 ops.toList) o s K else b6d ops o s K
theorem exG.mono {ops:Array Oper} {o:Oper} {s:S} {K K':S->Prop} (h:exG ops o s K) (hK:∀s,K s->K' s):exG ops o s K':=by
 unfold exG at h ⊢
 split
 ·rename_i hr;rw[c3E hr] at h;exact U0 hK h
 ·rename_i hr;rw[c3G hr] at h;exact h.mono hK
theorem exG.sem {ops:Array Oper} {o:Oper} {s:S} {K:S->Prop} (h:exG ops o s K):b6d ops o s K:=by
 unfold exG at h
 split at h
 ·rename_i hr;rw[<-b4K hr] at h;exact c22 h
 ·exact h
theorem exG.of {ops:Array Oper} {o:Oper} {s:S} {K:S->Prop} (h:a06 a7 (l8 ops.toList) [o] s K):exG ops o s K:=by
 unfold exG
 split
 ·rename_i hr;rw[<-b4K hr];exact h
 ·exact c22 h
def b3g (ops:Array Oper) (K:S->Prop):Nat->List Nat->S->Prop
 | 0,l,s=>a7.next K s
 | n+1,l,s=>(∃i o,i∈l/\a83 (H1 ops.toList []) l i=true/\a9i ops.toList (H1 ops.toList []) i=true/\ops.toList[i]?=some o/\exG ops o s (b3g ops K n (a00 i l))) \/
   ∀i,i∈l->a83 (H1 ops.toList []) l i=true->∃o,ops.toList[i]?=some o/\exG ops o s (b3g ops K n (a00 i l))
theorem b3h {ops:Array Oper} {fr:List Nat} (hfr:∀i∈fr,a9i ops.toList (H1 ops.toList []) i=true):∀ {n:Nat} {l:List Nat} {s:S} {K:S->Prop},b6c a7 (l8 ops.toList) ops.toList (H1 ops.toList []) fr n l s K->b3g ops K n l s
 | 0,l,s,K,h=>h
 | n+1,l,s,K,h=>by
  rw[b6c] at h
  split at h
  ·rename_i i hi;obtain⟨h1,h2,h3⟩:=a2p hi
   split at h <;> try exact h.elim
   rename_i o ho;rw[b0o] at ho;exact .inl ⟨i,o,h2,h3,hfr i h1,ho,(exG.of h).mono λs hs=>b3h hfr hs⟩
  ·refine .inr λi hi hr=>?_
   have h4:=b4I h i (a7X.2 ⟨hi,hr⟩)
   split at h4 <;> try exact h4.elim
   rename_i o ho;rw[b0o] at ho;exact⟨o,ho,(exG.of h4).mono λs hs=>b3h hfr hs⟩
theorem b4L {l:List Nat} {i:Nat} (hn:l.Nodup) (hi:i∈l):(a00 i l).length+1=l.length:=by
 have e:∀l:List Nat,a00 i l=l.filter (· != i):=by
  intro l
  induction l with
  | nil=>rfl
  | cons x l ih =>
   rw[a00,c55];cases e:H5 x i
   ·have:=a0V.1 e;simp[this,ih]
   ·have:=y9.1 e;simp[this,ih]
 rw[e,<-hn.erase_eq_filter,List.length_erase_of_mem hi];have:=List.length_pos_of_mem hi;omega
theorem a4u {i:Nat}:∀ {l:List Nat},l.Nodup->(a00 i l).Nodup
 | [],_=>c5W
 | x::l,h=>by
  obtain⟨h1,h2⟩:=c44.1 h;rw[a00];cases H5 x i
  ·exact c44.2 ⟨λhm=>h1 (a01.1 hm).1,a4u h2⟩
  ·exact a4u h2
theorem b1N {ops:Array Oper} {K:S->Prop}:∀ {n:Nat} {l:List Nat} {s:S},b3g ops K (n+1) l s->l.Nodup->l.length=n+1->∀ {j:Nat} {oj:Oper},j∈l->a83 (H1 ops.toList []) l j=true->ops.toList[j]?=some oj->exG ops oj s (b3g ops K n (a00 j l))
 | n,l,s,h,hn,hl,j,oj,hj,hr,ho=>by
  rcases h with⟨i,o,hi,hri,hf,hoi,h⟩|h
  ·by_cases e:i=j
   ·subst e;rw[hoi] at ho;cases ho;exact h
   ·cases n with
    | zero =>
     match l,hl with
     | [x],_=>simp at hi hj;omega
    | succ n =>
     have hd:=b4L hn hi;have h1:exG ops o s λs=>exG ops oj s (b3g ops K n (a00 j (a00 i l))):=h.mono λs hs=>b1N hs (a4u hn) (by omega) (a01.2 ⟨hj,λe2=>e e2.symm⟩) (a4t.2 λk hk hm=>a4t.1 hr k hk (a01.1 hm).1) ho
     have hjlt:j<ops.toList.length:=(c35.1 ho).1;unfold a9i at hf;rw[hoi] at hf;simp only[c3D] at hf;have h2:=c4g.1 hf.2 j (by simpa using hjlt);rw[ho] at h2;simp only[c45,c3D,c4A,Nat.beq_eq] at h2
     rcases h2 with ((h2|h2)|h2)|h2
     ·exact absurd hj (a4t.1 hri j h2)
     ·exact absurd hi (a4t.1 hr i h2)
     ·exact absurd h2.symm e
     ·have e1:∀K,exG ops o s K=j9 a7 (l8 ops.toList) o s K:=λK=>by unfold exG;rw[c3E hf.1]
      have e2:∀s K,exG ops oj s K=j9 a7 (l8 ops.toList) oj s K:=λs K=>by unfold exG;rw[c3E h2.1]
      rw[e1] at h1;have h3:=c0y h2.2 (U0 (λs hs=>by rw[e2] at hs;exact hs) h1);rw[e2];refine U0 (λs hs=>?_) h3;refine .inl ⟨i,o,a01.2 ⟨hi,e⟩,a4t.2 λk hk hm=>a4t.1 hri k hk (a01.1 hm).1,?_,hoi,?_⟩
      ·unfold a9i;rw[hoi];simp only[c3D];exact hf
      ·rw[a9j];unfold exG;rw[c3E hf.1];exact hs
  ·obtain⟨o,ho',h⟩:=h j hj hr;rw[ho] at ho';cases ho';exact h
section
variable {I0:Nat->Nat->Prop} {X:Nat->Prop} {w0:W0}
theorem c18 {ro:Option Nat} {n:Nat} {ops:Array Oper} {Q:Exit->Act->World->Prop} {K:S->Prop} (hQ:∀s' a' w',Z4 I0 X w0 s' a' w'->K s'->Q .normal a' w') (hok:∀o∈ops.toList,Z0 Tryd.prog o.op=true) (hd:∀i,i<ops.size->∀j∈(H1 ops.toList []).getD i [],j<i):∀(fuel:Nat) (l:List Nat) (listed:Array Bool) (s:S) (a:Act) (w:World),l.length=fuel->listed.size=ops.size->l.Pairwise (·<·)->(∀i,i∈l↔i<ops.size/\listed.getD i true=false)->(∀i,i<ops.size->listed.getD i false=true->∀j∈(H1 ops.toList []).getD i [],listed.getD j false=true)->Z4 I0 X w0 s a w->b3g ops K fuel l s->wpAnyIn (FW ro) n Tryd.prog .any ops Q fuel listed a w:=by
 intro fuel
 induction fuel with
 | zero =>
  intro l listed s a w hl hsz hp hmem hcl hrel hK;obtain rfl:=c5F.1 hl;obtain⟨F,hg,hk⟩:=hK;obtain⟨s',hf,hr'⟩:=hg _ _ _ _ _ hrel;refine⟨?_,hQ _ _ _ hr' (hk s' hf)⟩;cases hr:Region.ready .any ops listed with
  | nil=>rfl
  | cons x xs =>
   obtain⟨h1,o,h2,_⟩:=mem_ready.1 (show x∈Region.ready .any ops listed by rw[hr];exact c38 ..);have:=(hmem x).2 ⟨(c3L.1 h2).1,h1⟩
   simp at this
 | succ fuel ih =>
  intro l listed s a w hl hsz hp hmem hcl hrel hK
  have un:∀j,j∈l->listed.getD j false=true->False:=λj hj h=>by
   obtain⟨h1,h2⟩:=(hmem j).1 hj
   simp[hsz,h1] at h h2
   rw[h2] at h;cases h
  refine⟨λhr=>?_,λi hi=>?_⟩
  ·exfalso;cases l with
   | nil=>simp at hl
   | cons i0 rest =>
    obtain⟨h1,h2⟩:=(hmem i0).1 (c38 ..);obtain⟨o,ho⟩:∃o,ops[i0]?=some o:=⟨_,c4S h1⟩
    have:i0∈Region.ready .any ops listed:=mem_ready.2 ⟨h2,o,ho,λe he hb=>by
     have h3:e.on∈(H1 ops.toList []).getD i0 []:=by
      rw[b4o ho (hd i0 h1)];exact c4a.2 ⟨e.on,a75 he hb,c38 ..⟩
     have h4:=hd i0 h1 _ h3
     have h5:¬(e.on∈i0::rest):=λhm=>by
      rcases c3F.1 hm with hm|hm
      ·omega
      ·have:=(c4n.1 hp).1 _ hm;omega
     have h6:listed.getD e.on true=true:=by
      cases hx:listed.getD e.on true with
      | true=>rfl
      | false=>exact absurd ((hmem e.on).2 ⟨by omega,hx⟩) h5
     have hlt:e.on<listed.size:=by omega
     simpa [hlt] using h6⟩
    rw[hr] at this
    simp at this
  ·obtain⟨h1,o,ho,hall⟩:=mem_ready.1 hi;have hlt:=(c3L.1 ho).1;have hil:i∈l:=(hmem i).2 ⟨hlt,h1⟩
   have han:∀j∈(H1 ops.toList []).getD i [],listed.getD j false=true:=λj hj=>by
    rw[b4o ho (hd i hlt)] at hj;obtain⟨k,hk,hj⟩:=c4a.1 hj;obtain⟨e,he,hek⟩:=c4o.1 hk;obtain⟨he1,he2⟩:=c5b.1 he;subst hek;have h3:=hall e (by simpa using he1) he2
    rcases c3F.1 hj with rfl|hj
    ·exact h3
    ·have:e.on<ops.size:=by
      rcases c4q e.on listed.size with h'|h'
      ·omega
      ·simp[c4Q h'] at h3
     exact hcl _ this h3 j hj
   have hot:ops.toList[i]?=some o:=by rw[c4w];exact ho
   have hnd:l.Nodup:=hp.imp λh=>Nat.ne_of_lt h
   have hf:=(b1N hK hnd hl hil (a4t.2 λj hj hm=>un j hm (han j hj)) hot).sem
   have key:=hf I0 X w0 a w ro n Q (wpAnyIn (FW ro) n Tryd.prog .any ops Q fuel (listed.setIfInBounds i true)) (hok o (c3J hot)) hrel (λs' a' w' hrel' hK'=>by
    have hsub:(a00 i l).Pairwise (·<·):=by
     have e:∀l:List Nat,(a00 i l).Sublist l:=by
      intro l
      induction l with
      | nil=>exact .slnil
      | cons x l ih =>
       rw[a00];cases H5 x i
       ·exact ih.cons_cons x
       ·exact ih.cons x
     exact hp.sublist (e l)
    refine ih (a00 i l) _ s' a' w' (by have:=b4L hnd hil;omega) (by simpa using hsz) hsub (λk=>?_) (λk hk hkl j hj=>?_) hrel' hK'
    ·rw[a01]
     by_cases hik:i=k
     ·subst hik;refine⟨λhm=>absurd rfl hm.2,λhm=>?_⟩;have h6:=hm.2;have hlt':i<listed.size:=by omega
      simp[hlt'] at h6
     ·rw[getD_set_ne true hik,<-hmem k];exact⟨λh=>h.1,λh=>⟨h,λe=>hik e.symm⟩⟩
    ·by_cases hik:i=k
     ·subst hik;exact getD_set_true (han j hj)
     ·rw[getD_set_ne false hik] at hkl
      exact getD_set_true (hcl k hk hkl j hj))
   unfold wpOpIn;rw[ho];simp only
   split at key
   ·rename_i hw;rw[c3E hw];exact key
   ·rename_i hw;rw[c3G hw];exact key
end
theorem c19 {ops:Array Oper} {fr:List Nat} (hp:b3f ops fr=true) {s:S} {K:S->Prop} (h:b6c a7 (l8 ops.toList) ops.toList (H1 ops.toList []) fr ops.size (List.range ops.size) s K):a7.reg ops s K:=by
 intro I0 X w0 a w ro n Q hok hrel hQ;unfold b3f at hp;simp only[c3D] at hp
 have hd:∀i,i<ops.size->∀j∈(H1 ops.toList []).getD i [],j<i:=λi hi j hj=>by
  have h1:=c4g.1 hp.1 i (by simpa using hi)
  simpa [c42] using c4g.1 h1 j hj
 have hfr:∀i∈fr,a9i ops.toList (H1 ops.toList []) i=true:=λi hi=>c4g.1 hp.2 i hi
 refine c18 hQ hok hd ops.size (List.range ops.size) _ s a w (by simp) (by simp) List.pairwise_lt_range (λi=>?_) (λi hi h=>?_) hrel (b3h hfr h)
 ·rw[List.mem_range];exact⟨λhi=>⟨hi,by simp[hi]⟩,λh=>h.1⟩
 ·simp[hi] at h
section
variable {qa:_} {qb:_} {qc:_} {qd:_} {qe:_} {qf:_} {qg:_} {qh:_} {qi:_} {qj:_} {qk:_} {ql:_} {qm:_} {qo:_} {qp:_} {qq:_} {qs:_} {qt:_} {qu:_} {qv:_} {qw:_} {qx:_} {qy:_} {qz:_} {vc:_} {vd:_} {ve:_} {vf:_} {vg:_} {vh:_} {vj:_} {vk:_} {vl:_} {vp:_} {vq:_} {vr:_} {vt:_} {vu:_} {vv:_} {vw:_} {vx:_} {vy:_} {vz:_} (hA:Ar.mk qa qb qc qd qe qf qg qh qi qj qk ql qm qo qp qq qs qt qu qv qw qx qy qz vc vd ve vf vg vh vj vk vl vp vq vr vt vu vv vw vx vy vz=a7)
include hA
theorem b0p {ops:Array Oper} (fr:List Nat) (hp:b3f ops fr=true) {s:S} {K:S->Prop} (h:b6c (Ar.mk qa qb qc qd qe qf qg qh qi qj qk ql qm qo qp qq qs qt qu qv qw qx qy qz vc vd ve vf vg vh vj vk vl vp vq vr vt vu vv vw vx vy vz) (l8 ops.toList) ops.toList (H1 ops.toList []) fr ops.size (List.range ops.size) s K):vy ops s K:=by
 have e:vy=a7.reg:=congrArg Ar.reg hA;rw[e];rw[hA] at h;exact c19 hp h
end
end
section
inductive AtTs (w:World) (e:Nat):List Nat->List Value->List D->Prop
 | nil:AtTs w e [] [] []
 | sc (v:Value) (F:List Nat) (us:List Value) (ds:List D) (h:v.oneCell'=true) (hs:AtTs w e F us ds):AtTs w e F (v::us) (.sc v::ds)
 | em (F:List Nat) (us:List Value) (ds:List D) (hs:AtTs w e F us ds):AtTs w e F (.slice none 0 0::us) (.sl (ty e).sz []::ds)
 | sl (b cap:Nat) (rows:List (List D)) (vs:List Value) (cur:Array Value) (t:TypeId) (F1 F:List Nat) (us:List Value) (ds:List D) (hne:rows≠[]) (hcap:rows.length<=cap) (hb:w.heap[b]?=some (.cells cur t (0,0))) (hl:vs.length=rows.length * (ty e).sz)
   (hc:cur.toList.take (rows.length * (ty e).sz)=vs) (hr:∀r∈rows,r.length=(ty e).sz) (h1:AtTs w e F1 vs rows.flatten) (hs:AtTs w e F us ds) :
   AtTs w e (b::(F1++F)) (.slice (some ⟨b,0,none⟩) rows.length cap::us) (.sl (ty e).sz rows::ds)
def m6 (z:Bool) (e:Nat) (rows:List (List D)):World->Value->List Nat->Prop:=λw v F=>F.Nodup/\AtTs w e F [v] [.sl (ty e).sz rows]/\(z=true->∃us,w.ownsRow 0 e (ty e).sz v rows.length us)
theorem AtTs.keep {w w':World} {e:Nat} {F:List Nat} {us:List Value} {ds:List D} (h:AtTs w e F us ds) (hF:∀b∈F,w'.heap[b]?=w.heap[b]?):AtTs w' e F us ds:=by
 induction h with
 | nil=>exact .nil
 | sc v F us ds h hs ih=>exact .sc v F us ds h (ih hF)
 | em F us ds hs ih=>exact .em F us ds (ih hF)
 | sl b cap rows vs cur t F1 F us ds hne hcap hb hl hc hr h1 hs ih1 ih =>
  exact .sl b cap rows vs cur t F1 F us ds hne hcap ((hF b (c38 ..)).trans hb) hl hc hr (ih1 λb hb=>hF b (c36 _ (c48 _ hb))) (ih λb hb=>hF b (c36 _ (c4U _ hb)))
theorem AtTs.cells {w:World} {e:Nat} {F:List Nat} {us:List Value} {ds:List D} (h:AtTs w e F us ds):∀b∈F,∃(c:Array Value) (t:TypeId),w.heap[b]?=some (.cells c t (0,0)):=by
 induction h with
 | nil=>intro b hb;simp at hb
 | sc v F us ds h hs ih=>exact ih
 | em F us ds hs ih=>exact ih
 | sl b cap rows vs cur t F1 F us ds hne hcap hb hl hc hr h1 hs ih1 ih =>
  intro c hm
  rcases c3F.1 hm with rfl|hm
  ·exact⟨_,_,hb⟩
  ·rcases c4b.1 hm with hm|hm
   ·exact ih1 c hm
   ·exact ih c hm
theorem AtTs.one {w:World} {e:Nat} {F:List Nat} {us:List Value} {ds:List D} (h:AtTs w e F us ds):∀u∈us,u.oneCell'=true:=by
 induction h with
 | nil=>intro u hu;simp at hu
 | sc v F us ds h hs ih =>
  intro u hu
  rcases c3F.1 hu with rfl|hu
  ·exact h
  ·exact ih u hu
 | em F us ds hs ih =>
  intro u hu
  rcases c3F.1 hu with rfl|hu
  ·exact rfl
  ·exact ih u hu
 | sl b cap rows vs cur t F1 F us ds hne hcap hb hl hc hr h1 hs ih1 ih =>
  intro u hu
  rcases c3F.1 hu with rfl|hu
  ·exact rfl
  ·exact ih u hu
theorem AtTs.app {w:World} {e:Nat} {F F2:List Nat} {us us2:List Value} {ds ds2:List D} (h:AtTs w e F us ds) (h2:AtTs w e F2 us2 ds2):AtTs w e (F++F2) (us++us2) (ds++ds2):=by
 induction h with
 | nil=>exact h2
 | sc v F us ds h hs ih=>exact .sc v _ _ _ h ih
 | em F us ds hs ih=>exact .em _ _ _ ih
 | sl b cap rows vs cur t F1 F us ds hne hcap hb hl hc hr h1 hs ih1 ih =>
  have:=AtTs.sl b cap rows vs cur t F1 (F++F2) (us++us2) (ds++ds2) hne hcap hb hl hc hr h1 ih;rw[<-c4c] at this;exact this
theorem AtTs.data {w:World} {e:Nat} {I:Nat->Nat->Prop} {F:List Nat} {us:List Value} {ds:List D} (h:AtTs w e F us ds) (hI:∀b∈F,∀n,I b n):s9 I w us ds:=by
 induction h with
 | nil=>exact .nil I w
 | sc v F us ds h hs ih=>exact .cons (.sc v h) (ih hI)
 | em F us ds hs ih=>exact .cons (.nil _ _ _) (ih hI)
 | sl b cap rows vs cur t F1 F us ds hne hcap hb hl hc hr h1 hs ih1 ih =>
  refine .cons ?_ (ih λb hb=>hI b (c36 _ (c4U _ hb)));have h2:=ih1 λb hb=>hI b (c36 _ (c48 _ hb))
  refine .sl b 0 cap _ rows vs hcap ⟨_,c3A _,hI b (c38 ..) _⟩ hr hl (λi u hu=>?_) h2.2;rw[c4z];show (match w.heap[b]? with|some (.cells c _ _)=>c[i]?|_=>none)=_;rw[hb];show cur[i]?=some u;have hlt:i<rows.length * (ty e).sz:=by rw[<-hl];exact(c35.1 hu).1
  rw[<-hc,c4l,c3E hlt] at hu
  simpa using hu
theorem AtTs.top {w:World} {e:Nat} {F:List Nat} {v:Value} {rows:List (List D)} (h:AtTs w e F [v] [.sl (ty e).sz rows]):(rows=[]/\v=.slice none 0 0/\F=[])\/∃b cap vs cur t F1,rows≠[]/\v=.slice (some ⟨b,0,none⟩) rows.length cap/\F=b::F1/\rows.length<=cap/\w.heap[b]?=some (.cells cur t (0,0))/\vs.length=rows.length * (ty e).sz /\
  cur.toList.take (rows.length * (ty e).sz)=vs/\(∀r∈rows,r.length=(ty e).sz)/\AtTs w e F1 vs rows.flatten:=by
 obtain⟨ds,hds⟩:∃ds,ds=[D.sl (ty e).sz rows]:=⟨_,rfl⟩;obtain⟨us,hus⟩:∃us,us=[v]:=⟨_,rfl⟩;rw[<-hds,<-hus] at h;cases h with
 | nil=>cases hds
 | sc v F us ds h hs=>cases hds
 | em F us ds hs =>
  injection hds with h1 h2;injection hus with h3 h4;subst h2;subst h4;subst h3;injection h1 with _ h1;cases hs;exact .inl ⟨h1.symm,rfl,rfl⟩
 | sl b cap rows' vs cur t F1 F us ds hne hcap hb hl hc hr h1 hs =>
  injection hds with e1 e2;injection hus with e3 e4;subst e2;subst e4;subst e3;injection e1 with _ e1;subst e1;cases hs;exact .inr ⟨b,cap,vs,cur,t,F1,hne,rfl,by simp,hcap,hb,hl,hc,hr,h1⟩
theorem m6.nil (w:World) (z:Bool) (e:Nat):m6 z e [] w (.slice none 0 0) []:=⟨c5W,.em _ _ _ .nil,λ_=>⟨[],World.ownsRow_nil w 0 e _⟩⟩
theorem m6.keep {w w':World} {z:Bool} {e:Nat} {rows:List (List D)} {v:Value} {F:List Nat} (h:m6 z e rows w v F) (hF:∀b∈F,w'.heap[b]?=w.heap[b]?):m6 z e rows w' v F:=by
 obtain⟨h1,h2,h3⟩:=h;refine⟨h1,h2.keep hF,λhz=>?_⟩;obtain⟨us,hl,h4⟩:=h3 hz;refine⟨us,hl,?_⟩
 rcases h4 with h4|⟨b,cap,cur,e1,e2,e3,r⟩
 ·exact .inl h4
 ·refine .inr ⟨b,cap,cur,e1,e2,(hF b ?_).trans e3,r⟩
  rcases h2.top with⟨_,h5,_⟩|⟨b',cap',vs,cur',t,F1,_,h5,h6,_⟩
  ·rw[h5] at e1;cases e1
  ·rw[h5] at e1;injection e1 with e1;injection e1 with e1;injection e1 with e1;rw[h6,e1];exact c38 ..
def fL (f:V->V):List V->List V
 | []=>[]
 | x::l=>f x::fL f l
def f2 (f:V->V):V->V
 | .ag cs=>.ag (fL f cs)
 | .tu []=>.tu []
 | .tu _=>.jk
 | x=>f x
def fT (f:V->V):List V->List V
 | []=>[]
 | x::l=>f2 f x::fT f l
def fO (f:V->V) (k:Nat):List O->List O
 | []=>[]
 | .box cs::l=>.box (fL f cs)::fO f k l
 | .kl ks::l=>.kl (k::ks)::fO f k l
 | x::l=>x::fO f k l
def sw1 (k:Nat) (x:V):V->V
 | .own j=>match H5 j k with|true=>x|false=>.own j
 | .ag _=>.jk
 | .tu _=>.jk
 | y=>y
theorem a5W (f:V->V) (k:Nat):∀(l:List O) (j:Nat) (o:O),(fO f k l)[j]?=some o->∃o0,l[j]?=some o0/\((∃cs,o0=.box cs/\o=.box (fL f cs))\/(∃ks,o0=.kl ks/\o=.kl (k::ks))\/(o=o0/\(∀cs,o≠.box cs)/\∀ks,o≠.kl ks))
 | [],j,o,h=>by simp[fO] at h
 | x::l,0,o,h=>by
  cases x <;> simp[fO] at h <;> subst h <;> exact⟨_,rfl,by simp⟩
 | x::l,j+1,o,h=>by
  have h':(fO f k l)[j]?=some o:=by cases x <;> simpa [fO] using h
  obtain⟨o',h1,h2⟩:=a5W f k l j o h';exact⟨o',by simpa using h1,h2⟩
theorem Y6 (f:V->V) (k:Nat):∀l:List O,(fO f k l).length=l.length
 | []=>rfl
 | x::l=>by cases x <;> simp[fO,Y6 f k l]
section
variable {I0:Nat->Nat->Prop} {X:Nat->Prop} {w0:W0} {I I':Nat->Nat->Prop} {g g':Nat->Value} {s:S} {a:Act} {w w':World}
theorem b4M {f:V->V} (hf:∀v y,AtV I w g v y->AtV I' w' g' v (f y)):∀ {cs:List V} {us:List Value},j2 I w g us cs->j2 I' w' g' us (fL f cs)
 | [],us,h=>by rw[h.unnil];exact .nil I' w' g'
 | c::cs,us,h=>by
  obtain⟨u,us',rfl,h1,h2⟩:=h.uncons;exact .cons (hf _ _ h1) (b4M hf h2)
theorem c23 {f:V->V} (hf:∀v y,AtV I w g v y->AtV I' w' g' v (f y)) {v:Value} {x:V} (h:AtV I w g v x):AtV I' w' g' v (f2 f x):=by
 cases x with
 | ag cs=>obtain⟨us,rfl,h2⟩:=h.unag;exact a07 (b4M hf h2)
 | tu cs =>
  cases cs with
  | nil=>obtain⟨us,rfl,h2⟩:=h.untu;rw[h2.unnil];exact a0U (.nil I' w' g')
  | cons c cs=>exact .jk _
 | _=>exact hf _ _ h
theorem c07 {f:V->V} (hf:∀v y,AtV I w g v y->AtV I' w' g' v (f y)):∀ {cs:List V} {us:List Value},j2 I w g us cs->j2 I' w' g' us (fT f cs)
 | [],us,h=>by rw[h.unnil];exact .nil I' w' g'
 | c::cs,us,h=>by
  obtain⟨u,us',rfl,h1,h2⟩:=h.uncons;exact .cons (c23 hf h1) (c07 hf h2)
theorem RelI.trade (h:RelI I0 X w0 I g s a w) (f:V->V) (C:Nat->Prop) (B:Nat->Prop) (o':List O) (hfr:Fr X w0.w w') (hkp:o6 I w w') (hsz:w.heap.size<=w'.heap.size)
  (hI:∀b n,I b n->I' b n) (hB:∀b,B b->∃k,C k/\B1 s k/\P0 (g k) b) (hI2:∀b n,I' b n->I b n\/B b) (hf:∀v y,AtV I w g v y->AtV I' w' g' v (f y))
  (hw:∀j,¬C j->B1 s j->∀b,P0 (g j) b->w'.heap[b]?=w.heap[b]?)
  (hC:∀j,¬C j->∀o,o'[j]?=some o->g' j=g j/\∃o0,s.o[j]?=some o0/\((∃cs,o0=.box cs/\o=.box (fL f cs))\/(∃ks js,o0=.kl ks/\o=.kl js/\(∀i∈ks,i∈js)/\∀i,i<s.o.length->g' i=g i\/i∈js)\/(o=o0/\(∀cs,o≠.box cs)/\∀ks,o≠.kl ks)))
  (hN:∀j,C j->∀o,o'[j]?=some o->Z3 X w0 I' w' g' j o/\(o≠.dead->∀b,P0 (g' j) b->B b\/w.heap.size<=b))
  (hD:∀i j b,C i->C j->(∃o,o'[i]?=some o/\o≠.dead)->(∃o,o'[j]?=some o/\o≠.dead)->P0 (g' i) b->P0 (g' j) b->i=j)
  (hg:∀j,J9 (g j)=true->g' j=g j) (hlen:s.o.length<=o'.length) (hout:∀k,o'.length<=k->g' k=.nilFunc):RelI I0 X w0 I' g' ⟨fT f s.t,o'⟩ a w':=by
 have noB:∀j,¬C j->B1 s j->∀b,P0 (g j) b->¬B b:=λj hj hl b hb hB'=>by
  obtain⟨k,hk,hlk,hbk⟩:=hB b hB';exact hj (h.dis j k b hl hlk hb hbk ▸ hk)
 have lv:∀j,¬C j->(∃o,o'[j]?=some o/\o≠.dead)->B1 s j/\g' j=g j:=λj hj ⟨o,ho,hd⟩=>by
  obtain⟨e,o0,h0,hsh⟩:=hC j hj o ho;refine⟨⟨o0,h0,?_⟩,e⟩
  rcases hsh with⟨cs,rfl,_⟩|⟨ks,js,rfl,_⟩|⟨rfl,_⟩
  ·simp
  ·simp
  ·exact hd
 refine⟨λb n hb=>hI b n (h.im b n hb),λb n hb=>?_,hfr,h.kp.trans λb n hb i hi=>hkp b n (h.im b n hb) i hi,c4E h.lo hlen,λk hk hr=>?_,λj o ho=>?_,λi j b hi hj hbi hbj=>?_,hout,c07 hf h.tmp,h.dfr⟩
 ·rcases hI2 b n hb with h1|h1
  ·exact⟨c4y (h.lt b n h1).1 hsz,(h.lt b n h1).2⟩
  ·obtain⟨k,_,⟨o,ho,hd⟩,hbk⟩:=hB b h1;obtain⟨h2,h3⟩:=(h.obj k o ho).blk hd b hbk;refine⟨c4y h2 hsz,λhlt=>.inr ?_⟩
   rcases h3 with h3|h3
   ·omega
   ·exact h3
 ·have e:=h.st k hk hr;rw[<-e] at hr ⊢;exact hg k hr
 ·by_cases hc:C j
  ·exact(hN j hc o ho).1
  ·by_cases hd:o=.dead
   ·subst hd;exact True.intro
   obtain⟨e,o0,h0,hsh⟩:=hC j hc o ho;obtain⟨hl,_⟩:=lv j hc ⟨o,ho,hd⟩
   have hd0:o0≠.dead:=by
    rcases hsh with⟨cs,rfl,_⟩|⟨ks,js,rfl,_⟩|⟨rfl,_⟩
    ·simp
    ·simp
    ·exact hd
   have hk:=(h.obj j o0 h0).keep hI hkp (λb hb=>hw j hc hl b hb) (λb hb n hn=>(hI2 b n hn).resolve_right (noB j hc hl b hb));have hob:=h.obj j o0 h0
   rcases hsh with⟨cs,rfl,rfl⟩|⟨ks,js,rfl,rfl,hks,hjs⟩|⟨rfl,hnb,hnk⟩
   ·obtain⟨b,us,t,a1,a2,a3,a4,a5,a6⟩:=hk;obtain⟨b',us',t',b1,b2,b3,b4,_⟩:=hob;have e1:b=b':=by rw[a1] at b1;injection b1 with b1;injection b1 with b1;injection b1
    subst e1;have hb2:=hw j hc hl b (by rw[a1];rfl);rw[b2] at hb2;refine⟨b,us',t',e.trans a1,hb2,b4M hf b3,b4,a5,a6⟩
   ·obtain⟨us,a1,a2,a3⟩:=hob;refine⟨us,e.trans a1,a2,λi u hu=>?_⟩;have hi:=(c3L.1 hu).1;have hjl:=(c35.1 h0).1
    rcases a3 i u hu with a4|a4|a4
    ·exact .inl a4
    ·rcases hjs i (by omega) with h5|h5
     ·exact .inr (.inl (h5.trans a4))
     ·exact .inr (.inr h5)
    ·exact .inr (.inr (hks i a4))
   ·cases o with
    | dead=>exact absurd rfl hd
    | box cs=>exact absurd rfl (hnb cs)
    | kl ks=>exact absurd rfl (hnk ks)
    | mp kt es=>obtain⟨b,l,c,a1,a2⟩:=hk;exact⟨b,l,c,e.trans a1,a2⟩
    | it P=>obtain⟨A,n,cap,F,a1,a2⟩:=hk;exact⟨A,n,cap,F,e.trans a1,a2⟩
    | ob T vs=>obtain⟨b,a1,a2⟩:=hk;exact⟨b,e.trans a1,a2⟩
    | row z e2 rows=>obtain⟨us,a1,a2,a3,a4⟩:=hk;exact⟨us,by rw[e];exact a1,a2,a3,by rw[e];exact a4⟩
 ·have hi:∃o,o'[i]?=some o/\o≠.dead:=hi;have hj:∃o,o'[j]?=some o/\o≠.dead:=hj
  have cross:∀i j,¬C i->C j->(∃o,o'[i]?=some o/\o≠.dead)->(∃o,o'[j]?=some o/\o≠.dead)->P0 (g' i) b->P0 (g' j) b->False:=λi j hi hj li ⟨o,ho,hd⟩ hbi hbj=>by
   obtain⟨hl,e⟩:=lv i hi li;rw[e] at hbi
   rcases (hN j hj o ho).2 hd b hbj with h1|h1
   ·exact noB i hi hl b hbi h1
   ·have:=h.blk_lt hl hbi;omega
  by_cases hci:C i <;> by_cases hcj:C j
  ·exact hD i j b hci hcj hi hj hbi hbj
  ·exact(cross j i hcj hci hj hi hbj hbi).elim
  ·exact(cross i j hci hcj hi hj hbi hbj).elim
  ·obtain⟨l1,e1⟩:=lv i hci hi;obtain⟨l2,e2⟩:=lv j hcj hj;rw[e1] at hbi;rw[e2] at hbj;exact h.dis i j b l1 l2 hbi hbj
end
end
end Go.Proofs.YtlofmibkljoapaaDoor.Vm
end

/- Part 13 of the proof. Conditions: none. -/
import Derived.Test.YtncijebklnbhlaaGreatDoorQ4
import Derived.Test.YtncijebklnbhlaaGreatDoorQ7
import Derived.Test.YtncijebklnbhlaaGreatDoorQ8
import Derived.Test.YtncijebklnbhlaaGreatDoorQ9
import Derived.Test.YtncijebklnbhlaaGreatDoorQ12
import Derived.Shelf.Strings.Builder1
import Derived.Shelf.Strings.Builder2
import Derived.Shelf.Strings.OnBuilder
import Derived.Shelf.Small.Strs
import Derived.Shelf.Small.Wraps
import Derived.Shelf.Strconv.Itoa0
import Derived.Shelf.Strconv.Itoa1
import Derived.Shelf.LaysM
import Derived.Shelf.Strconv.Itoa2
import Derived.Shelf.Strconv.Itoa3
import Derived.Shelf.Strconv.Itoa4
import Derived.Test.YtncijebklnbhlaaGreatDoorProg
import Derived.IntWalk
import Derived.RangeFuncNested
import Derived.RangeFuncBound
import Derived.RangeFuncCalls
import Derived.RangeFuncLeaves
import Derived.RangeFuncFrom
import Derived.Shelf.Abstract
import Derived.WalkKit
import Derived.OwnWalkIn
import Derived.TacticsInMore
import Derived.LoopNIn
import Derived.LoopIn
import Derived.Test.YtncijebklnbhlaaGreatDoorRows
import Derived.Deep.Slices
import Derived.WideShapes
import Derived.ChangeArms
set_option linter.all false
set_option linter.unusedVariables false
set_option linter.unusedSimpArgs false
section
namespace Go.Proofs
open Go.Shelf
def Tryz.lays106_ren:Go.Shelf.Ren:=⟨fun|106=>107|213=>113|265=>117|n=>n,fun|9=>9|3=>3|n=>n,fun|n=>n⟩
theorem Tryz.lays106:Go.Proofs.Lays.n106 Tryz.prog Tryz.lays106_ren:={
 mixed:=by kernel_rfl
 f106:=Tryz.func107.trans (congrArg some (by kernel_rfl))
 f213:=Tryz.func113.trans (congrArg some (by kernel_rfl))
 f265:=Tryz.func117.trans (congrArg some (by kernel_rfl))
 t3:=Tryz.underlying3
 a3:=Tryz.isAgg3
 z3:=Tryz.sizeOf3
 v3:=Tryz.zeroValue3
 t9:=Tryz.underlying9
 a9:=Tryz.isAgg9
 z9:=Tryz.sizeOf9
 v9:=Tryz.zeroValue9 }
open Go.RowKit in
theorem Tryz.strings_Compare (a b:ByteArray) (w:World) :
  Calls Tryz.prog 107 #[.string a,.string b] w λe w'=>e=.returned (.int .i64 (Lib.compareBytes a.data.toList b.data.toList))/\w'=w:=Any.strings_Compare Tryz.lays106 a b w
end Go.Proofs
end
section
namespace Go.Proofs.YtncijebklnbhlaaGreatDoor.Vm
open Go.RowKit
set_option maxRecDepth 100000
set_option maxHeartbeats 4000000
theorem c0Q (a b:ByteArray):j5 107 [.one (.sc (.string a)),.one (.sc (.string b))] [.one (.sc (.int .i64 (Lib.compareBytes a.data.toList b.data.toList)))]:=by
 refine⟨by kernel_rfl,λI w args hI hat=>?_⟩
 match args,hat with
 | [v1,v2],⟨h1,h2,_⟩ =>
  have h1:AtD I w v1 (.sc (.string a)):=h1;have h2:AtD I w v2 (.sc (.string b)):=h2;cases h1;cases h2;refine(Tryz.strings_Compare a b w).mono ?_
  rintro e w' ⟨rfl,rfl⟩
  exact⟨_,rfl,.sc _ rfl,Below.refl _ _⟩
theorem a6L:∀a b:List UInt8,Lib.compareBytes a b=a2C a b
 | [],[]=>rfl
 | [],_::_=>by simp[Lib.compareBytes,a2C,Op.bytesLess]
 | _::_,[]=>by simp[Lib.compareBytes,a2C,Op.bytesLess]
 | x::a,y::b=>by
  rw[Lib.compareBytes,a6L a b];unfold a2C;simp only[Op.bytesLess]
  by_cases h1:x<y
  ·simp[h1]
  ·by_cases h2:y<x
   ·have hne:x≠y:=λe=>by rw[e] at h2;exact h1 (by rw[e];exact h2)
    simp[h1,h2,hne]
   ·have e:x=y:=by
     rw[UInt8.lt_iff_toNat_lt] at h1 h2;exact UInt8.toNat_inj.1 (by omega)
    subst e
    simp[h1]
theorem b7q:a9a 106:=by
 intro n m x1 x2 x3 x4 y1 y2 y3 y4;have hc:=c0Q n m;rw[a6L,<-ByteArray.toList_eq,<-ByteArray.toList_eq] at hc;generalize a2C n.toList m.toList=cv at *;refine C2 Tryz.func106 rfl ?_;intros;rename_i hA;cbv
 repeat ((with_reducible apply j2 hA);cbv)
 refine j3 hA _ hc ?_ ?_
 ·rfl
 cbv
 repeat ((with_reducible apply j2 hA);cbv)
theorem b7r (nm:ByteArray) (x0 x1 x2 x3 r0 r1 r2 r3:D):j5 84 [.one (.sc (.string nm)),.ag [x0,x1,x2,x3],.ag [r0,r1,r2,r3]] [.ag [.sc (.int .u8 11),.sc (.string nm),.sc (.int .i64 0),.sl 4 [[x0,x1,x2,x3],[r0,r1,r2,r3]]]]:=by
 refine C2 Tryz.func84 rfl ?_;intros;rename_i hA;cbv
 repeat ((with_reducible first|apply j2 hA|apply y7 hA true);cbv)
theorem b3J (f:ByteArray×Ty) (fs:List (ByteArray×Ty)) (tl:Ty):a0c (f::fs) tl=.mk 11 f.1 0 [f.2,a0c fs tl]:=rfl
theorem c18 (fs:List (ByteArray×Ty)) (tl:Ty) (hn:fs.length<=1048576):j5 68 [.one (.sl 5 (rF fs)),.ag (cT tl)] [.ag (cT (a0c fs tl))]:=by
 obtain⟨L,hL⟩:∃L,L=rF fs:=⟨_,rfl⟩;rw[<-hL];obtain⟨t0,t1,t2,t3,ht⟩:=l6 tl;obtain⟨q0,q1,q2,q3,hq⟩:=l6 (a0c fs tl);rw[ht,hq];refine C2 Tryz.func68 rfl ?_;intro qa _ qc _ _ _ _ _ qi _ _ _ _ _ _ _ _ _ _ _ _ _ qz va;intros;rename_i hA;cbv;refine gn ?_;obtain⟨e1,e2,e3,e4,e5,e6,e7,e8,e9⟩:=l7 hA;obtain⟨r1,r2,-⟩:=n8 hA;have hlen:qz L=((fs.length:Nat):Int):=by rw[r1,hL,N4]
 have hz0:qa .i64 (qc (qz L) 1)=((fs.length:Nat):Int) - 1:=by rw[e1,e3,hlen,IntWalk.i64_in _ (by omega)]
 refine o5 hA (γ:=Int×D×D×D×D) (λx=>[(6,vi .i64 x.1)]) (λx=>[(2,.box [.d x.2.1,.d x.2.2.1,.d x.2.2.2.1,.d x.2.2.2.2])]) (λx=>∃k:Nat,x.1=(k:Int) - 1/\k<=fs.length/\cT (a0c (fs.drop k) tl)=[x.2.1,x.2.2.1,x.2.2.2.1,x.2.2.2.2]) (λx=>(x.1+1).toNat) (qa .i64 (qc (qz L) 1),t0,t1,t2,t3) ?_ ?_ ?_
 ·exact⟨fs.length,hz0,Nat.le_refl _,by rw[List.drop_length];exact ht⟩
 ·cbv
 ·intro x hinv;obtain⟨z,a0,a1,a2,a3⟩:=x;cbv;refine gn ?_;obtain⟨k,hz,hk,hE⟩:=hinv;replace hz:z=(k:Int) - 1:=hz;replace hE:cT (a0c (fs.drop k) tl)=[a0,a1,a2,a3]:=hE;have hge:qi 0 z=decide (0<k):=by rw[e8,hz];exact decide_eq_decide.2 (by omega)
  by_cases h9:0<k
  ·rw[decide_eq_true h9] at hge;obtain⟨x,hx⟩:∃x,fs[k - 1]?=some x:=⟨_,List.getElem?_eq_getElem (by omega)⟩;have g1:va L z=some (.sc (.string x.1)::cT x.2):=by rw[r2,hz,if_pos (by omega),hL,show ((k:Int) - 1).toNat=k - 1 by omega];exact a3j hx
   have d1:fs.drop (k - 1)=x::fs.drop k:=by obtain⟨hi,e⟩:=List.getElem?_eq_some_iff.1 hx;rw[List.drop_eq_getElem_cons hi,e,show k - 1+1=k by omega]
   have hz1:qa .i64 (qc z 1)=((k - 1:Nat):Int) - 1:=by rw[e1,e3,hz,IntWalk.i64_in _ (by omega)];omega
   have hm:(qa .i64 (qc z 1)+1).toNat<(z+1).toNat:=by rw[hz1,hz];omega
   obtain⟨nm,x⟩:=x;obtain⟨x0,x1,x2,x3,hxx⟩:=l6 x;simp only at g1;rw[hxx] at g1;have hsp:=b7r nm x0 x1 x2 x3 a0 a1 a2 a3
   have hnew:cT (a0c (fs.drop (k - 1)) tl)=[.sc (.int .u8 11),.sc (.string nm),.sc (.int .i64 0),.sl 4 [[x0,x1,x2,x3],[a0,a1,a2,a3]]]:=by
    rw[d1,b3J,cT,rT,rT,rT,hxx,hE]
   rw[hge];cbv;refine gn ?_;rw[g1];cbv
   try (rw[g1];cbv)
   refine j4 hA _ hsp ?_;cbv
   repeat ((with_reducible apply j2 hA);cbv)
   exact⟨(_,_,_,_,_),⟨k - 1,hz1,by omega,hnew⟩,hm,by cbv⟩
  ·rw[decide_eq_false h9] at hge;have hk0:k=0:=by omega
   rw[hk0,List.drop_zero,hq] at hE;cases hE;rw[hge];cbv
   repeat ((with_reducible apply j2 hA);cbv)
theorem a9c {ks:List Ty} {k:Nat} {x:Ty} (h:ks[k]?=some x):rT (ks.take (k+1))=rT (ks.take k)++[cT x]:=by
 obtain⟨hi,e⟩:=List.getElem?_eq_some_iff.1 h;rw[a2f,a2f,List.take_succ_eq_append_getElem hi,e,List.map_append];rfl
theorem b0w:∀t:Ty,t.parts.length<=1048576->j5 108 [.ag (cT t)] [.ag (cT t)]:=by
 intro t
 induction t using Ty.ind with
 | h t ih =>
  intro hN;have hkl:=A4 t;obtain⟨op,nm,n,ks⟩:=t;simp only[Ty.kids] at hkl ih;rw[cT];obtain⟨K,hK⟩:∃K,K=rT ks:=⟨_,rfl⟩;rw[<-hK];refine C2 Tryz.func108 rfl ?_;intro qa qb _ _ _ _ _ qh _ _ _ _ _ _ _ _ _ _ _ _ _ _ qz va _ vd;intros;rename_i hA;cbv
  with_reducible apply j2 hA
  cbv;refine a1v hA 3 25 true rfl ?_;cbv
  repeat ((with_reducible apply j2 hA);cbv)
  obtain⟨e1,e2,e3,e4,e5,e6,e7,e8,e9⟩:=l7 hA;obtain⟨r1,r2,r3,r4⟩:=n8 hA;refine o5 hA (γ:=Int×List (List D)) (λx=>[(9,vi .i64 x.1),(3,.own 2),(13,.jk)]) (λx=>[(2,.row true 25 x.2)]) (λx=>∃k:Nat,x.1=(k:Int)/\k<=ks.length/\x.2=rT (ks.take k)) (λx=>ks.length - x.1.toNat) (0,[]) ?_ ?_ ?_
  ·exact⟨0,rfl,Nat.zero_le _,rfl⟩
  ·cbv
  ·intro x hinv;obtain⟨z,L⟩:=x;cbv;refine gn ?_;obtain⟨k,hz,hk,hE⟩:=hinv;have hz:z=(k:Int):=hz;replace hE:L=rT (ks.take k):=hE;have hlen:qz K=(ks.length:Int):=by rw[r1,hK,L4]
   have hlt:qh z (qz K)=decide (k<ks.length):=by rw[e7,hlen,hz];exact decide_eq_decide.2 (by omega)
   by_cases h9:k<ks.length
   ·rw[decide_eq_true h9] at hlt;obtain⟨x,hx⟩:∃x,ks[k]?=some x:=⟨_,List.getElem?_eq_getElem h9⟩;have g1:va K z=some (cT x):=by rw[r2,hz,if_pos (by omega),hK];exact a0L hx
    have hsp:=ih x (List.mem_of_getElem? hx) (by have:=hkl.2 x (List.mem_of_getElem? hx);omega);have hsn:=a9c hx;obtain⟨o1,m1,n1,l1⟩:=x;rw[cT] at g1 hsp hsn;generalize rT l1=L1 at *;rw[hlt];cbv;refine gn ?_;rw[g1];cbv
    repeat ((with_reducible apply j2 hA);cbv)
    refine j3 hA _ hsp ?_ ?_
    ·rfl
    cbv;refine y7 hA true ?_;cbv;refine y9 hA (by rw[hE,L4];simp;omega) ?_;cbv
    repeat ((with_reducible apply j2 hA);cbv)
    replace hz:z=(k:Int):=hz;have hz1:qa .i64 (qb z 1)=((k+1:Nat):Int):=by rw[e1,e2,hz,IntWalk.i64_in _ (by omega)];omega
    refine⟨(qa .i64 (qb z 1),vd L [[.sc (.int .u8 o1),.sc (.string m1),.sc (.int .i64 n1),.sl 4 L1]]),⟨k+1,hz1,h9,by show vd L _=_;rw[r4,hE,hsn]⟩,by show ks.length - (qa .i64 (qb z 1)).toNat<ks.length - z.toNat;rw[hz1,hz];omega,?_⟩;cbv
   ·rw[decide_eq_false h9] at hlt;rw[hlt];cbv;refine gn ?_;have hE2:L=K:=by rw[hE,hK,List.take_of_length_le (by omega)]
    rw[hE2];exact⟨rfl,trivial⟩
def cfS (f:ByteArray×Ty):ByteArray×Ty:=(f.1,j7 f.2)
theorem a2q:∀(n:Nat) (t:Ty),t.parts.length<=n->(l5 t).length<t.parts.length:=by
 intro n
 induction n with
 | zero=>intro t h;have:=v6 t;omega
 | succ n ih =>
  intro t h;have hp:=v6 t;obtain⟨op,nm,k,ks⟩:=t
  match ks with
  | []=>exact hp
  | [x]=>exact hp
  | x::y::z::l=>exact hp
  | [x,r] =>
   have hk:=A4 (.mk op nm k [x,r]);have hr:=hk.2 r (by simp[Ty.kids]);unfold l5
   by_cases h11:op=11
   ·rw[if_pos h11,List.length_cons];have:=ih r (by omega);omega
   ·rw[if_neg h11];exact hp
theorem b7s:∀(m:Nat) (t:Ty),t.parts.length<=m->m<=1048576->(∀x∈t.parts,G4 x)->j5 53 [.ag (cT t)] [.ag (cT (j7 t))]:=by
 intro m
 induction m with
 | zero=>intro t h;have:=v6 t;omega
 | succ m ih =>
  intro t hm hm2 hsp;have hself:t∈t.parts:=by rw[A3];exact List.mem_cons_self ..
  have hkl:=A4 t;obtain⟨op,nm,n,ks⟩:=t;generalize ht:Ty.mk op nm n ks=t at *;have hc:cT t=[.sc (.int .u8 op),.sc (.string nm),.sc (.int .i64 n),.sl 4 (rT ks)]:=by rw[<-ht,cT]
  have hks:t.kids=ks:=by rw[<-ht];rfl
  rw[hks] at hkl
  by_cases hop:op=11
  ·have hF:=b3E t (hsp t hself) (by omega);have hcr:=M9 (t:=t) (by rw[<-ht];exact hop)
   have hih:∀f∈j9 C4 (l5 t),j5 53 [.ag (cT f.2)] [.ag (cT (j7 f.2))]:=λf hf=>by
    have h1:=F6 hf;have h2:=F3 _ t (Nat.le_refl _) f h1;have h3:=Y0 _ t (Nat.le_refl _) f h1;exact ih f.2 (by omega) (by omega) λx hx=>hsp x (C1 hx h3)
   have hlen:(j9 C4 (l5 t)).length<=1048576:=by
    rw[N0];have:=a2q _ t (Nat.le_refl _);omega
   rw[hc] at hF ⊢;obtain⟨K0,hK0⟩:∃K,K=rT ks:=⟨_,rfl⟩;rw[<-hK0] at hF ⊢;generalize j9 C4 (l5 t)=L at *;have hOf:=c18 (L.map cfS) (o4 t) (by rw[List.length_map];exact hlen);rw[show a0c (L.map cfS) (o4 t)=j7 t from hcr.symm] at hOf;obtain⟨y0,y1,y2,y3,hy⟩:=l6 (j7 t);obtain⟨q0,q1,q2,q3,hq⟩:=l6 (o4 t);rw[hq] at hF hOf;rw[hy] at hOf ⊢;obtain⟨M0,hM0⟩:∃M,M=rF L:=⟨_,rfl⟩;rw[<-hM0] at hF;refine C2 Tryz.func53 rfl λqa qb qc qd qe qf qg qh qi qj qk ql qm qo qp qq qt qu qv qw qx qy qz va vc vd ve vf vg vh vj vk vl vm vn vo vp vq vr vt vu vv vw hA=>?_
   cbv;refine gn ?_;have h11:qj op 11=decide (op=11):=by have e:=l7 hA;exact e.2.2.2.2.2.2.2.2 _ _
   rw[decide_eq_true hop] at h11;rw[h11];cbv;refine gn ?_;refine l9 hA [] hF ⟨rfl,rfl,rfl,rfl,rfl,rfl,rfl⟩ ?_
   rintro res os2 ⟨rfl,rfl⟩
   cbv;refine gn ?_;obtain⟨e1,e2,e3,e4,e5,e6,e7,e8,e9⟩:=l7 hA;obtain⟨r1,r2,r3,r4⟩:=n8 hA;obtain⟨m1,m2,m3,m4⟩:=a2a hA;refine o5 hA (γ:=Int×List (List D)) (λx=>[(5,vi .i64 x.1),(11,.jk),(13,.jk)]) (λx=>[(2,.row false 74 x.2)]) (λx=>∃k:Nat,x.1=(k:Int)/\k<=L.length/\x.2=rF ((L.take k).map cfS++L.drop k)) (λx=>L.length - x.1.toNat) (0,M0) ?_ ?_ ?_
   ·exact⟨0,rfl,Nat.zero_le _,hM0⟩
   ·cbv
   ·intro x hinv;obtain⟨z,M⟩:=x;cbv;refine gn ?_;obtain⟨k,hz,hk,hM⟩:=hinv;replace hz:z=(k:Int):=hz;replace hM:M=rF ((L.take k).map cfS++L.drop k):=hM;have hll:qz M=((L.length:Nat):Int):=by rw[r1,hM,N4];simp;omega
    have hlt:qh z (qz M)=decide (k<L.length):=by rw[e7,hll,hz];exact decide_eq_decide.2 (by omega)
    by_cases h9:k<L.length
    ·rw[decide_eq_true h9] at hlt;obtain⟨x,hx⟩:∃x,L[k]?=some x:=⟨_,List.getElem?_eq_getElem h9⟩;have hspx:=hih x (List.mem_of_getElem? hx)
     have hxe:((L.take k).map cfS++L.drop k)[k]?=some x:=by
      rw[List.getElem?_append_right (by simp;omega)]
      simp
      rw[Nat.min_eq_left (by omega),Nat.sub_self,Nat.add_zero];exact hx
     have hset:((L.take k).map cfS++L.drop k).set k (cfS x)=(L.take (k+1)).map cfS++L.drop (k+1):=by
      obtain⟨hi,e⟩:=List.getElem?_eq_some_iff.1 hx;have e0:k - ((L.take k).map cfS).length=0:=by rw[List.length_map,List.length_take];omega
      rw[List.set_append_right _ _ (by rw[List.length_map,List.length_take];omega),List.take_add_one,hx,List.map_append,List.append_assoc,List.drop_eq_getElem_cons hi,e0];rfl
     obtain⟨xn,xt⟩:=x;obtain⟨x0,x1,x2,x3,hxx⟩:=l6 xt;obtain⟨v0,v1,v2,v3,hvv⟩:=l6 (j7 xt);simp only at hspx;rw[hxx,hvv] at hspx;have gx:va M z=some [.sc (.string xn),x0,x1,x2,x3]:=by rw[r2,hz,if_pos (by omega),hM,show ((k:Int)).toNat=k by omega,a3j hxe,hxx]
     have hz1:qa .i64 (qb z 1)=((k+1:Nat):Int):=by rw[e1,e2,hz,IntWalk.i64_in _ (by omega)];omega
     have hmu:L.length - (qa .i64 (qb z 1)).toNat<L.length - z.toNat:=by rw[hz1,hz];omega
     have hnew:ve M z [.sc (.string xn),v0,v1,v2,v3]=rF ((L.take (k+1)).map cfS++L.drop (k+1)):=by
      rw[m4,<-hset,hM,hz,show ((k:Int)).toNat=k by omega];unfold rF;rw[List.map_set];show _=List.set _ k (.sc (.string xn)::cT (j7 xt));rw[hvv]
     rw[hlt];cbv
     repeat (first|(with_reducible apply j2 hA;cbv)|(rw[gx];cbv)|(refine j3 hA _ hspx rfl ?_;cbv))
     refine⟨(qa .i64 (qb z 1),ve M z [.sc (.string xn),v0,v1,v2,v3]),⟨k+1,hz1,h9,hnew⟩,hmu,?_⟩;cbv
    ·rw[decide_eq_false h9] at hlt;have hM2:M=rF (L.map cfS):=by rw[hM,List.take_of_length_le (by omega),List.drop_of_length_le (by omega),List.append_nil]
     rw[<-hM2] at hOf;rw[hlt];cbv;refine b5c hA [2] ?_;cbv
     repeat (first|(with_reducible apply j2 hA;cbv)|(refine j3 hA _ hOf rfl ?_;cbv))
  ·have hcn:=C7 (t:=t) (by rw[<-ht];exact hop);rw[hks,show t.op=op by rw[<-ht];rfl,show t.name=nm by rw[<-ht];rfl,show t.n=n by rw[<-ht];rfl] at hcn
   have hih:∀x∈ks,j5 53 [.ag (cT x)] [.ag (cT (j7 x))]:=λx hx=>by
    have h2:=hkl.2 x hx;exact ih x (by omega) (by omega) λy hy=>hsp y (by rw[o9,hks];exact List.mem_cons_of_mem _ (List.mem_flatMap.2 ⟨x,hx,hy⟩))
   rw[hcn,cT,hc];obtain⟨K,hK⟩:∃K,K=rT ks:=⟨_,rfl⟩;obtain⟨Q,hQ⟩:∃Q,Q=rT (ks.map j7):=⟨_,rfl⟩;rw[<-hK,<-hQ];refine C2 Tryz.func53 rfl λqa qb qc qd qe qf qg qh qi qj qk ql qm qo qp qq qt qu qv qw qx qy qz va vc vd ve vf vg vh vj vk vl vm vn vo vp vq vr vt vu vv vw hA=>?_
   cbv;refine gn ?_;obtain⟨e1,e2,e3,e4,e5,e6,e7,e8,e9⟩:=l7 hA;obtain⟨r1,r2,r3,r4⟩:=n8 hA;have h11:qj op 11=decide (op=11):=e9 _ _;rw[decide_eq_false hop] at h11;rw[h11];cbv
   repeat (first|(refine a7K hA 2 3 25 true rfl rfl ?_;cbv)|(with_reducible apply j2 hA;cbv))
   refine o5 hA (γ:=Int×List (List D)) (λx=>[(7,vi .i64 x.1)]) (λx=>[(3,.row true 25 x.2)]) (λx=>∃k:Nat,x.1=(k:Int)/\k<=ks.length/\x.2=rT ((ks.map j7).take k)) (λx=>ks.length - x.1.toNat) (0,[]) ?_ ?_ ?_
   ·exact⟨0,rfl,Nat.zero_le _,rfl⟩
   ·cbv
   ·intro x hinv;obtain⟨z,M⟩:=x;cbv;refine gn ?_;obtain⟨k,hz,hk,hM⟩:=hinv;replace hz:z=(k:Int):=hz;replace hM:M=rT ((ks.map j7).take k):=hM;have hll:qz K=((ks.length:Nat):Int):=by rw[r1,hK,L4]
    have hlt:qh z (qz K)=decide (k<ks.length):=by rw[e7,hll,hz];exact decide_eq_decide.2 (by omega)
    by_cases h9:k<ks.length
    ·rw[decide_eq_true h9] at hlt;obtain⟨x,hx⟩:∃x,ks[k]?=some x:=⟨_,List.getElem?_eq_getElem h9⟩;have hspx:=hih x (List.mem_of_getElem? hx);have hx2:(ks.map j7)[k]?=some (j7 x):=by rw[List.getElem?_map,hx];rfl
     have hsn:=a9c hx2;obtain⟨x0,x1,x2,x3,hxx⟩:=l6 x;obtain⟨v0,v1,v2,v3,hvv⟩:=l6 (j7 x);rw[hxx,hvv] at hspx;rw[hvv] at hsn;have gx:va K z=some [x0,x1,x2,x3]:=by rw[r2,hz,if_pos (by omega),hK,show ((k:Int)).toNat=k by omega,a0L hx,hxx]
     have gx2:(Ar.mk qa qb qc qd qe qf qg qh qi qj qk ql qm qo qp qq qt qu qv qw qx qy qz va vc vd ve vf vg vh vj vk vl vm vn vo vp vq vr vt vu vv vw).get K z=some [x0,x1,x2,x3]:=gx;have hz1:qa .i64 (qb z 1)=((k+1:Nat):Int):=by rw[e1,e2,hz,IntWalk.i64_in _ (by omega)];omega
     have hmu:ks.length - (qa .i64 (qb z 1)).toNat<ks.length - z.toNat:=by rw[hz1,hz];omega
     have hnew:vd M [[v0,v1,v2,v3]]=rT ((ks.map j7).take (k+1)):=by rw[r4,hsn,hM]
     have hMl:M.length<=1048576:=by rw[hM,L4,List.length_take];omega
     rw[hlt];cbv
     repeat (first|(with_reducible apply j2 hA;cbv)|(rw[gx];cbv)|(rw[gx2];cbv)|(refine j4 hA _ hspx ?_;cbv)|(refine j3 hA _ hspx rfl ?_;cbv)|(refine y7 hA true ?_;cbv)|(refine y9 hA (by simp only[r4,List.length_append,List.length_cons,List.length_nil];omega) ?_;cbv))
     cbv
     repeat (first|(with_reducible apply j2 hA;cbv)|(rw[gx];cbv)|(rw[gx2];cbv)|(refine j4 hA _ hspx ?_;cbv)|(refine j3 hA _ hspx rfl ?_;cbv)|(refine y7 hA true ?_;cbv)|(refine y9 hA (by simp only[r4,List.length_append,List.length_cons,List.length_nil];omega) ?_;cbv))
     refine⟨(qa .i64 (qb z 1),vd M [[v0,v1,v2,v3]]),⟨k+1,hz1,h9,hnew⟩,hmu,?_⟩;cbv
    ·rw[decide_eq_false h9] at hlt;have hM2:M=Q:=by rw[hM,hQ,List.take_of_length_le (by rw[List.length_map];omega)]
     rw[hlt];cbv;refine gn ?_;exact⟨by rw[hM2],trivial⟩
section
section
variable {W:ByteArray->Bool}
theorem F4 {t:Ty} {s:Int} (h:m8 W t s=true):∃k,C3 t.op=some k/\(decide (8<=t.op) == (s == 114))=true/\t.kids.length=k.length/\(if t.op=11 then W t.name else decide (t.name.toList=[]))=true/\0<=t.n/\(t.op=7\/t.op=10\/t.n=0)/\v7 W t.kids k=true:=by
 cases hk:C3 t.op with
 | none=>rw[a6A hk] at h;cases h
 | some k =>
  obtain⟨op,nm,n,kids⟩:=t;rw[a3k (k:=k) (by exact hk)] at h;unfold c3B c4B at h;simp only[Bool.and_eq_true,Bool.or_eq_true,decide_eq_true_eq] at h;obtain⟨⟨h1,h2,h3,h4,h5⟩,h6⟩:=h;exact⟨k,rfl,h1,h2,h3,h4,by simpa [or_assoc,Ty.op,Ty.n] using h5,h6⟩
theorem b0x {op:Int} {nm:ByteArray} {n:Int} {kids:List Ty} {s:Int} {k:List Int} (h0:C3 op=some k) (h1:(decide (8<=op) == (s == 114))=true) (h2:kids.length=k.length) (h3:(if op=11 then W nm else decide (nm.toList=[]))=true) (h4:0<=n) (h5:op=7\/op=10\/n=0) (h6:v7 W kids k=true) :
  m8 W (.mk op nm n kids) s=true:=by
 rw[a3k h0];unfold c3B c4B;simp only[Bool.and_eq_true,Bool.or_eq_true,decide_eq_true_eq];exact⟨⟨h1,h2,h3,h4,by simpa [or_assoc] using h5⟩,h6⟩
theorem a27 {t:Ty} {s:Int} (h:m8 W t s=true) (h11:t.op=11):s=114/\∃a b,t.kids=[a,b]/\t.n=0/\W t.name=true/\m8 W a 116=true/\m8 W b 114=true:=by
 obtain⟨k,hk,h1,h2,h3,h4,h5,h6⟩:=F4 h;rw[h11] at hk h1 h3 h5;have:C3 11=some [116,114]:=by decide
 rw[this] at hk;injection hk with hk;subst hk;rw[if_pos rfl] at h3
 have hs:s=114:=by
  have h8:decide ((8:Int)<=11)=true:=by decide
  rw[h8] at h1
  simpa using h1
 refine⟨hs,?_⟩
 match t.kids,h2,h6 with
 | [a,b],_,h6 =>
  rw[v7,v7,v7] at h6;simp only[Bool.and_eq_true,and_true] at h6;refine⟨a,b,rfl,?_,h3,h6.1,h6.2⟩
  rcases h5 with h|h|h
  ·exact absurd h (by decide)
  ·exact absurd h (by decide)
  ·exact h
theorem a9d {nm:ByteArray} {a b:Ty} (h3:W nm=true) (ha:m8 W a 116=true) (hb:m8 W b 114=true):m8 W (.mk 11 nm 0 [a,b]) 114=true:=by
 refine b0x (k:=[116,114]) (by decide) (by decide) rfl (by rw[if_pos rfl];exact h3) (by omega) (.inr (.inr rfl)) ?_;rw[v7,v7,v7,ha,hb];rfl
theorem J5:∀ {t:Ty},m8 W t 114=true->(∀f∈l5 t,W f.1=true/\m8 W f.2 116=true)/\m8 W (o4 t) 114=true:=by
 intro t
 induction t using Ty.ind with
 | h t ih =>
  intro h
  by_cases h11:t.op=11
  ·obtain⟨_,a,b,hk,hn,hw,ha,hb⟩:=a27 h h11;have hsp:G4 t:=a4Z W t _ h t (by rw[A3];exact List.mem_cons_self ..);obtain⟨a',b',hk',hsb,hf,ht⟩:=I8 hsp h11;rw[hk] at hk';injection hk' with e1 e2;injection e2 with e2 _;subst e1;subst e2;have hb':=ih b (by rw[hk];simp) hb;rw[hf,ht];refine⟨λf hf=>?_,hb'.2⟩
   rcases List.mem_cons.1 hf with rfl|hf
   ·exact⟨hw,ha⟩
   ·exact hb'.1 f hf
  ·obtain⟨h1,h2⟩:=B3 h11;rw[h1,h2];exact⟨by simp,h⟩
theorem a6M {tl:Ty} (ht:m8 W tl 114=true):∀ {fs:List (ByteArray×Ty)},(∀f∈fs,W f.1=true/\m8 W f.2 116=true)->m8 W (a0c fs tl) 114=true
 | [],_=>ht
 | f::fs,h=>by
  rw[a1y];have h1:=h f (List.mem_cons_self ..);exact a9d h1.1 h1.2 (a6M ht λg hg=>h g (List.mem_cons_of_mem _ hg))
theorem B9 {t:Ty} {s:Int} (h:m8 W t s=true):H0 t:=a4Z W t s h
theorem a1z:∀ {ts:List Ty} {ks:List Int},v7 W ts ks=true->∀(i:Nat) (t:Ty) (k:Int),ts[i]?=some t->ks[i]?=some k->m8 W t k=true
 | [],_,_,i,t,k,h,_=>by simp at h
 | _::_,[],h,i,t,k,_,hk=>by simp at hk
 | x::xs,y::ys,h,i,t,k,ht,hk=>by
  rw[v7,Bool.and_eq_true] at h;cases i with
  | zero=>simp at ht hk;subst ht;subst hk;exact h.1
  | succ i=>exact a1z h.2 i t k (by simpa using ht) (by simpa using hk)
theorem a6N {f:Ty->Ty}:∀ {ts:List Ty} {ks:List Int},v7 W ts ks=true->(∀x∈ts,∀k,m8 W x k=true->m8 W (f x) k=true)->v7 W (ts.map f) ks=true
 | [],ks,_,_=>by cases ks <;> rfl
 | x::xs,[],h,_=>by rw[v7] at h;cases h
 | x::xs,y::ys,h,hf=>by
  rw[v7,Bool.and_eq_true] at h;rw[List.map_cons,v7,Bool.and_eq_true];exact⟨hf x (List.mem_cons_self ..) y h.1,a6N h.2 λz hz=>hf z (List.mem_cons_of_mem _ hz)⟩
theorem a2r:∀(n:Nat) (t:Ty) (s:Int),t.parts.length<=n->m8 W t s=true->m8 W (j7 t) s=true:=by
 intro n
 induction n with
 | zero=>intro t s h;have:=v6 t;omega
 | succ n ih =>
  intro t s hn h
  by_cases h11:t.op=11
  ·have hr:=a27 h h11;obtain⟨rfl,-⟩:=hr;obtain⟨hf,ht⟩:=J5 h;rw[M9 h11];refine a6M ht λf hf'=>?_
   obtain⟨g,hg,rfl⟩:=List.mem_map.1 hf';have h1:=F3 _ t (Nat.le_refl _) g (F6 hg);have h2:=hf g (F6 hg);exact⟨h2.1,ih g.2 116 (by omega) h2.2⟩
  ·rw[C7 h11];obtain⟨k,hk,h1,h2,h3,h4,h5,h6⟩:=F4 h;refine b0x hk h1 (by rw[List.length_map];exact h2) h3 h4 h5 (a6N h6 λx hx k hxk=>?_);have h7:=(A4 t).2 x hx;exact ih x k (by omega) hxk
end
section
variable {W:ByteArray->Bool}
def b9u (W:ByteArray->Bool) (g s:Ty):Prop:=∃c,m8 W g c=true/\m8 W s c=true
theorem b9u.kids {g s:Ty} (h:b9u W g s) (he:g.op=s.op):g.kids.length=s.kids.length/\∀(i:Nat) (x y:Ty),g.kids[i]?=some x->s.kids[i]?=some y->b9u W x y:=by
 obtain⟨c,hg,hs⟩:=h;obtain⟨k,hk,_,h2,_,_,_,h6⟩:=F4 hg;obtain⟨k',hk',_,h2',_,_,_,h6'⟩:=F4 hs;rw[<-he,hk] at hk';injection hk' with hk'
 subst hk';refine⟨by rw[h2,h2'],λi x y hx hy=>?_⟩;have hi:i<k.length:=by rw[<-h2];exact(List.getElem?_eq_some_iff.1 hx).1
 exact⟨k[i],a1z h6 i x _ hx (List.getElem?_eq_getElem hi),a1z h6' i y _ hy (List.getElem?_eq_getElem hi)⟩
theorem b5D {t x:Ty} (h:x∈t.parts):x.parts.length<=t.parts.length:=by
 induction t using Ty.ind with
 | h t ih =>
  rw[o9] at h
  rcases List.mem_cons.1 h with rfl|h
  ·exact Nat.le_refl _
  ·obtain⟨k,hk,hx⟩:=List.mem_flatMap.1 h;have h1:=ih k hk hx;have h2:=(A4 t).2 k hk;omega
end
end
section
theorem b9v:Swo C4:=⟨λ_=>a4A _,λ_ _ _=>a4B _ _ _,λ_ _ _=>a4C _ _ _⟩
theorem a6O {l:List (ByteArray×Ty)} (h:T0 C4 l):j9 C4 l=l:=(a8S b9v h (.refl l)).symm
def cF (f:ByteArray×Ty):ByteArray×Ty:=(f.1,j7 f.2)
theorem b5E {l:List (ByteArray×Ty)} (h:T0 C4 l):T0 C4 (l.map cF):=List.pairwise_map.2 h
theorem a4D {t:Ty} (h:t.op≠11) (hk:t.kids=[]):j7 t=t:=by
 rw[C7 h,hk,List.map_nil];obtain⟨op,nm,n,ks⟩:=t;simp only[Ty.kids] at hk;subst hk;rfl
theorem b1F {l:List (ByteArray×Ty)} (h:T0 C4 l) {tl:Ty} (ht:tl.op≠11) (hk:tl.kids=[]):j7 (a0c l tl)=a0c (l.map cF) tl:=by
 cases l with
 | nil=>exact a4D ht hk
 | cons f l =>
  have h11:(a0c (f::l) tl).op=11:=a4Y (by simp);rw[M9 h11,(a0d ht (f::l)).1,(a0d ht (f::l)).2,a6O h];rfl
section
variable {W:ByteArray->Bool}
theorem a6P {t:Ty} (h:m8 W t 114=true) (h11:t.op≠11):t.kids=[]/\(t.op=8\/t.op=9\/t.op=10):=by
 obtain⟨k,hk,h1,h2,-⟩:=F4 h;have h8:8<=t.op:=by simpa using h1
 unfold C3 at hk
 split at hk
 ·injection hk with hk;subst hk;exact⟨List.eq_nil_of_length_eq_zero h2,by omega⟩
 ·repeat' split at hk
  all_goals first|omega|cases hk
theorem b0y {t:Ty} (h:m8 W t 114=true):(o4 t).op≠11/\(o4 t).kids=[]/\((o4 t).op=8\/(o4 t).op=9\/(o4 t).op=10):=by
 have h1:=b0m (B9 h).self;have h2:=a6P (J5 h).2 h1;exact⟨h1,h2.1,h2.2⟩
theorem a9e {t:Ty} (h:m8 W t 114=true):l5 (j7 t)=(j9 C4 (l5 t)).map cF/\o4 (j7 t)=o4 t:=by
 have ht:=b0y h
 by_cases h11:t.op=11
 ·rw[M9 h11];exact a0d ht.1 _
 ·obtain⟨h1,h2⟩:=B3 h11;rw[a4D h11 (a6P h h11).1,h1,h2];exact⟨rfl,rfl⟩
theorem a3S {t:Ty} (h:m8 W t 114=true):j7 t=a0c ((j9 C4 (l5 t)).map cF) (o4 t):=by
 by_cases h11:t.op=11
 ·exact M9 h11
 ·obtain⟨h1,h2⟩:=B3 h11;rw[a4D h11 (a6P h h11).1,h1,h2];rfl
theorem b1G:∀(n:Nat) (t:Ty) (s:Int),t.parts.length<=n->m8 W t s=true->j7 (j7 t)=j7 t:=by
 intro n
 induction n with
 | zero=>intro t s h;have:=v6 t;omega
 | succ n ih =>
  intro t s hn h
  by_cases h11:t.op=11
  ·obtain⟨rfl,-⟩:=a27 h h11;have ht:=b0y h;rw[a3S h,b1F (b5E (N9 b9v _)) ht.1 ht.2.1,List.map_map]
   congr 1
   refine List.map_congr_left λf hf=>?_
   have hm:=F6 hf;have h1:=F3 _ t (Nat.le_refl _) f hm;have h2:=(J5 h).1 f hm;show (f.1,j7 (j7 f.2))=(f.1,j7 f.2);rw[ih f.2 116 (by omega) h2.2]
  ·rw[C7 h11,C7 (by exact h11)];simp only[Ty.op,Ty.name,Ty.n,Ty.kids];rw[List.map_map]
   congr 1
   obtain⟨k,hk,h1,h2,h3,h4,h5,h6⟩:=F4 h;refine List.map_congr_left λx hx=>?_
   obtain⟨i,hi⟩:=List.mem_iff_getElem?.1 hx;have hil:i<k.length:=by rw[<-h2];exact(List.getElem?_eq_some_iff.1 hi).1
   have hxs:=a1z h6 i x _ hi (List.getElem?_eq_getElem hil);have:=(A4 t).2 x hx;exact ih x _ (by omega) hxs
end
section
variable {W:ByteArray->Bool}
end
def Cn (t:Ty):Prop:=j7 t=t
section
variable {W:ByteArray->Bool}
theorem b3K {t:Ty} (h:m8 W t 114=true) (hc:Cn t):T0 C4 (l5 t)/\∀f∈l5 t,Cn f.2:=by
 have h1:=(a9e h).1;rw[hc] at h1;have h2:T0 C4 (l5 t):=by rw[h1];exact b5E (N9 b9v _)
 refine⟨h2,λf hf=>?_⟩;have h3:=hf;rw[h1,a6O h2] at h3;obtain⟨g,hg,rfl⟩:=List.mem_map.1 h3;exact b1G _ g.2 116 (Nat.le_refl _) ((J5 h).1 g hg).2
end
def b7t (c:List (Int×Ty)):List Int:=c.map (·.1)
def b7u (c c':List (Int×Ty)):Prop:=((b7t c).Nodup->(b7t c').Nodup)/\∀k∈b7t c,k∈b7t c'
theorem b7u.trans {a b c:List (Int×Ty)} (h:b7u a b) (k:b7u b c):b7u a c:=⟨λx=>k.1 (h.1 x),λn x=>k.2 n (h.2 n x)⟩
section
variable {W:ByteArray->Bool}
theorem b0z {t:Ty} {s:Int} (h:m8 W t s=true) (hv:t.op=7\/t.op=10):t.kids=[]:=by
 obtain⟨k,hk,h1,h2,-⟩:=F4 h;unfold C3 at hk;rw[if_pos (by omega)] at hk;injection hk with hk;subst hk;exact List.eq_nil_of_length_eq_zero h2
theorem a28 {t:Ty}:a2m t=true↔t.op=7\/t.op=10:=by unfold a2m;simp
end
end
theorem b7v (fs:List (ByteArray×Ty)):j9 B5 (rF fs)=rF (j9 C4 fs):=b3F (f:=λx:ByteArray×Ty=>D.sc (.string x.1)::cT x.2) (λ_ _=>rfl) fs
theorem b9w (fs:List (ByteArray×Ty)):∀x∈rF fs,Ok5 x:=λx hx=>by
 obtain⟨f,_,rfl⟩:=List.mem_map.1 hx;obtain⟨c0,c1,c2,c3,h⟩:=l6 f.2;exact⟨f.1,c0,c1,c2,c3,by show D.sc (.string f.1)::cT f.2=_;rw[h]⟩
theorem b7w (fs:List (ByteArray×Ty)) (f:ByteArray×Ty):rF (fs++[f])=rF fs++[.sc (.string f.1)::cT f.2]:=by unfold rF;rw[List.map_append];rfl
theorem b9x (t:Ty) (hs:G4 t) (hN:t.parts.length<=1048576):B0 100 [.ag (ofD (cT t))] [] (λres os'=>res=[.own 0,.ag (ofD (cT (o4 t)))]/\os'=[.row false 74 (rF (j9 C4 (l5 t)))]):=by
 have hso:=b5C 106 b7q (rF (l5 t)) (b9w _) (by rw[N4];have:=a2q _ t (Nat.le_refl _);omega);rw[b7v] at hso;obtain⟨Q,hQ⟩:∃Q,Q=rF (j9 C4 (l5 t)):=⟨_,rfl⟩;obtain⟨M,hM⟩:∃M,M=rF (l5 t):=⟨_,rfl⟩;rw[<-hQ,<-hM] at hso;rw[<-hQ];obtain⟨q0,q1,q2,q3,hq⟩:=l6 (o4 t);rw[hq];obtain⟨op,nm,n,ks⟩:=t;generalize ht:Ty.mk op nm n ks=t at *;have hc:cT t=[.sc (.int .u8 op),.sc (.string nm),.sc (.int .i64 n),.sl 4 (rT ks)]:=by rw[<-ht,cT]
 obtain⟨K0,hK0⟩:∃K,K=rT ks:=⟨_,rfl⟩;rw[hc,<-hK0];refine so9 Tryz.func100 rfl ?_;intro _ _ _ _ _ _ _ _ _ qj _ _ _ _ _ _ _ _ _ _ _ _ _ va _ vd;intros;rename_i hA;cbv
 repeat (first|(refine a1v hA 4 74 false rfl ?_;cbv)|(with_reducible apply j2 hA;cbv))
 obtain⟨e1,e2,e3,e4,e5,e6,e7,e8,e9⟩:=l7 hA;obtain⟨r1,r2,r3,r4⟩:=n8 hA
 refine o5 hA (γ:=Ty×Int×ByteArray×Int×List (List D)×List (List D)) (λx=>[(4,.own 2)]) (λx=>[(0,.box [.d (.sc (.int .u8 x.2.1)),.d (.sc (.string x.2.2.1)),.d (.sc (.int .i64 x.2.2.2.1)),.d (.sl 4 x.2.2.2.2.1)]),(2,.row false 74 x.2.2.2.2.2)])
  (λx=>∃ks fs,x.1=.mk x.2.1 x.2.2.1 x.2.2.2.1 ks/\x.2.2.2.2.1=rT ks/\G4 x.1/\x.2.2.2.2.2=rF fs/\fs++l5 x.1=l5 t/\o4 x.1=o4 t/\fs.length+x.1.parts.length<=1048576) (λx=>x.1.parts.length) (t,op,nm,n,K0,[]) ?_ ?_ ?_
 ·exact⟨ks,[],ht.symm,hK0,hs,rfl,rfl,rfl,by simpa using hN⟩
 ·cbv
 ·intro x hinv;obtain⟨r,op,nm,n,K,L⟩:=x;cbv;refine gn ?_;try simp only[nc] at *
  obtain⟨ks,fs,hr,hK,hsr,hL,hfs,htl,hlen⟩:=hinv;have h11:qj op 11=decide (op=11):=e9 _ _
  by_cases hop:op=11
  ·rw[decide_eq_true hop] at h11;obtain⟨a,b,hk,hsb,hfb,htb⟩:=I8 hsr (by rw[hr];exact hop);have hnmr:r.name=nm:=by rw[hr];rfl
   rw[hnmr] at hfb;have hks:ks=[a,b]:=by rw[<-hk,hr];rfl
   obtain⟨a0,a1,a2,a3,ha⟩:=l6 a;obtain⟨op',nm',n',ks'⟩:=b;generalize hb:Ty.mk op' nm' n' ks'=b at *;have hcb:cT b=[.sc (.int .u8 op'),.sc (.string nm'),.sc (.int .i64 n'),.sl 4 (rT ks')]:=by rw[<-hb,cT]
   obtain⟨K',hK'⟩:∃K,K=rT ks':=⟨_,rfl⟩;rw[<-hK'] at hcb;have g0:va K 0=some [a0,a1,a2,a3]:=by rw[r2,if_pos (by omega),hK,hks];exact congrArg some ha
   have g1:va K 1=some [.sc (.int .u8 op'),.sc (.string nm'),.sc (.int .i64 n'),.sl 4 K']:=by rw[r2,if_pos (by omega),hK,hks];exact congrArg some hcb
   have hLl:L.length<=1048576:=by rw[hL,N4];omega
   have hbl:b.parts.length<r.parts.length:=(A4 r).2 b (by rw[hk];simp);have hnew:vd L [[.sc (.string nm),a0,a1,a2,a3]]=rF (fs++[(nm,a)]):=by rw[r4,b7w,hL,ha]
   rw[h11]
   iterate 2 (try cbv;repeat ((first|with_reducible apply j2 hA|rw[g0]|rw[g1]|refine y7 hA true ?_|(refine y9 hA (by simp only[r4,List.length_append,List.length_cons,List.length_nil];omega) ?_));cbv))
   try simp (maxSteps:=4000000) only [nc] at *
   refine⟨(b,op',nm',n',K',vd L [[.sc (.string nm),a0,a1,a2,a3]]),⟨ks',fs++[(nm,a)],hb.symm,hK',hsb,hnew,by rw[<-hfs,hfb];simp,by rw[<-htl,htb],by rw[List.length_append];show fs.length+1+b.parts.length<=_;omega⟩,hbl,?_⟩;cbv
  ·rw[decide_eq_false hop] at h11;obtain⟨hf0,ht0⟩:=B3 (t:=r) (by rw[hr];exact hop);rw[hf0,List.append_nil] at hfs;have hLM:L=M:=by rw[hL,hM,hfs]
   rw[ht0,hr] at htl;rw[<-htl,cT,<-hK] at hq;rw[h11,hLM];cases hq;cbv;refine gn ?_;refine E7 hA [2] hso ⟨rfl,rfl,rfl,rfl,rfl,rfl,rfl⟩ ?_
   rintro res os2 ⟨rfl,rfl⟩
   cbv;refine gn ?_;exact r7 hA [2] ⟨rfl,rfl,rfl,rfl,rfl,rfl,rfl,rfl⟩ ⟨rfl,rfl⟩
end Go.Proofs.YtncijebklnbhlaaGreatDoor.Vm
end
section
namespace Go.Proofs.YtncijebklnbhlaaGreatDoor.Vm
open Go.RowKit Go.Proofs
section
variable {F:Fence} {n:Nat} {P:Program} {w:World}
def b5F (B:Nat) (Kp:World->World->Prop) (I:World->Prop) (Ix:Code->World->Prop) (W:World):Exit->Act->World->Prop
 | .normal,_,W'=>KeepsFrom B W W'/\Kp W W'/\I W'
 | .ret,_,W'=>KeepsFrom B W W'/\Ix .ret W'
 | .exit i,_,W'=>KeepsFrom B W W'/\Ix (.exit i) W'
 | _,_,_=>False
def b7x (F:Fence) (n:Nat) (P:Program) (gf:Nat) (lb:Array Value) (encs:Nat->Array Value) (Kp:World->World->Prop) (N:Nat) (w:World):Prop :=
 ∀(l:Nat) (J:Nat->World->Prop) (Jx:Unit->World->Prop) (W:World),Below w.heap.size w W ->
  (∀k W1,k<N->J k W1->YieldAt F (n - 1) P l (encs k) W1 λe W'=>(e=.returned (.bool true)/\J (k+1) W'/\Kp W1 W')\/(e=.returned (.bool false)/\Jx () W')) ->
  J 0 W->CallsIn F n P gf (#[.func (.yield l) #[] #[]]++lb) W λe W'=>(∃v,e=.returned v)/\(J N W'\/Jx () W')
def b00 (L:Nat) (p:World->Prop):Prop:=∀(W:World) (r r':Loop),p W->W.heap[L]?=some (.loop r)->p (W.putObj L (.loop r'))
theorem b7y {g:Operand} {ps:Array Tmp} {assign body:Code} {Q:Exit->Act->World->Prop} {a:Act}
  (hro:F.round=none) (h1:1<=n) {gf:Nat} {lb:Array Value} (hg:a.eval g=.func (.func gf) #[] lb) (hFg:F.fn gf) (eg:∀args w,(callFunc gf args).run P w=.ok (.enter gf args) w)
  {encs:Nat->Array Value} {Kp:World->World->Prop} {N:Nat} (hseq:b7x F (n - 1) P gf lb encs Kp N w)
  (hKt:∀ {A B C:World},Kp A B->Kp B C->Kp A C) (hKb:∀(W:World) (l:Nat) (o o':Obj),w.heap.size<=l->W.heap[l]?=some o->o.isCells=false->o.isWalk=false->Kp W (W.putObj l o')) (hps:∀k,(encs k).size=ps.size)
  (I:Nat->World->Prop) (Ix:Code->World->Prop) (hI:∀k,b00 (w.heap.size+1) (I k)) (hIx:∀c,b00 (w.heap.size+1) (Ix c)) (h0:∀r:Loop,I 0 ((w.alloc (.deferred (some []))).alloc (.loop r)))
  (hround:∀(l k:Nat) (W:World),k<N->I k W->((∃r:Loop,W.heap[w.heap.size+1]?=some (.loop r))/\W.heap[w.heap.size]?=some (.deferred (some [])))->assign.wpIn (F.inRound l) (n - 1 - 1) P (Exit.then (λa' W1=>KeepsFrom w.heap.size W W1/\Kp W W1/\∃R:World->Prop,b00 (w.heap.size+1) R/\R W1/\∀W2,R W2->body.wpIn (F.inRound l) (n - 1 - 1) P (b5F w.heap.size Kp (I (k+1)) Ix W2) a' W2) (λ_ _ _=>False))
   { tmps:=(ps.zip (encs k)).foldl (λt (p,v)=>t.setIfInBounds p v) a.tmps,defers:=[] } W)
  (hdone:∀(D:Nat) (W:World),D=w.heap.size->I N W->W.heap[D]?=some (.deferred (some []))->Q .normal { a with defers:={ target:=.collected D,args:=#[] }::a.defers } W)
  (hstop:∀(D:Nat) (c:Code) (W:World),w.heap.size<=D->Ix c W->W.heap[D]?=some (.deferred (some []))->c.wpIn F n P Q { a with defers:={ target:=.collected D,args:=#[] }::a.defers } W) :
  (Code.rangeFunc g ps assign body).wpIn F n P Q a w:=by
 refine wpIn_rangeFunc λfn hfn=>?_
 rw[hro];obtain⟨D,hD⟩:∃D,D=w.heap.size:=⟨_,rfl⟩;obtain⟨rec,hrec⟩:∃rec:LoopState->Option Code->Loop,rec=λst pe=>{ state:=st,pending:=pe,fn,tmps:=a.tmps,params:=ps,assign,body,defers:=w.heap.size }:=⟨_,rfl⟩
 obtain⟨W1,hW1⟩:∃W1,W1=(w.alloc (.deferred (some []))).alloc (.loop (rec .ready none)):=⟨_,rfl⟩;have hs1:W1.heap.size=D+1+1:=by rw[hW1,hD];simp
 have hbel:Below D w W1:=by rw[hW1,hD];exact((Below.refl _ w).alloc (Nat.le_refl _) _).alloc (by simp) _
 have hL1:W1.heap[D+1]?=some (.loop (rec .ready none)):=by
  have:=World.alloc_heap_new (w.alloc (.deferred (some []))) (.loop (rec .ready none));rw[World.size_alloc,<-hD,<-hW1] at this;exact this
 have hD1:W1.heap[D]?=some (.deferred (some [])):=by
  rw[hW1,hD];exact(Below.heap_alloc _ _ _ (by simp)).trans (World.alloc_heap_new w _)
 have hI1:I 0 W1:=by rw[hW1];exact h0 _
 refine⟨D+1,[{ target:=.collected D,args:=#[] }],W1,{ target:=.fn (.func gf) lb,args:=#[.func (.yield (D+1)) #[] #[]] },W1,gf,#[.func (.yield (D+1)) #[] #[]]++lb,W1,
  by rw[hW1,hrec,hD];exact run_enterLoop_outer _ _ _ _ _,by simp only[resolve,hg];simp[go_sem],λf' hf=>by simp[Target.leads] at hf;subst hf;exact hFg,by simp[invoke,go_sem,eg],λ_=>h1,?_⟩
 refine(hseq (D+1) (λk W=>I k W/\W.heap[D+1]?=some (.loop (rec .ready none))/\W.heap[D]?=some (.deferred (some [])))
  (λ_ W=>∃c,Ix c W/\W.heap[D+1]?=some (.loop (rec .done (some c)))/\W.heap[D]?=some (.deferred (some []))) W1 (hD ▸ hbel) ?_ ⟨hI1,hL1,hD1⟩).mono ?_
 ·rintro k W hk ⟨hi,hl,hd⟩
  have hy:=run_yield (P:=P) (args:=encs k) hl (by rw[hrec];exact hps k);rw[hrec] at hy;refine⟨fn,_,assign,body,hy,roundIn_of_wpIn hfn (wpIn_mono (hround (D+1) k W hk hi ⟨⟨_,hD ▸ hl⟩,hD ▸ hd⟩) λe a' Wa h=>?_)⟩;cases e with
  | normal =>
   obtain⟨ha1,ha2,R,hR,hr1,hb⟩:=h;have hl2:=ha1.same _ _ (by omega) hl rfl;have hd2:=ha1.same _ _ (by omega) hd rfl;refine⟨_,run_beginRound hl2 (by rw[hrec]),?_⟩;obtain⟨W2,hW2⟩:∃W2,W2=Wa.putObj (D+1) (.loop { rec .ready none with state:=.busy }):=⟨_,rfl⟩;have hl3:W2.heap[D+1]?=some (.loop { rec .ready none with state:=.busy }):=by rw[hW2];exact World.putObj_heap_same (Array.getElem?_eq_some_iff.1 hl2).1
   have hd3:W2.heap[D]?=some (.deferred (some [])):=by rw[hW2];exact(World.putObj_heap_other (by omega)).trans hd2
   have hk3:Kp Wa W2:=by rw[hW2];exact hKb _ _ _ _ (by omega) hl2 rfl rfl
   have hr2:R W2:=by rw[hW2];rw[hD] at hl2 ⊢;exact hR _ _ _ hr1 hl2
   rw[<-hW2];refine wpIn_mono (hb W2 hr2) λe a3 W3 hp=>?_
   have fin:∀jump:Option Code,KeepsFrom w.heap.size W2 W3->∃W4,W4=W3.putObj (D+1) (.loop (rec (if jump.isNone then .ready else .done) jump))/\(Instr.endRound (D+1) jump).run P W3=.ok (.bool jump.isNone) W4 /\
     W3.heap[D+1]?=some (.loop { rec .ready none with state:=.busy })/\W4.heap[D+1]?=some (.loop (rec (if jump.isNone then .ready else .done) jump))/\W4.heap[D]?=some (.deferred (some [])):=λjump hk=>by
    have h3:=hk.same _ _ (by omega) hl3 rfl;refine⟨_,rfl,?_,h3,World.putObj_heap_same (Array.getElem?_eq_some_iff.1 h3).1,(World.putObj_heap_other (by omega)).trans (hk.same _ _ (by omega) hd3 rfl)⟩;have:=run_endRound (P:=P) jump h3;rw[hrec] at this ⊢;exact this
   cases e with
   | normal =>
    obtain⟨h5,h6,h7⟩:=hp;obtain⟨W4,e4,hr4,hl4,hl5,hd5⟩:=fin none h5;exact⟨_,W4,hr4,.inl ⟨rfl,⟨by rw[e4];rw[hD] at hl4 ⊢;exact hI _ _ _ _ h7 hl4,hl5,hd5⟩,hKt ha2 (hKt (hKt hk3 h6) (by rw[e4];exact hKb _ _ _ _ (by omega) hl4 rfl rfl))⟩⟩
   | ret =>
    obtain⟨h5,h7⟩:=hp;obtain⟨W4,e4,hr4,hl4,hl5,hd5⟩:=fin (some .ret) h5;exact⟨_,W4,hr4,.inr ⟨rfl,.ret,by rw[e4];rw[hD] at hl4 ⊢;exact hIx _ _ _ _ h7 hl4,hl5,hd5⟩⟩
   | exit i =>
    obtain⟨h5,h7⟩:=hp;obtain⟨W4,e4,hr4,hl4,hl5,hd5⟩:=fin (some (.exit i)) h5;exact⟨_,W4,hr4,.inr ⟨rfl,.exit i,by rw[e4];rw[hD] at hl4 ⊢;exact hIx _ _ _ _ h7 hl4,hl5,hd5⟩⟩
   | goto t=>exact hp.elim
   | panic ch=>exact hp.elim
   | outgrown=>exact hp.elim
  | _=>exact h.elim
 ·rintro e W2 ⟨⟨v,rfl⟩,⟨hi,hl,hd⟩|⟨c,hi,hl,hd⟩⟩
  ·exact⟨none,_,by have:=run_endLoop (P:=P) hl (by rw[hrec];simp);rw[hrec] at this;exact this,hdone D _ hD (by rw[hD] at hl ⊢;exact hI _ _ _ _ hi hl) ((World.putObj_heap_other (by omega)).trans hd)⟩
  ·exact⟨some c,_,by have:=run_endLoop (P:=P) hl (by rw[hrec];simp);rw[hrec] at this;exact this,hstop D c _ (by omega) (by rw[hD] at hl ⊢;exact hIx _ _ _ _ hi hl) ((World.putObj_heap_other (by omega)).trans hd)⟩
end
end Go.Proofs.YtncijebklnbhlaaGreatDoor.Vm
end
section
namespace Go.Proofs.YtncijebklnbhlaaGreatDoor.Vm
open Go.RowKit Go.Shelf Go.Proofs
attribute [local go_sem] Oper.semAt_some
def KpB (Bs b off m:Nat) (W W':World):Prop:=(∀v,W.cell? ⟨Bs,0,none⟩=some v->W'.cell? ⟨Bs,0,none⟩=some v)/\∀i,i<m->∀v,W.cell? ⟨b,off+i,none⟩=some v->W'.cell? ⟨b,off+i,none⟩=some v
theorem KpB.refl {Bs b off m:Nat} (W:World):KpB Bs b off m W W:=⟨λ_ h=>h,λ_ _ _ h=>h⟩
theorem KpB.trans {Bs b off m:Nat} {A B C:World} (h:KpB Bs b off m A B) (h':KpB Bs b off m B C):KpB Bs b off m A C:=⟨λv hv=>h'.1 v (h.1 v hv),λi hi v hv=>h'.2 i hi v (h.2 i hi v hv)⟩
theorem KpB.turn {Bs b off m:Nat} (W:World) (l:Nat) (o o':Obj) (hl:W.heap[l]?=some o) (ho:o.isCells=false):KpB Bs b off m W (W.putObj l o') :=
 ⟨λv hv=>cell_kept hv (grownBy_putObj' W l o') (λr e=>by cases e;exact⟨o,hl,ho⟩),λi hi v hv=>cell_kept hv (grownBy_putObj' W l o') (λr e=>by cases e;exact⟨o,hl,ho⟩)⟩
set_option maxRecDepth 100000 in
set_option maxHeartbeats 4000000 in
theorem b5G (e:Nat->Nat->Value) (F:Fence) (n:Nat) (hf:F.fn 114) (hro:F.round=none) (hn:1<=n) (l Bs b off len cap:Nat) (hreach:len * 80<=140737488351232) (J:Nat->World->Prop) (Jx:Unit->World->Prop)
  (hY:∀(k:Nat) (W:World),k<len->J k W->YieldAt F (n - 1) Tryz.prog l #[.int .i64 ((len - 1 - k:Nat):Int),.agg #[e (len - 1 - k) 0,e (len - 1 - k) 1,e (len - 1 - k) 2,e (len - 1 - k) 3,e (len - 1 - k) 4]] W λr W' =>
   (r=.returned (.bool true)/\J (k+1) W'/\KpB Bs b off (len * 5) W W')\/(r=.returned (.bool false)/\Jx () W'))
  (W:World) (hBs:W.cell? ⟨Bs,0,none⟩=some (.slice (some ⟨b,off,none⟩) len cap)) (hc:∀j,j<len->∀i,i<5->W.cell? ⟨b,off+(j * 5+i),none⟩=some (e j i)) (h0:J 0 W) :
  CallsIn F n Tryz.prog 114 #[.func (.yield l) #[] #[],.pointer (some ⟨Bs,0,none⟩)] W λr W'=>(∃v,r=.returned v)/\(J len W'\/Jx () W'):=by
 refine callsIn_of_wp Tryz.func114 rfl hf ?_ hro;simp only[Tryz.ntmps114,List.size_toArray,List.length_cons,List.length_nil,Nat.reduceAdd,Nat.reduceSub,Array.replicate_succ,Array.replicate_zero,List.push_toArray,List.append_toArray,List.nil_append,List.cons_append]
 gi_wp2
 gi_loopw [3] (λi wr=>∃k r:Nat,k+r=len/\i=.int .i64 ((r:Int) - 1)/\J k wr/\KpB Bs b off (len * 5) W wr)
  (λi _=>(intOf i+1).toNat)
 case atStart=>exact⟨0,len,by omega,rfl,h0,KpB.refl W⟩
 case round =>
  obtain⟨k,r,hk,rfl,hJs,hnx⟩:=hrel;have hbx:=hnx.1 _ hBs;cases r with
  | succ q =>
   have eq:(((q+1:Nat):Int) - 1)=(q:Int):=by omega
   have hq:len - 1 - k=q:=by omega
   rw[eq];have hy0:=hY k wr (by omega) hJs;rw[hq] at hy0;obtain⟨fn,tmps,assign,body,hy,hR⟩:=hy0;have h2:∀i,i<5->wr.cell? ⟨b,off+q * 5+i,none⟩=some (e q i):=λi hi=>by rw[Nat.add_assoc];exact hnx.2 _ (by omega) _ (hc q (by omega) i hi)
   have c0:=h2 0 (by omega);have c1:=h2 1 (by omega);have c2:=h2 2 (by omega);have c3:=h2 3 (by omega);have c4:=h2 4 (by omega);clear h2 hc hY;simp only[Nat.add_zero] at c0;have hqn:(0:Int)<=(q:Int):=by omega
   have hql:(q:Int)<(len:Int):=by omega
   have hqlt:q<len:=by omega
   gi_wp2
   refine hR.mono ?_
   rintro r W3 (⟨rfl,hJ3,hk3⟩|⟨rfl,hJx3⟩)
   ·gi_wp2
    go_roundw
    case rel=>exact⟨k+1,q,by omega,by simp,hJ3,hnx.trans hk3⟩
    case measure=>simp[intOf]
   ·gi_wp2
    refine bodyPost_ret (results_none rfl _ _ _) rfl ?_;exact⟨⟨_,rfl⟩,.inr hJx3⟩
  | zero =>
   obtain rfl:k=len:=by omega
   clear hY
   gi_wp2
   go_end0
   exact⟨⟨_,rfl⟩,.inl hJs⟩
set_option maxRecDepth 100000 in
set_option maxHeartbeats 2000000 in
theorem b3L (A:Option Addr) (cap:Nat) (F:Fence) (n:Nat) (hf:F.fn 114) (hro:F.round=none) (l Bs:Nat) (J:World->Prop) (W:World) (hBs:W.cell? ⟨Bs,0,none⟩=some (.slice A 0 cap)) (h0:J W) :
  CallsIn F n Tryz.prog 114 #[.func (.yield l) #[] #[],.pointer (some ⟨Bs,0,none⟩)] W λe W'=>(∃v,e=.returned v)/\J W':=by
 refine callsIn_of_wp Tryz.func114 rfl hf ?_ hro;simp only[Tryz.ntmps114,List.size_toArray,List.length_cons,List.length_nil,Nat.reduceAdd,Nat.reduceSub,Array.replicate_succ,Array.replicate_zero,List.push_toArray,List.append_toArray,List.nil_append,List.cons_append]
 gi_wp2
 gi_loopw [3] (λi wr=>i=.int .i64 (-1)/\J wr) (λ_ _=>0)
 case atStart=>exact⟨rfl,h0⟩
 case round =>
  obtain⟨rfl,hJs⟩:=hrel
  gi_wp2
  go_end0
  exact⟨⟨_,rfl⟩,hJs⟩
theorem b3M {I:Nat->Nat->Prop} {w:World} {v:Value} {rows:List (List D)} {Bs:Nat} (hlt:∀b h,I b h->b<w.heap.size) (hv:AtD I w v (.sl 5 rows)) (hBl:Bs<w.heap.size) (hBs:w.cell? ⟨Bs,0,none⟩=some v) (hreach:rows.length * 80<=140737488351232) :
    ∃(b off:Nat) (us:List Value),us.length=rows.length * 5/\(rows≠[]->Up I b (off+rows.length * 5))/\A8 I w us rows.flatten/\(∀r∈rows,r.length=5) /\
      ∀(F:Fence) (n:Nat),F.fn 114->F.round=none->1<=n->b7x F n Tryz.prog 114 #[.pointer (some ⟨Bs,0,none⟩)] (λk=>#[.int .i64 ((rows.length - 1 - k:Nat):Int),.agg (((us.drop ((rows.length - 1 - k) * 5)).take 5).toArray)]) (KpB Bs b off (rows.length * 5)) rows.length w:=by
  obtain⟨A,cap,rfl,hcap,h⟩:=hv.slice
  rcases h with rfl|⟨b,off,us,rfl,hI,hr,hl,hc,hd⟩
  · exact⟨0,0,[],rfl,λh=>absurd rfl h,.nil I w,λr hr=>(by cases hr),λF n hf hro hn l J Jx W hW hY h0 =>
      (b3L A cap F n hf hro l Bs (J 0) W ((hW.cell (p:=⟨Bs,0,none⟩) hBl).trans hBs) h0).mono λe W' h=>⟨h.1,.inl h.2⟩⟩
  · refine⟨b,off,us,hl,λ_=>hI,hd,hr,λF n hf hro hn l J Jx W hW hY h0=>?_⟩
    have hbl:b<w.heap.size:=by obtain⟨k,h1,h2⟩:=hI;exact hlt _ _ h2
    refine b5G (λj i=>us.getD (j * 5+i) undef) F n hf hro hn l Bs b off rows.length cap hreach J Jx (λk W1 hk hj=>?_) W ((hW.cell (p:=⟨Bs,0,none⟩) hBl).trans hBs) (λj hj i hi=>?_) h0
    · have:=hY k W1 hk hj
      have hlen:(rows.length - 1 - k) * 5+5<=us.length:=by rw[hl,<-Nat.succ_mul];exact Nat.mul_le_mul_right _ (by omega)
      have e:((us.drop ((rows.length - 1 - k) * 5)).take 5)=[us.getD ((rows.length - 1 - k) * 5+0) undef,us.getD ((rows.length - 1 - k) * 5+1) undef,us.getD ((rows.length - 1 - k) * 5+2) undef,us.getD ((rows.length - 1 - k) * 5+3) undef,us.getD ((rows.length - 1 - k) * 5+4) undef]:=by
        apply List.ext_getElem?
        intro i;rw[List.getElem?_take]
        split
        · rename_i hi
          rw[List.getElem?_drop];have h3:(rows.length - 1 - k) * 5+i<us.length:=by omega
          have hu:∀j,(rows.length - 1 - k) * 5+j<us.length->us[(rows.length - 1 - k) * 5+j]?=some (us.getD ((rows.length - 1 - k) * 5+j) undef):=λj hj=>by rw[List.getD_eq_getElem?_getD,List.getElem?_eq_getElem hj];rfl
          rw[hu i h3]
          match i,hi with
          | 0,_=>rfl
           | 1,_=>rfl
           | 2,_=>rfl
           | 3,_=>rfl
           | 4,_=>rfl
          
        · rename_i hi
          rw[List.getElem?_eq_none (by simp;omega)]
      dsimp only at this;rw[e] at this;exact this
    · refine(hW.cell (p:=⟨b,off+(j * 5+i),none⟩) hbl).trans ?_
      have h3:j * 5+i<us.length:=by
        have h4:j * 5+5<=rows.length * 5:=by rw[<-Nat.succ_mul];exact Nat.mul_le_mul_right _ (by omega)
        omega
      have:=hc (j * 5+i) _ (List.getElem?_eq_getElem h3);rw[this,List.getD_eq_getElem?_getD,List.getElem?_eq_getElem h3];rfl
end Go.Proofs.YtncijebklnbhlaaGreatDoor.Vm
end
section
namespace Go.Proofs.YtncijebklnbhlaaGreatDoor.Vm
open Go.RowKit
set_option maxRecDepth 100000
set_option maxHeartbeats 4000000
section
section
variable {I0:Nat->Nat->Prop} {X:Nat->Prop} {w0:W0} {I:Nat->Nat->Prop} {g:Nat->Value} {s:S} {a:Act} {w:World}
def other:Obj->Bool
 | .cells _ _ _=>false
 | .map _ _=>false
 | _=>true
theorem Y3 {L:Nat} {o:Obj} (hI:∀k,¬I L k):A1 I w (w.putObj L o):=λb k hb i hi=>by
 have hne:b≠L:=λe=>hI k (e ▸ hb)
 show (match (w.putObj L o).heap[b]? with|some (.cells c _ _)=>c[i]?|_=>none)=_;rw[World.putObj_heap_other hne];rfl
theorem a1d {L:Nat} {y:Obj} (hl:w.heap[L]?=some y) (hy:other y=true) {k:Nat} {o:O} (h:U4 X w0 I w g k o) (hd:o≠.dead):¬gbl (g k) L:=λhg=>by
 cases o with
 | dead=>exact hd rfl
 | box cs =>
  obtain⟨b,us,t,h1,h2,_⟩:=h;rw[h1] at hg;obtain rfl:b=L:=hg;rw[hl] at h2;rw[Option.some.inj h2] at hy;cases hy
 | row z e rows =>
  obtain⟨us,h1,_⟩:=h
  rcases h1.2 with⟨e0,_⟩|⟨g',cap,cur,e0,_,hh,_⟩
  ·rw[e0] at hg;exact hg.elim
  ·rw[e0] at hg;have hg:g'=L:=hg;subst hg;rw[hl] at hh;rw[Option.some.inj hh] at hy;cases hy
 | ob T vs =>
  obtain⟨b,h1,h2,_⟩:=h;rw[h1] at hg;obtain rfl:b=L:=hg;rw[hl] at h2;rw[Option.some.inj h2] at hy;cases hy
 | mp kt es =>
  obtain⟨b,l,c,h1,h2,_⟩:=h;rw[h1] at hg;obtain rfl:b=L:=hg;rw[hl] at h2;rw[Option.some.inj h2] at hy;cases hy
 | it P =>
  obtain⟨A,n,cap,F,h1,h2,h3,h4⟩:=h;rw[h1,a0P] at hg;obtain⟨c,t,h5⟩:=(h4 L hg).1;rw[hl] at h5;rw[Option.some.inj h5] at hy;cases hy
 | kl ks =>
  obtain⟨us,h1,_⟩:=h;rw[h1] at hg;exact hg.elim
theorem b01 {L:Nat} {y y':Obj} (hl:w.heap[L]?=some y) (hy:other y=true) (hI:∀k,¬I L k) {k:Nat} {o:O} (h:U4 X w0 I w g k o):U4 X w0 I (w.putObj L y') g k o:=by
 cases hd:o with
 | dead=>exact True.intro
 | _ =>
  rw[hd] at h;exact h.keep (λ_ _ h=>h) (Y3 hI) (λb hb=>World.putObj_heap_other λe=>a1d hl hy h (by simp) (e ▸ hb)) (λb hb h' hh=>hh)
theorem RelI.turned (h:RelI I0 X w0 I g s a w) {L:Nat} {y y':Obj} (hl:w.heap[L]?=some y) (hy:other y=true) (h0:w0.w.heap.size<=L) (hI:∀k,¬I L k):RelI I0 X w0 I g s a (w.putObj L y'):=by
 have hk:=Y3 (w:=w) (o:=y') hI;refine⟨h.im,λb k hb=>⟨?_,(h.lt b k hb).2⟩,⟨h.fr.os,h.fr.tape,h.fr.output,?_,λb hb hX=>(World.putObj_heap_other (by omega)).trans (h.fr.block b hb hX)⟩,h.kp.trans λb k hb i hi=>hk b k (h.im b k hb) i hi,h.lo,h.st,λk o ho=>b01 hl hy hI (h.obj k o ho),h.dis,h.out,h.tmp.mono (λ_ _ h=>h) hk,h.dfr⟩
 ·have:=(h.lt b k hb).1;simpa using this
 ·have:=h.fr.size;simpa using this
end
section
variable {I0:Nat->Nat->Prop} {X:Nat->Prop} {w0:W0} {I:Nat->Nat->Prop} {g:Nat->Value} {s:S} {a:Act} {w:World}
theorem RelI.turnBoth (h:RelI I0 X w0 I g s a w) {L:Nat} {y y0 y':Obj} (hl:w.heap[L]?=some y) (hy:other y=true) (hl0:w0.w.heap[L]?=some y0) (hI:∀k,¬I L k):RelI I0 X ⟨w0.w.putObj L y',w0.g,w0.n,w0.d⟩ I g s a (w.putObj L y'):=by
 have hk:=Y3 (w:=w) (o:=y') hI;have hk0:=Y3 (w:=w0.w) (o:=y') (I:=I0) (λk hk=>hI k (h.im L k hk))
 have hM:∀b,a1k X w0 b->a1k X ⟨w0.w.putObj L y',w0.g,w0.n,w0.d⟩ b:=λb hb=>by
  rcases hb with hb|hb
  ·exact .inl (by simpa using hb)
  ·exact .inr hb
 refine⟨h.im,λb k hb=>⟨?_,λhlt=>(h.lt b k hb).2 (by simpa using hlt)⟩,⟨h.fr.os,h.fr.tape,h.fr.output,?_,λb hb hX=>?_⟩,?_,h.lo,h.st,λk o ho=>?_,h.dis,h.out,h.tmp.mono (λ_ _ h=>h) hk,h.dfr.1,?_⟩
 ·have:=(h.lt b k hb).1;simpa using this
 ·have:=h.fr.size;simpa using this
 ·by_cases e:b=L
  ·subst e;rw[World.putObj_heap_same (Array.getElem?_eq_some_iff.1 hl).1,World.putObj_heap_same (Array.getElem?_eq_some_iff.1 hl0).1]
  ·rw[World.putObj_heap_other e,World.putObj_heap_other e];exact h.fr.block b (by simpa using hb) hX
 ·intro b k hb i hi;exact((hk b k (h.im b k hb) i hi).trans (h.kp b k hb i hi)).trans (hk0 b k hb i hi).symm
 ·have:=b01 (y':=y') hl hy hI (h.obj k o ho);cases o with
  | dead=>exact True.intro
  | box cs=>obtain⟨b,us,t,h1,h2,h3,h4,h5,h6⟩:=this;exact⟨b,us,t,h1,h2,h3,h4,h5,hM b h6⟩
  | mp kt es=>obtain⟨b,l,c,h1,h2,h3,h4,h6⟩:=this;exact⟨b,l,c,h1,h2,h3,h4,hM b h6⟩
  | it P=>obtain⟨A,n,cap,F,h1,h2,h3,h4⟩:=this;exact⟨A,n,cap,F,h1,h2,h3,λb hb=>⟨(h4 b hb).1,(h4 b hb).2.1,hM b (h4 b hb).2.2⟩⟩
  | kl ks=>exact this
  | ob T vs=>obtain⟨b,h1,h2,h3,h4⟩:=this;exact⟨b,h1,h2,h3,hM b h4⟩
  | row z e rows=>obtain⟨us,h1,h2,h3,h4⟩:=this;exact⟨us,h1,h2,h3,λb hb=>⟨(h4 b hb).1,(h4 b hb).2.1,hM b (h4 b hb).2.2⟩⟩
 ·intro t ht;obtain⟨h1,h2⟩:=h.dfr.2 t ht;obtain⟨gl,ty,c,e1,e2,e3⟩:=b4s h1
  have hne:gl≠L:=λe=>by
   subst e;have:=(h.fr.block gl e3 (h2 gl e1)).trans e2;rw[hl] at this;injection this with this;subst this;cases hy
  exact⟨b4t e1 ((World.putObj_heap_other hne).trans e2),h2⟩
theorem a3T {B:Nat} {g':Nat->Value} {os:List O} {nn:Nat} {d:List Deferred} {I2:Nat->Nat->Prop} {g2:Nat->Value} {s2:S} {a2:Act} {w2:World} (h:∀k o,os[k]?=some o->U4 X w0 I w g' k o) (hmp:∀j kt es b,os[j]?=some (.mp kt es)->gbl (g' j) b->b<B)
  (h2:RelI I (Xof g' os) ⟨w,g',nn,d⟩ I2 g2 s2 a2 w2):KeepsFrom B w w2:=by
 refine⟨h2.fr.size,λk o hk ho hc=>(h2.fr.block k (Array.getElem?_eq_some_iff.1 ho).1 λ⟨j,x,hj,hd,hb⟩=>?_).trans ho⟩;have hob:=h j x hj;cases x with
 | dead=>exact hd rfl
 | box cs =>
  obtain⟨b,us,t,h1,h2,_⟩:=hob;rw[h1] at hb;obtain rfl:b=k:=hb;rw[ho] at h2;injection h2 with h2;rw[h2] at hc;cases hc
 | row z e rows =>
  obtain⟨us,h1,_⟩:=hob
  rcases h1.2 with⟨e0,_⟩|⟨g3,cap,cur,e0,_,hh,_⟩
  ·rw[e0] at hb;exact hb.elim
  ·rw[e0] at hb;have hb:g3=k:=hb;subst hb;rw[ho] at hh;injection hh with hh;rw[hh] at hc;cases hc
 | mp kt es=>have:=hmp j kt es k hj hb;omega
 | ob T vs =>
  obtain⟨b,h1,h2,_⟩:=hob;rw[h1] at hb;obtain rfl:b=k:=hb;rw[ho] at h2;injection h2 with h2;rw[h2] at hc;cases hc
 | it P =>
  obtain⟨A,n,cap,F,h1,h2,h3,h4⟩:=hob;rw[h1,a0P] at hb;obtain⟨c,t,h5⟩:=(h4 k hb).1;rw[ho] at h5;injection h5 with h5;rw[h5] at hc;cases hc
 | kl ks =>
  obtain⟨us,h1,_⟩:=hob;rw[h1] at hb;exact hb.elim
end
def b02:O->Bool
 | .mp _ _=>true
 | _=>false
def a18:List O->List O->Bool
 | _,[]=>true
 | [],o::l=>match b02 o with|true=>false|false=>a18 [] l
 | x::k,o::l=>match b02 o with|true=>(match b02 x with|true=>a18 k l|false=>false)|false=>a18 k l
theorem b7z {o:O} (h:b02 o=true):∃kt es,o=.mp kt es:=by
 cases o with
 | mp kt es=>exact⟨kt,es,rfl⟩
 | _=>cases h
theorem a3U:∀ {k l:List O} {j:Nat} {kt:Nat} {es:List (R×R)},a18 k l=true->l[j]?=some (.mp kt es)->∃kt' es',k[j]?=some (.mp kt' es')
 | _,[],j,_,_,_,h=>by simp at h
 | [],o::l,j,kt,es,hs,h=>by
  simp only[a18] at hs;cases ho:b02 o with
  | true=>rw[ho] at hs;cases hs
  | false =>
   rw[ho] at hs;cases j with
   | zero=>simp at h;subst h;cases ho
   | succ j =>
    obtain⟨a,b,hx⟩:=a3U hs (show l[j]?=_ by simpa using h)
    simp at hx
 | x::k,o::l,j,kt,es,hs,h=>by
  simp only[a18] at hs;cases j with
  | zero =>
   simp at h
   subst h;cases hx:b02 x with
   | true=>obtain⟨a,b,rfl⟩:=b7z hx;exact⟨a,b,rfl⟩
   | false=>rw[hx] at hs;cases hs
  | succ j =>
   have hs':a18 k l=true:=by
    cases ho:b02 o with
    | true =>
     rw[ho] at hs;cases hx:b02 x with
     | true=>rw[hx] at hs;exact hs
     | false=>rw[hx] at hs;cases hs
    | false=>rw[ho] at hs;exact hs
   obtain⟨a,b,hx⟩:=a3U hs' (show l[j]?=_ by simpa using h);exact⟨a,b,by simpa using hx⟩
def b9y (ks1 ks2:List Nat) (n:Nat) (o o':List O) (m:Nat) (s2:S):Prop:=y5 s2.o m=.kl ks1/\y5 s2.o n=.kl ks2/\a3H n s2.o=o'/\a1P n o'=true/\a18 o o'=true
def b5H (n:Nat) (o o':List O) (m:Nat) (s2:S):Prop:=y5 s2.o m=.kl []/\y5 s2.o n=.kl []/\a3H n s2.o=o'/\a1P n o'=true/\a18 o o'=true
def b5I (ks1 ks2:List Nat) (asg bdy:Code) (tk:List V) (o o':List O):Prop :=
 B7 j1 asg ⟨tk,y8 o (.kl [])⟩ (λx s1=>x=.normal/\a18 o s1.o=true/\B7 j1 bdy ⟨s1.t,y8 s1.o (.kl [])⟩ (λx s2=>x=.normal/\b9y ks1 ks2 (o7 o) o o' (o7 s1.o) s2))
def b9z (asg bdy:Code) (tk:List V) (o o':List O):Prop :=
 B7 j1 asg ⟨tk,y8 o (.kl [])⟩ (λx s1=>x=.normal/\a18 o s1.o=true/\B7 j1 bdy ⟨s1.t,y8 s1.o (.kl [])⟩ (λx s2=>x=.normal/\b5H (o7 o) o o' (o7 s1.o) s2))
section
variable {I0:Nat->Nat->Prop} {X:Nat->Prop} {w0:W0} {I:Nat->Nat->Prop} {g:Nat->Value} {t:List V} {o:List O} {a:Act} {W:World}
def a10 (I0:Nat->Nat->Prop) (X:Nat->Prop) (w0:W0) (I:Nat->Nat->Prop) (L B:Nat) (t:List V) (a:Act) (o:List O) (W:World):Prop :=
 ∃I' g',(∀b k,I b k->I' b k)/\(∀k,¬I' L k/\¬I' B k)/\RelI I0 X w0 I' g' ⟨t,o⟩ a W/\∀j kt es b,o[j]?=some (.mp kt es)->gbl (g' j) b->b<B
theorem b5J {asg bdy:Code} {ro:Option Nat} {n L B:Nat} {r:Loop} {us:List Value} {tk:List V} {o':List O} {ks1 ks2:List Nat} (hA:y6 Tryz.prog asg=true) (hB:y6 Tryz.prog bdy=true)
  (h:RelI I0 X w0 I g ⟨t,o⟩ a W) (hL:W.heap[L]?=some (.loop r)) {dd:Option (List Deferred)} (hD:W.heap[B]?=some (.deferred dd)) (hL0:w0.w.heap.size<=L) (hI2:∀k,¬I L k/\¬I B k) (hmp:∀j kt es b,o[j]?=some (.mp kt es)->gbl (g j) b->b<B) (hv:n6 I W g us tk) (ht:A7 ks2 t=t) (hx:b5I ks1 ks2 asg bdy tk o o') :
  asg.wpIn (FW ro) n Tryz.prog (Exit.then (λa' W1=>KeepsFrom B W W1/\A1 I W W1/\∃R:World->Prop,b00 L R/\R W1/\∀W2,R W2->bdy.wpIn (FW ro) n Tryz.prog (b5F B (A1 I) (a10 I0 X w0 I L B t a o') (λ_ _=>False) W2) a' W2) (λ_ _ _=>False)) { tmps:=us.toArray,defers:=[] } W:=by
 obtain⟨g',hg,hgn,h1⟩:=h.rebase hv;have hLt:L<W.heap.size:=(Array.getElem?_eq_some_iff.1 hL).1;have hDt:B<W.heap.size:=(Array.getElem?_eq_some_iff.1 hD).1;have hIL:∀k,¬I L k:=λk=>(hI2 k).1
 have hmp1:∀j kt es b,(y8 o (.kl []))[j]?=some (.mp kt es)->gbl (g' j) b->b<B:=λj kt es b hj hb=>by
  rw[Z4] at hj
  have hlt:j<o.length:=by
   have:=(List.getElem?_eq_some_iff.1 hj).1;rw[List.length_append,List.length_singleton] at this
   rcases Nat.lt_or_ge j o.length with h|h
   ·exact h
   ·have:j=o.length:=by omega
    subst this
    simp at hj
  rw[List.getElem?_append_left hlt] at hj;rw[hg j hlt] at hb;exact hmp j kt es b hj hb
 have hXL:¬Xof g' (y8 o (.kl [])) L:=λ⟨j,x,hj,hd,hb⟩=>a1d hL rfl (h1.obj j x hj) hd hb
 have hXD:¬Xof g' (y8 o (.kl [])) B:=λ⟨j,x,hj,hd,hb⟩=>a1d hD rfl (h1.obj j x hj) hd hb
 refine M6 asg _ _ _ _ _ hA ⟨I,g',h1⟩ hx λe s1 a' W1 hr hk=>?_
 obtain⟨he,hms,hx2⟩:=hk;subst he;obtain⟨I1,g1,h1a⟩:=hr
 have hI1L:∀k,¬I1 L k:=λk hk=>by
  rcases (h1a.lt L k hk).2 hLt with h2|h2
  ·exact hIL k h2
  ·exact hXL h2
 have hI1D:∀k,¬I1 B k:=λk hk=>by
  rcases (h1a.lt B k hk).2 hDt with h2|h2
  ·exact(hI2 k).2 h2
  ·exact hXD h2
 have hmp2:∀j kt es b,s1.o[j]?=some (.mp kt es)->gbl (g1 j) b->b<B:=λj kt es b hj hb=>by
  obtain⟨kt',es',ho⟩:=a3U hms hj;have hlt:=(List.getElem?_eq_some_iff.1 ho).1;obtain⟨b0,l0,c0,e0,_⟩:=h.obj j _ ho;have e1:=hg j hlt;rw[e0] at e1;have e2:=h1a.st j (Nat.lt_succ_of_lt hlt) (by show Q0 (g' j)=true;rw[e1];rfl);have e2:g1 j=g' j:=e2;rw[e2,e1] at hb;exact hmp j kt' es' b ho (by rw[e0];exact hb)
 refine⟨a3T h1.obj hmp1 h1a,h1a.kp,λW2=>∃(Wb:World) (rb r2:Loop),RelI I0 X w0 I g ⟨t,o⟩ a Wb/\Wb.heap[L]?=some (.loop rb)/\W2.heap[L]?=some (.loop r2)/\(B≠L->W2.heap[B]?=some (.deferred dd))/\RelI I (Xof g' (y8 o (.kl []))) ⟨Wb,g',o.length+1,[]⟩ I1 g1 s1 a' W2,?_,?_,?_⟩
 ·rintro W2 r3 r' ⟨Wb,rb,r2,b1,b2,b3,bd,b4⟩ hl
  exact⟨Wb.putObj L (.loop r'),r',r',b1.turned b2 rfl hL0 hIL,World.putObj_heap_same (Array.getElem?_eq_some_iff.1 b2).1,World.putObj_heap_same (Array.getElem?_eq_some_iff.1 b3).1,λhne=>(World.putObj_heap_other hne).trans (bd hne),b4.turnBoth hl rfl b2 hI1L⟩
 ·exact⟨W,r,r,h,hL,(h1a.fr.block L hLt hXL).trans hL,λ_=>(h1a.fr.block B hDt hXD).trans hD,h1a⟩
 ·rintro W2 ⟨Wb,rb,r2,b1,b2,b3,bd,b4⟩
  have hne:B≠L:=λe=>by rw[e,hL] at hD;cases hD
  have bd:=bd hne;obtain⟨g3,hg3,hgn3,h5⟩:=b4.rebase b4.tmp
  have ea:({ tmps:=a'.tmps.toList.toArray,defers:=[] }:Act)=a':=by
   have:=b4.dfr.1;cases a';simp only at this;subst this;rfl
  rw[ea] at h5
  have hmp3:∀j kt es b,(y8 s1.o (.kl []))[j]?=some (.mp kt es)->gbl (g3 j) b->b<B:=λj kt es b hj hb=>by
   rw[Z4] at hj
   have hlt:j<s1.o.length:=by
    have:=(List.getElem?_eq_some_iff.1 hj).1;rw[List.length_append,List.length_singleton] at this
    rcases Nat.lt_or_ge j s1.o.length with h|h
    ·exact h
    ·have:j=s1.o.length:=by omega
     subst this
     simp at hj
   rw[List.getElem?_append_left hlt] at hj;rw[hg3 j hlt] at hb;exact hmp2 j kt es b hj hb
  refine M6 bdy _ _ _ _ _ hB ⟨I1,g3,h5⟩ hx2 λe s2 a3 W3 hr hk=>?_
  obtain⟨he,k1,k2,k3,k4,k5⟩:=hk;subst he;obtain⟨I2,g2,h6⟩:=hr;have hlo:o.length+1<=s1.o.length:=h1a.lo;have k1:=A5 k1 (by simp);have k2:=A5 k2 (by simp);rw[r6] at k1 k2 k3 k4;rw[a6u] at k3;obtain⟨_,h7⟩:=b4.unbase hg3 hgn3 h6 k1;obtain⟨hcut,h8⟩:=b1.unbase hg hgn h7 (ks:=ks2) (by rw[List.getElem?_set_ne (by show s1.o.length≠o.length;omega)];exact k2)
  have e3:((s2.o.set s1.o.length .dead).set o.length .dead).take o.length=o':=by
   rw[List.take_set_of_le (Nat.le_refl _),List.take_set_of_le (by omega),k3]
  have hl2:o.length<s2.o.length:=(List.getElem?_eq_some_iff.1 k2).1;have h9:=h8.trim (n:=o.length) h.lo (by show o.length<=((s2.o.set _ _).set _ _).length;rw[List.length_set,List.length_set];omega) hcut (by show a1P _ (((s2.o.set _ _).set _ _).take _)=true;rw[e3];exact k4);have e4:(⟨A7 ks2 t,((s2.o.set s1.o.length .dead).set o.length .dead).take o.length⟩:S)=⟨t,o'⟩:=by rw[e3,ht]
  have h9':RelI I0 X w0 I2 (a4u o.length g2) ⟨t,o'⟩ a W3:=by rw[<-e4];exact h9
  refine⟨a3T h5.obj hmp3 h6,λb k hb=>h6.kp b k (h1a.im b k hb),I2,a4u o.length g2,h7.im,λk=>?_,h9',λj kt es b hj hb=>?_⟩
  ·constructor
   ·intro hk
    rcases (h6.lt L k hk).2 (Array.getElem?_eq_some_iff.1 b3).1 with h2|⟨j,x,hj,hd,hb⟩
    ·exact hI1L k h2
    ·exact a1d b3 rfl (h5.obj j x hj) hd hb
   ·intro hk
    rcases (h6.lt B k hk).2 (Array.getElem?_eq_some_iff.1 bd).1 with h2|⟨j,x,hj,hd,hb⟩
    ·exact hI1D k h2
    ·exact a1d bd rfl (h5.obj j x hj) hd hb
  ·obtain⟨kt',es',ho⟩:=a3U k5 hj;have hlt:=(List.getElem?_eq_some_iff.1 ho).1;obtain⟨b0,l0,c0,e0,_⟩:=h.obj j _ ho;have e1:=hg j hlt;rw[e0] at e1;have e2:g2 j=g' j:=h7.st j (Nat.lt_succ_of_lt hlt) (by show Q0 (g' j)=true;rw[e1];rfl);rw[show a4u o.length g2 j=g2 j from if_pos hlt,e2,e1] at hb;exact hmp j kt' es' b ho (by rw[e0];exact hb)
end
theorem a7Z {s:S} {k i:Nat} (h:J1 ⟨s.t,s.o.set k .dead⟩ i):J1 s i:=by
 obtain⟨o,ho,hd⟩:=h
 by_cases e:k=i
 ·subst e;rw[List.getElem?_set] at ho
  split at ho
  ·split at ho
   ·exact absurd (Option.some.inj ho).symm hd
   ·cases ho
  ·exact absurd rfl ‹¬_›
 ·exact⟨o,by simpa [List.getElem?_set_ne e] using ho,hd⟩
section
variable {I0:Nat->Nat->Prop} {X:Nat->Prop} {w0:W0} {I:Nat->Nat->Prop} {g:Nat->Value} {s:S} {a:Act} {w:World}
theorem RelI.frzBox (h:RelI I0 X w0 I g s a w) {k:Nat} {cs:List V} (hk:s.o[k]?=some (.box cs)):∃(b:Nat) (us:List Value) (t:TypeId×List Value),g k=.pointer (some ⟨b,0,none⟩)/\w.heap[b]?=some (.cells (us++t.2).toArray t.1 (0,0))/\n6 I w g us cs /\
  RelI I0 X w0 (λb' n=>I b' n\/(b'=b/\n<=us.length)) g ⟨s.t,s.o.set k .dead⟩ a w:=by
 obtain⟨b,us,t,h1,h2,h3,h4,h5,h6⟩:=h.obj k _ hk;have hlk:J1 s k:=⟨_,hk,by simp⟩;have hgk:gbl (g k) b:=by rw[h1];rfl
 have hkp:A1 I w w:=A1.refl I w;refine⟨b,us,t,h1,h2,h3,λb n hb=>.inl (h.im b n hb),λb' n hb=>?_,h.fr,h.kp,by simpa using h.lo,h.st,λj o hj=>?_,λi j b hi hj=>h.dis i j b (a7Z hi) (a7Z hj),λj hj=>h.out j (by simpa using hj),h.tmp.mono (λ_ _ h=>.inl h) hkp,h.dfr⟩
 ·rcases hb with hb|⟨rfl,_⟩
  ·exact h.lt b' n hb
  ·refine⟨(Array.getElem?_eq_some_iff.1 h2).1,λhlt=>.inr ?_⟩
   rcases h6 with hM|hM
   ·omega
   ·exact hM
 ·by_cases hjk:k=j
  ·subst hjk;have hlt:k<s.o.length:=(List.getElem?_eq_some_iff.1 hk).1;simp only[List.getElem?_set_self hlt] at hj;injection hj with hj;subst hj;exact True.intro
  ·simp only[List.getElem?_set_ne hjk] at hj
   by_cases hd:o=.dead
   ·subst hd;exact True.intro
   refine(h.obj j o hj).keep (λ_ _ h=>.inl h) hkp (λ_ _=>rfl) λb' hb n hn=>?_
   rcases hn with hn|⟨rfl,_⟩
   ·exact hn
   ·exact absurd (h.dis k j b' hlk ⟨o,hj,hd⟩ hgk hb) hjk
end
section
variable {I0:Nat->Nat->Prop} {X:Nat->Prop} {w0:W0} {I:Nat->Nat->Prop} {g:Nat->Value} {t:List V} {a:Act} {w:World}
theorem a10.turned {L B:Nat} {o:List O} (h0:w0.w.heap.size<=L):b00 L (a10 I0 X w0 I L B t a o):=by
 rintro W r r' ⟨I',g',h1,h2,h3,h4⟩ hl
 exact⟨I',g',h1,h2,h3.turned hl rfl h0 (λk=>(h2 k).1),h4⟩
theorem b5K {asg bdy:Code} {n:Nat} {g0:Operand} {p1 p2 gf N:Nat} {lb:Array Value} {u1 u2:Nat->Value} {Kp:World->World->Prop} {st:Nat->List O} {tk:Nat->List V} {Q:Exit->Act->World->Prop} {ks1 ks2:List Nat} (hA:y6 Tryz.prog asg=true) (hB:y6 Tryz.prog bdy=true)
  (h:RelI I0 X w0 I g ⟨t,st 0⟩ a w) (h1:1<=n) (hg:a.eval g0=.func (.func gf) #[] lb) (eg:∀args w,(callFunc gf args).run Tryz.prog w=.ok (.enter gf args) w)
  (hseq:b7x (FW none) (n - 1) Tryz.prog gf lb (λk=>#[u1 k,u2 k]) Kp N w) (hKt:∀ {A B C:World},Kp A B->Kp B C->Kp A C) (hKb:∀(W:World) (l:Nat) (o o':Obj),w.heap.size<=l->W.heap[l]?=some o->o.isCells=false->o.isWalk=false->Kp W (W.putObj l o')) (hKp:∀W W',A1 I W W'->Kp W W')
  (hv:∀k W I' g',k<N->(∀b j,I b j->I' b j)->A1 I w W->n6 I' W g' a.tmps.toList t->n6 I' W g' ((a.tmps.setIfInBounds p1 (u1 k)).setIfInBounds p2 (u2 k)).toList (tk k))
  (ht:A7 ks2 t=t) (hx:∀k,k<N->b5I ks1 ks2 asg bdy (tk k) (st k) (st (k+1)))
  (hQ:∀(D:Nat) (W:World),D=w.heap.size->a10 I0 X w0 I (w.heap.size+1) w.heap.size t a (st N) W->W.heap[D]?=some (.deferred (some []))->Q .normal { a with defers:={ target:=.collected D,args:=#[] }::a.defers } W) :
  (Code.rangeFunc g0 #[p1,p2] asg bdy).wpIn (FW none) n Tryz.prog Q a w:=by
 obtain⟨L,hL⟩:∃L,L=w.heap.size+1:=⟨_,rfl⟩;have hL0:w0.w.heap.size<=L:=by have:=h.fr.size;omega
 have hIL:∀k,¬I L k/\¬I w.heap.size k:=λk=>⟨λhk=>by have:=(h.lt L k hk).1;omega,λhk=>by have:=(h.lt _ k hk).1;omega⟩
 have hIL1:∀k,¬I L k:=λk=>(hIL k).1
 refine b7y (F:=FW none) rfl h1 hg trivial eg hseq hKt hKb (λ_=>rfl) (λk W=>a10 I0 X w0 I L w.heap.size t a (st k) W/\A1 I w W) (λ_ _=>False) (λk W r r' hw hl=>?_) (λ_ _ _ _ hw _=>hw) (λr=>?_) (λl k W hk hw hl=>?_) (λD W hD hw hd=>?_) (λ_ _ _ _ hw _=>hw.elim)
 ·rw[<-hL] at hl ⊢;exact⟨a10.turned hL0 W r r' hw.1 hl,hw.2.trans (Y3 hIL1)⟩
 ·have hbel:Below w.heap.size w ((w.alloc (.deferred (some []))).alloc (.loop r)):=((Below.refl _ w).alloc (Nat.le_refl _) _).alloc (by simp) _;refine⟨⟨I,g,λ_ _ h=>h,hIL,h.grow hbel (λ_ _ h=>h) (λ_ _ h=>.inl h),λj kt es b hj hb=>((h.obj j _ hj).blk (by simp) b hb).1⟩,λb j hb i _=>hbel.cell (p:=⟨b,i,none⟩) (h.lt b j hb).1⟩
 ·obtain⟨⟨I',g',h2,h3,h4,h5⟩,hk2⟩:=hw;obtain⟨⟨r,hl⟩,hdd⟩:=hl;rw[<-hL] at hl;have key:=b5J (ro:=some l) (n:=n - 1 - 1) hA hB h4 hl hdd hL0 h3 h5 (hv k W I' g' hk h2 hk2 h4.tmp) ht (hx k hk);have ez:(#[p1,p2].zip #[u1 k,u2 k]).foldl (λt (x:Tmp×Value)=>match x with|(p,v)=>t.setIfInBounds p v) a.tmps=(a.tmps.setIfInBounds p1 (u1 k)).setIfInBounds p2 (u2 k):=by simp
  rw[Array.toArray_toList,<-ez] at key;refine wpIn_mono key λe a' W1 he=>?_
  cases e with
  | normal =>
   obtain⟨e1,e2,R,e3,e4,e5⟩:=he;have hkI:∀ {A B:World},A1 I' A B->A1 I A B:=λh b j hb=>h b j (h2 b j hb)
   refine⟨e1,hKp _ _ (hkI e2),λW2=>R W2/\A1 I w W2,?_,⟨e4,hk2.trans (hkI e2)⟩,?_⟩
   ·rintro W2 r1 r2 ⟨f1,f2⟩ hl2
    rw[<-hL] at hl2 ⊢;exact⟨e3 W2 r1 r2 f1 hl2,f2.trans (Y3 hIL1)⟩
   ·rintro W2 ⟨f1,f2⟩
    refine wpIn_mono (e5 W2 f1) λe a3 W3 he=>?_
    cases e with
    | normal =>
     obtain⟨q1,q2,I2,g2,q3,q4,q5,q6⟩:=he;exact⟨q1,hKp _ _ (hkI q2),⟨I2,g2,λb j hb=>q3 b j (h2 b j hb),q4,q5,q6⟩,f2.trans (hkI q2)⟩
    | ret=>exact he
    | exit i=>exact he
    | goto t=>exact he
    | panic c=>exact he
    | outgrown=>exact he
  | ret=>exact he.elim
  | exit i=>exact he.elim
  | goto t=>exact he.elim
  | panic c=>exact he.elim
  | outgrown=>exact he.elim
 ·rw[hL] at hw;exact hQ D W hD hw.1 hd
theorem b5L {asg bdy:Code} {n:Nat} {g0:Operand} {p1 p2 gf N:Nat} {lb:Array Value} {u1 u2:Nat->Value} {Kp:World->World->Prop} {st:Nat->List O} {tk:Nat->List V} {Q:Exit->Act->World->Prop} (hA:y6 Tryz.prog asg=true) (hB:y6 Tryz.prog bdy=true)
  (h:RelI I0 X w0 I g ⟨t,st 0⟩ a w) (h1:1<=n) (hg:a.eval g0=.func (.func gf) #[] lb) (eg:∀args w,(callFunc gf args).run Tryz.prog w=.ok (.enter gf args) w)
  (hseq:b7x (FW none) (n - 1) Tryz.prog gf lb (λk=>#[u1 k,u2 k]) Kp N w) (hKt:∀ {A B C:World},Kp A B->Kp B C->Kp A C) (hKb:∀(W:World) (l:Nat) (o o':Obj),w.heap.size<=l->W.heap[l]?=some o->o.isCells=false->o.isWalk=false->Kp W (W.putObj l o')) (hKp:∀W W',A1 I W W'->Kp W W')
  (hv:∀k W I' g',k<N->(∀b j,I b j->I' b j)->A1 I w W->n6 I' W g' a.tmps.toList t->n6 I' W g' ((a.tmps.setIfInBounds p1 (u1 k)).setIfInBounds p2 (u2 k)).toList (tk k))
  (hx:∀k,k<N->b9z asg bdy (tk k) (st k) (st (k+1)))
  (hQ:∀(D:Nat) (W:World),D=w.heap.size->a10 I0 X w0 I (w.heap.size+1) w.heap.size t a (st N) W->W.heap[D]?=some (.deferred (some []))->Q .normal { a with defers:={ target:=.collected D,args:=#[] }::a.defers } W) :
  (Code.rangeFunc g0 #[p1,p2] asg bdy).wpIn (FW none) n Tryz.prog Q a w :=
 b5K (ks1:=[]) (ks2:=[]) hA hB h h1 hg eg hseq hKt hKb hKp hv rfl hx hQ
end
section
variable {I0:Nat->Nat->Prop} {X:Nat->Prop} {w0:W0} {I:Nat->Nat->Prop} {g:Nat->Value} {s:S} {a:Act} {w:World}
theorem RelI.mark (h:RelI I0 X w0 I g s a w) (d:List Deferred):RelI I0 X ⟨w0.w,w0.g,w0.n,d⟩ I g s { a with defers:=d } w :=
 ⟨h.im,h.lt,h.fr,h.kp,h.lo,h.st,h.obj,h.dis,h.out,h.tmp,rfl,h.dfr.2⟩
end
def c0R (l:List ResultVar) (q:List R) (m:Nat):Vm.X->S->Prop
 | .exit _,_=>False
 | _,s=>y5 s.o m=.kl []/\a8B j1 s l q
theorem b3N {c2:Code} {n D:Nat} {fn:Func} {q:List R} {w:World} {I IN:Nat->Nat->Prop} {gN:Nat->Value} {t:List V} {oN:List O} {a:Act} {W:World} (hc:y6 Tryz.prog c2=true) (hr:Q8 fn.results.toList=true)
  (h:RelI I (λ_=>False) ⟨w,λ_=>.nilFunc,0,[]⟩ IN gN ⟨t,oN⟩ a W) (hID:∀k,¬IN D k) (hD0:w.heap.size<=D) (hD:W.heap[D]?=some (.deferred (some [])))
  (hx:B7 j1 c2 ⟨t,y8 oN (.kl [])⟩ (λx s=>c0R fn.results.toList q (o7 oN) x s)) :
  c2.wpIn (FW none) n Tryz.prog (bodyPostM (FW none) n Tryz.prog fn (λe w'=>∃v,e=.returned v/\a2H (nxt I w w') w' v q/\Below w.heap.size w w')) { a with defers:={ target:=.collected D,args:=#[] }::a.defers } W:=by
 obtain⟨g',hg,hgn,h1⟩:=h.rebase h.tmp;have hDt:D<W.heap.size:=(Array.getElem?_eq_some_iff.1 hD).1;have hXD:¬Xof g' (y8 oN (.kl [])) D:=λ⟨j,x,hj,hd,hb⟩=>a1d hD rfl (h1.obj j x hj) hd hb
 have h2:=h1.mark [{ target:=.collected D,args:=#[] }]
 have ea:({ ({ tmps:=a.tmps.toList.toArray,defers:=[] }:Act) with defers:=[{ target:=.collected D,args:=#[] }] }:Act)={ a with defers:={ target:=.collected D,args:=#[] }::a.defers }:=by
  have:=h.dfr.1;cases a;simp only at this;subst this;rfl
 rw[ea] at h2;refine M6 c2 _ _ _ _ _ hc ⟨IN,g',h2⟩ hx λe s2 a2 W2 hrel hk=>?_
 obtain⟨I2,g2,h3⟩:=hrel;have hD2:W2.heap[D]?=some (.deferred (some [])):=(h3.fr.block D hDt hXD).trans hD
 have hI2D:∀k,¬I2 D k:=λk hk=>by
  rcases (h3.lt D k hk).2 hDt with h4|h4
  ·exact hID k h4
  ·exact hXD h4
 have key:y5 s2.o (o7 oN)=.kl []/\a8B j1 s2 fn.results.toList q->LeavesInM (FW none) n Tryz.prog fn a2.tmps (λe w'=>∃v,e=.returned v/\a2H (nxt I w w') w' v q/\Below w.heap.size w w') a2.defers .returning W2:=λ⟨hkl,hres⟩=>by
  rw[h3.dfr.1];have h4:=h3.turnBoth (y':=.deferred none) hD2 rfl hD hI2D;have h5:=h.turned (y':=.deferred none) hD rfl hD0 hID;have h6:=h4.mark [];have hkl:=A5 hkl (by simp);rw[r6] at hkl;obtain⟨_,h7⟩:=h5.unbase hg hgn h6 hkl;obtain⟨v,r1,r2⟩:=a6s h4 hr hres;refine⟨by simp,.inl ⟨_,_,rfl,run_takeDeferred hD2,?_⟩⟩;refine⟨v,r1,v,rfl,?_,⟨h7.fr.os,h7.fr.tape,h7.fr.output,h7.fr.size,λb hb=>h7.fr.block b hb (λhx=>hx)⟩⟩
  have hnx:∀b k,I2 b k->nxt I w _ b k:=λb k hbk=>by
   obtain⟨h3,h4⟩:=h7.lt b k hbk
   rcases Nat.lt_or_ge b w.heap.size with hlt|hge
   ·exact .inl ((h4 hlt).resolve_right (λhx=>hx))
   ·exact .inr ⟨hge,h3⟩
  match q,r2 with
  | [],⟨us,e,hu⟩=>exact⟨us,e,hu.mono hnx (A1.refl _ _)⟩
  | [r],hu=>exact AtR.mono hnx (A1.refl _ _) hu
  | r::r'::q,⟨us,e,hu⟩=>exact⟨us,e,hu.mono hnx (A1.refl _ _)⟩
 cases e with
 | normal=>exact key hk
 | exit i=>exact hk.elim
 | ret=>exact key hk
theorem b1I {f:Nat} {fn:Func} {c0 c1 cp c2 asg bdy:Code} {bi:Nat} {g0:Operand} {ps:Array Tmp} {rs q:List R} {Pre:S->Prop} (hf:Tryz.prog.funcs[f]?=some fn)
  (hb:fn.body=some (.seq c0 (.seq c1 (.seq (.seq cp (.block bi (.rangeFunc g0 ps asg bdy))) c2)))) (hn:(fn.name != "runtime.NumGoroutine")=true) (h0:y6 Tryz.prog c0=true) (h1:y6 Tryz.prog c1=true) (hp:y6 Tryz.prog cp=true)
  (hpre:B7 j1 (.seq c0 (.seq c1 cp)) (a2N rs (fn.ntmps - G5 rs)) (λx s=>x=.normal/\Pre s))
  (hmid:∀(I I':Nat->Nat->Prop) (g:Nat->Value) (w W:World) (s:S) (a:Act),Pre s->RelI I (λ_=>False) ⟨w,λ_=>.nilFunc,0,[]⟩ I' g s a W ->
   (Code.rangeFunc g0 ps asg bdy).wpIn (FW none) 3 Tryz.prog (Exit.inBlock bi (Exit.then (c2.wpIn (FW none) 3 Tryz.prog (bodyPostM (FW none) 3 Tryz.prog fn (λe w'=>∃v,e=.returned v/\a2H (nxt I w w') w' v q/\Below w.heap.size w w')))
    (bodyPostM (FW none) 3 Tryz.prog fn (λe w'=>∃v,e=.returned v/\a2H (nxt I w w') w' v q/\Below w.heap.size w w')))) a W):j5 f rs q:=by
 refine⟨by unfold a0T;rw[hf];simp only[hn,hb];rfl,?_⟩;intro I w args hI hat;have hlen:=hat.len;have hsz:args.toArray.size=G5 rs:=by rw[J2];simp[hlen]
 refine callsIn_wide.1 (callsIn_of_wp_marks (n:=3) hf hb trivial ?_);rw[hsz];have hst:=a9G hI hat (fn.ntmps - G5 rs);refine wpIn_seq (M6 (ro:=none) c0 _ _ _ _ _ h0 ⟨I,_,hst⟩ hpre λe s1 a1 W1 hr1 hk1=>?_);cases e with
 | normal =>
  obtain⟨F1,hg1,hk1⟩:=hk1;obtain⟨z1,hf1,hr1'⟩:=hg1 _ _ _ _ _ hr1;refine wpIn_seq (M6 (ro:=none) c1 _ _ _ _ _ h1 hr1' (hk1 z1 hf1) λe s2 a2 W2 hr2 hk2=>?_);cases e with
  | normal =>
   obtain⟨F2,hg2,hk2⟩:=hk2;obtain⟨z2,hf2,hr2'⟩:=hg2 _ _ _ _ _ hr2;refine wpIn_seq (wpIn_seq (M6 (ro:=none) cp _ _ _ _ _ hp hr2' (hk2 z2 hf2) λe s3 a3 W3 hr3 hk3=>?_));obtain⟨he,hP⟩:=hk3;subst he;obtain⟨I',g',h3⟩:=hr3;exact wpIn_block (hmid I I' g' w W3 s3 a3 hP h3)
  | exit i=>exact absurd hk2.1 (by simp)
  | ret=>exact absurd hk2.1 (by simp)
 | exit i=>exact absurd hk1.1 (by simp)
 | ret=>exact absurd hk1.1 (by simp)
end
section
def a04:Code->Code
 | .seq c _=>c
 | c=>c
def J6:Code->Code
 | .seq _ c=>c
 | c=>c
def jT (rows:List (List D)) (d0 d1 d2 d3:D):List V:=[.d (.sl 5 rows),.ag [.d d0,.d d1,.d d2,.d d3],.tu [],.ptr 0 0,.ptr 1 0,.ptr 2 0,.tu [],.tu [],.ag [.d d0,.d d1,.d d2,.d d3],.ag [.d d0,.d d1,.d d2,.d d3],.d (.sl 5 rows),
 .cl 114 [4],.tu [],.tu [],.tu [],.tu [],.tu [],.tu [],.tu [],.tu [],.tu [],.tu [],.tu []]
def jO (d0 d1 d2 d3:D) (acc:List V) (b:O):List O:=[.box [.d d0,.d d1,.d d2,.d d3],.box [.d (.sc (.int .u8 0)),.d (.sc (.string ⟨#[]⟩)),.d (.sc (.int .i64 0)),.em],.box acc,.dead,b]
set_option maxRecDepth 100000
set_option maxHeartbeats 4000000
theorem b5M (rows:List (List D)) (d0 d1 d2 d3:D) (hcp:j5 108 [.ag [d0,d1,d2,d3]] [.ag [d0,d1,d2,d3]]) (P:S->Prop) (hP:P ⟨jT rows d0 d1 d2 d3,jO d0 d1 d2 d3 [.d d0,.d d1,.d d2,.d d3] (.box [.d (.sl 5 rows)])⟩):∀qa qb qc qd qe qf qg qh qi qj qk ql qm qo qp qq qt qu qv qw qx qy qz va vc vd ve vf vg vh vj vk vl vm vn vo vp vq vr vt vu vv vw,Ar.mk qa qb qc qd qe qf qg qh qi qj qk ql qm qo qp qq qt qu qv qw qx qy qz va vc vd ve vf vg vh vj vk vl vm vn vo vp vq vr vt vu vv vw=j1->B7 (Ar.mk qa qb qc qd qe qf qg qh qi qj qk ql qm qo qp qq qt qu qv qw qx qy qz va vc vd ve vf vg vh vj vk vl vm vn vo vp vq vr vt vu vv vw) (.seq (a04 (Tryz.f101.body.getD .skip)) (.seq (a04 (J6 (Tryz.f101.body.getD .skip))) (a04 (a04 (J6 (J6 (Tryz.f101.body.getD .skip)))))))
  (a2N [.one (.sl 5 rows),.ag [d0,d1,d2,d3]] (Tryz.f101.ntmps - G5 [R.one (.sl 5 rows),.ag [d0,d1,d2,d3]])) (λx s=>x=.normal/\P s):=by
 intro _ _ _ _ _ _ _ _ _ _ _ _ _ _ _ _ _ _ _ _ _ _ _ _ _ _ _ _ _ _ _ _ _ _ _ _ _ _ _ _ _ vv _ hA;cbv
 repeat ((with_reducible apply j2 hA);cbv)
 refine j3 hA _ hcp ?_ ?_
 ·rfl
 cbv
 repeat ((with_reducible apply j2 hA);cbv)
 refine b8Q hA Tryz.func109 rfl (by kernel_rfl) (by kernel_rfl) (by kernel_rfl) ?_;cbv
 repeat ((with_reducible apply j2 hA);cbv)
 exact hP
def b1J:Code->Code
 | .block _ (.rangeFunc _ _ a _)=>a
 | c=>c
def b1K:Code->Code
 | .block _ (.rangeFunc _ _ _ b)=>b
 | c=>c
theorem b1L (rows:List (List D)) (d0 d1 d2 d3 a0 a1 a2 a3 nm c0 c1 c2 c3:D) (i:Int) (hcp:j5 108 [.ag [c0,c1,c2,c3]] [.ag [c0,c1,c2,c3]]):∀qa qb qc qd qe qf qg qh qi qj qk ql qm qo qp qq qt qu qv qw qx qy qz va vc vd ve vf vg vh vj vk vl vm vn vo vp vq vr vt vu vv vw,Ar.mk qa qb qc qd qe qf qg qh qi qj qk ql qm qo qp qq qt qu qv qw qx qy qz va vc vd ve vf vg vh vj vk vl vm vn vo vp vq vr vt vu vv vw=j1 ->
  B7 (Ar.mk qa qb qc qd qe qf qg qh qi qj qk ql qm qo qp qq qt qu qv qw qx qy qz va vc vd ve vf vg vh vj vk vl vm vn vo vp vq vr vt vu vv vw) (b1J (J6 (a04 (J6 (J6 (Tryz.f101.body.getD .skip)))))) ⟨I4 (I4 (jT rows d0 d1 d2 d3) 12 (vi .i64 i)) 13 (.ag [.d nm,.d c0,.d c1,.d c2,.d c3]),y8 (jO d0 d1 d2 d3 [.d a0,.d a1,.d a2,.d a3] .dead) (.kl [])⟩
   (λx s1=>x=.normal/\a18 (jO d0 d1 d2 d3 [.d a0,.d a1,.d a2,.d a3] .dead) s1.o=true/\B7 (Ar.mk qa qb qc qd qe qf qg qh qi qj qk ql qm qo qp qq qt qu qv qw qx qy qz va vc vd ve vf vg vh vj vk vl vm vn vo vp vq vr vt vu vv vw) (b1K (J6 (a04 (J6 (J6 (Tryz.f101.body.getD .skip)))))) ⟨s1.t,y8 s1.o (.kl [])⟩ (λx s2=>x=.normal /\
    b5H 5 (jO d0 d1 d2 d3 [.d a0,.d a1,.d a2,.d a3] .dead) (jO d0 d1 d2 d3 [.d (.sc (.int .u8 11)),.d nm,.d (.sc (.int .i64 0)),.d (.sl 4 [[c0,c1,c2,c3],[a0,a1,a2,a3]])] .dead) (o7 s1.o) s2)):=by
 intro _ _ _ _ _ _ _ _ _ _ _ _ _ _ _ _ _ _ _ _ _ _ _ _ _ _ _ _ _ _ _ _ _ _ _ _ _ _ _ _ _ vv _ hA;cbv
 repeat ((with_reducible apply j2 hA);cbv)
 refine j4 hA _ hcp ?_;cbv
 repeat ((with_reducible first|apply j2 hA|apply y7 hA true);cbv)
 exact⟨rfl,trivial⟩
def a3V:List (List D)->List D->List D
 | [],tl=>tl
 | r::rows,tl=>[.sc (.int .u8 11),r.headD (.sl 0 []),.sc (.int .i64 0),.sl 4 [r.tail,a3V rows tl]]
theorem a6Q (rows:List (List D)) (d0 d1 d2 d3:D):∃a0 a1 a2 a3,a3V rows [d0,d1,d2,d3]=[a0,a1,a2,a3]:=by
 cases rows <;> exact⟨_,_,_,_,rfl⟩
def a7k (rows:List (List D)) (tl:List D) (k:Nat):List D:=a3V (rows.drop (rows.length - k)) tl
theorem b3O {rows:List (List D)} {tl r:List D} {k:Nat} (hk:k<rows.length) (hr:rows[rows.length - 1 - k]?=some r):a7k rows tl (k+1)=a3V (r::rows.drop (rows.length - k)) tl:=by
 have h1:rows.length - (k+1)<rows.length:=by omega
 have h2:=List.drop_eq_getElem_cons h1;have e1:rows.length - 1 - k=rows.length - (k+1):=by omega
 rw[e1,List.getElem?_eq_getElem h1] at hr;rw[a7k,h2,Option.some.inj hr,show rows.length - (k+1)+1=rows.length - k by omega]
theorem b1M {W:World} {b:Nat} {us:Array Value} {t:TypeId} {m:Nat×Nat} {i:Nat} (h:W.heap[b]?=some (.cells us t m)):W.cell? ⟨b,i,none⟩=us[i]?:=by
 show (match W.heap[b]? with|some (.cells c _ _)=>c[i]?|_=>none)=_;rw[h]
theorem b5N (rows:List (List D)) (d0 d1 d2 d3 a0 a1 a2 a3:D):∀qa qb qc qd qe qf qg qh qi qj qk ql qm qo qp qq qt qu qv qw qx qy qz va vc vd ve vf vg vh vj vk vl vm vn vo vp vq vr vt vu vv vw,Ar.mk qa qb qc qd qe qf qg qh qi qj qk ql qm qo qp qq qt qu qv qw qx qy qz va vc vd ve vf vg vh vj vk vl vm vn vo vp vq vr vt vu vv vw=j1->B7 (Ar.mk qa qb qc qd qe qf qg qh qi qj qk ql qm qo qp qq qt qu qv qw qx qy qz va vc vd ve vf vg vh vj vk vl vm vn vo vp vq vr vt vu vv vw) (J6 (J6 (J6 (Tryz.f101.body.getD .skip)))) ⟨jT rows d0 d1 d2 d3,y8 (jO d0 d1 d2 d3 [.d a0,.d a1,.d a2,.d a3] .dead) (.kl [])⟩
  (λx s=>c0R Tryz.f101.results.toList [.ag [a0,a1,a2,a3]] 5 x s):=by
 intro _ _ _ _ _ _ _ _ _ _ _ _ _ _ _ _ _ _ _ _ _ _ _ _ _ _ _ _ _ _ _ _ _ _ _ _ _ _ _ _ _ vv _ hA;cbv
 repeat ((with_reducible apply j2 hA);cbv)
end
theorem b70:Tryz.f101.body=some (.seq (a04 (Tryz.f101.body.getD .skip)) (.seq (a04 (J6 (Tryz.f101.body.getD .skip))) (.seq (.seq (a04 (a04 (J6 (J6 (Tryz.f101.body.getD .skip))))) (.block 0 (.rangeFunc (.tmp 11) #[12,13] (b1J (J6 (a04 (J6 (J6 (Tryz.f101.body.getD .skip)))))) (b1K (J6 (a04 (J6 (J6 (Tryz.f101.body.getD .skip))))))))) (J6 (J6 (J6 (Tryz.f101.body.getD .skip))))))):=by kernel_rfl
theorem b71:(Tryz.f101.name != "runtime.NumGoroutine")=true:=by kernel_rfl
theorem b72:y6 Tryz.prog (a04 (Tryz.f101.body.getD .skip))=true:=by kernel_rfl
theorem b73:y6 Tryz.prog (a04 (J6 (Tryz.f101.body.getD .skip)))=true:=by kernel_rfl
theorem b74:y6 Tryz.prog (a04 (a04 (J6 (J6 (Tryz.f101.body.getD .skip)))))=true:=by kernel_rfl
theorem b75:y6 Tryz.prog (J6 (J6 (J6 (Tryz.f101.body.getD .skip))))=true:=by kernel_rfl
theorem b76:Q8 Tryz.f101.results.toList=true:=by kernel_rfl
theorem b77:y6 Tryz.prog (b1J (J6 (a04 (J6 (J6 (Tryz.f101.body.getD .skip))))))=true:=by kernel_rfl
theorem b78:y6 Tryz.prog (b1K (J6 (a04 (J6 (J6 (Tryz.f101.body.getD .skip))))))=true:=by kernel_rfl
theorem b3P (rows:List (List D)) (d0 d1 d2 d3:D) (hcp:j5 108 [.ag [d0,d1,d2,d3]] [.ag [d0,d1,d2,d3]]) (P:S->Prop) (hP:P ⟨jT rows d0 d1 d2 d3,jO d0 d1 d2 d3 [.d d0,.d d1,.d d2,.d d3] (.box [.d (.sl 5 rows)])⟩) :
  B7 j1 (.seq (a04 (Tryz.f101.body.getD .skip)) (.seq (a04 (J6 (Tryz.f101.body.getD .skip))) (a04 (a04 (J6 (J6 (Tryz.f101.body.getD .skip))))))) (a2N [.one (.sl 5 rows),.ag [d0,d1,d2,d3]] (Tryz.f101.ntmps - G5 [R.one (.sl 5 rows),.ag [d0,d1,d2,d3]])) (λx s=>x=.normal/\P s) :=
 b5M rows d0 d1 d2 d3 hcp P hP _ _ _ _ _ _ _ _ _ _ _ _ _ _ _ _ _ _ _ _ _ _ _ _ _ _ _ _ _ _ _ _ _ _ _ _ _ _ _ _ _ _ _ rfl
theorem b90 (rows:List (List D)) (d0 d1 d2 d3:D) (hlen:rows.length * 80<=140737488351232) (htl:j5 108 [.ag [d0,d1,d2,d3]] [.ag [d0,d1,d2,d3]]) (hrows:∀r∈rows,∃nm c0 c1 c2 c3,r=[nm,c0,c1,c2,c3]/\j5 108 [.ag [c0,c1,c2,c3]] [.ag [c0,c1,c2,c3]]) :
  j5 101 [.one (.sl 5 rows),.ag [d0,d1,d2,d3]] [.ag (a3V rows [d0,d1,d2,d3])]:=by
 refine b1I (Pre:=λs=>s=⟨jT rows d0 d1 d2 d3,jO d0 d1 d2 d3 [.d d0,.d d1,.d d2,.d d3] (.box [.d (.sl 5 rows)])⟩) Tryz.func101 b70 b71 b72 b73 b74 ?_ ?_
 ·exact b3P rows d0 d1 d2 d3 htl _ rfl
 intro I I' g w W s a hs h;subst hs;obtain⟨b,us,ty,h1,h2,h3,h4⟩:=h.frzBox (k:=4) rfl;obtain⟨v,us',rfl,hv,hn⟩:=h3.uncons;obtain rfl:=hn.unnil;have hvD:AtD I' W v (.sl 5 rows):=by cases hv with|d h=>exact h
 have hBs:W.cell? ⟨b,0,none⟩=some v:=b1M h2;have hbl:b<W.heap.size:=(Array.getElem?_eq_some_iff.1 h2).1;obtain⟨bb,off,vs,hl,hup,hds,hr5,hseq⟩:=b3M (λb k hb=>(h.lt b k hb).1) hvD hbl hBs hlen
 have hcl:a.eval (.tmp 11)=.func (.func 114) #[] #[.pointer (some ⟨b,0,none⟩)]:=by
  have h5:=h4.get (.tmp 11);have h5:AtV _ W g (a.eval (.tmp 11)) (.cl 114 [4]):=h5;generalize a.eval (.tmp 11)=ax at h5 ⊢;cases h5 with
  | cl f us ks hl hh =>
   match us,hl with
   | [u],_=>rw[(hh 0 u 4 rfl rfl).1,h1]
 have hst0:RelI I (λ_=>False) ⟨w,λ_=>.nilFunc,0,[]⟩ (λb' n=>I' b' n\/(b'=b/\n<=1)) g ⟨jT rows d0 d1 d2 d3,jO d0 d1 d2 d3 (ofD (a7k rows [d0,d1,d2,d3] 0)) .dead⟩ a W:=by
  have e:a7k rows [d0,d1,d2,d3] 0=[d0,d1,d2,d3]:=by rw[a7k,List.drop_eq_nil_of_le (by omega)];rfl
  rw[e];exact h4
 refine b5L (t:=jT rows d0 d1 d2 d3) (p1:=12) (p2:=13) (gf:=114) (N:=rows.length) (lb:=#[.pointer (some ⟨b,0,none⟩)])
  (u1:=λk=>.int .i64 ((rows.length - 1 - k:Nat):Int)) (u2:=λk=>.agg (((vs.drop ((rows.length - 1 - k) * 5)).take 5).toArray)) (Kp:=KpB b bb off (rows.length * 5)) (st:=λk=>jO d0 d1 d2 d3 (ofD (a7k rows [d0,d1,d2,d3] k)) .dead)
  (tk:=λk=>I4 (I4 (jT rows d0 d1 d2 d3) 12 (vi .i64 ((rows.length - 1 - k:Nat):Int))) 13 (.ag (ofD (rows.getD (rows.length - 1 - k) []))))
  b77 b78 hst0 (by decide) hcl (enters_of Tryz.func114 (by kernel_rfl) rfl) (hseq (FW none) 2 trivial rfl (by decide)) KpB.trans (λW l o o' _ hl ho _=>KpB.turn W l o o' hl ho) ?_ ?_ ?_ ?_
 ·intro W1 W2 hk;refine⟨λv hv=>?_,λi hi v hv=>?_⟩
  ·rw[hk b 1 (.inr ⟨rfl,Nat.le_refl _⟩) 0 (by decide)];exact hv
  ·obtain⟨n,hn1,hn2⟩:=hup (λe=>by rw[e] at hi;simp at hi);rw[hk bb n (.inl hn2) (off+i) (by omega)];exact hv
 ·intro k W1 I1 g1 hk hI1 hk1 hvs;have hlt:rows.length - 1 - k<rows.length:=by omega
  have e1:∀(ts:Array Value) (i:Nat) (u:Value),(ts.setIfInBounds i u).toList=ts.toList.set i u:=λts i u=>by simp
  rw[e1,e1,a07,a07];refine(hvs.set (.d (.sc _ rfl)) 12).set (a0F ?_) 13;refine A8.toV g1 ?_;have h5:=(hds.drop ((rows.length - 1 - k) * 5)).take 5
  have e2:(rows.flatten.drop ((rows.length - 1 - k) * 5)).take 5=rows.getD (rows.length - 1 - k) []:=by
   have hg:rows[rows.length - 1 - k]?=some (rows.getD (rows.length - 1 - k) []):=by rw[List.getD_eq_getElem?_getD,List.getElem?_eq_getElem hlt];rfl
   apply List.ext_getElem?
   intro i;rw[List.getElem?_take];have h6:(rows.getD (rows.length - 1 - k) []).length=5:=hr5 _ (List.mem_of_getElem? hg)
   split
   ·rename_i hi;rw[List.getElem?_drop,Z2 hr5 hg hi]
   ·rename_i hi;rw[List.getElem?_eq_none (by omega)]
  rw[e2] at h5;exact h5.mono (λb j hb=>hI1 b j (.inl hb)) (λb j hb=>hk1 b j (.inl hb))
 ·intro k hk;have hlt:rows.length - 1 - k<rows.length:=by omega
  have hg:rows[rows.length - 1 - k]?=some (rows.getD (rows.length - 1 - k) []):=by rw[List.getD_eq_getElem?_getD,List.getElem?_eq_getElem hlt];rfl
  have ea:=b3O (tl:=[d0,d1,d2,d3]) hk hg;obtain⟨nm,c0,c1,c2,c3,er,hsp⟩:=hrows _ (List.mem_of_getElem? hg);obtain⟨a0,a1,a2,a3,e4⟩:=a6Q (rows.drop (rows.length - k)) d0 d1 d2 d3;have e5:a7k rows [d0,d1,d2,d3] k=[a0,a1,a2,a3]:=e4;have e6:a7k rows [d0,d1,d2,d3] (k+1)=[.sc (.int .u8 11),nm,.sc (.int .i64 0),.sl 4 [[c0,c1,c2,c3],[a0,a1,a2,a3]]]:=by rw[ea,er];show [_,_,_,D.sl 4 [_,a3V _ _]]=_;rw[e4];rfl
  try dsimp only
  rw[e5,e6,er];exact b1L rows d0 d1 d2 d3 a0 a1 a2 a3 nm c0 c1 c2 c3 _ hsp _ _ _ _ _ _ _ _ _ _ _ _ _ _ _ _ _ _ _ _ _ _ _ _ _ _ _ _ _ _ _ _ _ _ _ _ _ _ _ _ _ _ _ rfl
 ·rintro D W1 hD ⟨I1,g1,q1,q2,q3,q4⟩ hd
  obtain⟨a0,a1,a2,a3,e4⟩:=a6Q rows d0 d1 d2 d3;have e5:a7k rows [d0,d1,d2,d3] rows.length=[a0,a1,a2,a3]:=by rw[a7k,Nat.sub_self];exact e4
  rw[e4]
  try dsimp only at q3
  rw[e5] at q3;have hID:∀k,¬I1 D k:=λk=>by rw[hD];exact(q2 k).2
  have hD0:w.heap.size<=D:=by rw[hD];exact h.fr.size
  refine b3N b75 b76 q3 hID hD0 hd ?_;exact b5N rows d0 d1 d2 d3 a0 a1 a2 a3 _ _ _ _ _ _ _ _ _ _ _ _ _ _ _ _ _ _ _ _ _ _ _ _ _ _ _ _ _ _ _ _ _ _ _ _ _ _ _ _ _ _ _ rfl
theorem b03 (tl:Ty):∀fs:List (ByteArray×Ty),a3V (rF fs) (cT tl)=cT (a0c fs tl)
 | []=>rfl
 | f::fs=>by
  rw[a1y,cT];have ih:=b03 tl fs;show a3V ((.sc (.string f.1)::cT f.2)::rF fs) (cT tl)=_;rw[a3V,ih];rfl
theorem b04:∀(m:Nat) (t:Ty),t.parts.length<=m->m<=1048576->(∀x∈t.parts,G4 x)->j5 88 [.ag (cT t)] [.ag (cT (j7 t))]:=by
 intro m
 induction m with
 | zero=>intro t h;have:=v6 t;omega
 | succ m ih =>
  intro t hm hm2 hsp;have hself:t∈t.parts:=by rw[A3];exact List.mem_cons_self ..
  have hkl:=A4 t;obtain⟨op,nm,n,ks⟩:=t;generalize ht:Ty.mk op nm n ks=t at *;have hc:cT t=[.sc (.int .u8 op),.sc (.string nm),.sc (.int .i64 n),.sl 4 (rT ks)]:=by rw[<-ht,cT]
  have hks:t.kids=ks:=by rw[<-ht];rfl
  rw[hks] at hkl
  by_cases hop:op=11
  ·have hF:=b9x t (hsp t hself) (by omega);have hcr:=M9 (t:=t) (by rw[<-ht];exact hop)
   have hfs:∀f∈j9 C4 (l5 t),f.2.parts.length<=m/\H0 f.2:=λf hf=>by
    have h1:=F6 hf;have h2:=F3 _ t (Nat.le_refl _) f h1;have h3:=Y0 _ t (Nat.le_refl _) f h1;exact⟨by omega,λx hx=>hsp x (C1 hx h3)⟩
   have hih:∀f∈j9 C4 (l5 t),j5 88 [.ag (cT f.2)] [.ag (cT (j7 f.2))]:=λf hf=>ih f.2 (hfs f hf).1 (by omega) (hfs f hf).2
   have hlen:(j9 C4 (l5 t)).length<=1048576:=by
    rw[N0];have:=a2q _ t (Nat.le_refl _);omega
   have htl:(o4 t).parts.length<=1048576:=by
    have h1:=a4X _ t (Nat.le_refl _) (hsp t hself);omega
   rw[hc] at hF ⊢;obtain⟨K0,hK0⟩:∃K,K=rT ks:=⟨_,rfl⟩;rw[<-hK0] at hF ⊢;generalize j9 C4 (l5 t)=L at *;have hj:=b03 (o4 t) (L.map cfS);rw[show a0c (L.map cfS) (o4 t)=j7 t from hcr.symm] at hj;have hct:=b0w (o4 t) htl
   have hcf:∀r∈rF (L.map cfS),∃nm c0 c1 c2 c3,r=[nm,c0,c1,c2,c3]/\j5 108 [.ag [c0,c1,c2,c3]] [.ag [c0,c1,c2,c3]]:=λr hr=>by
    obtain⟨f,hf,rfl⟩:=List.mem_map.1 hr;obtain⟨f0,hf0,rfl⟩:=List.mem_map.1 hf;have h1:=hfs f0 hf0;have h2:=a0o _ f0.2 (Nat.le_refl _) h1.2;have h3:=b0w (j7 f0.2) (by omega);obtain⟨c0,c1,c2,c3,hcc⟩:=l6 (j7 f0.2);rw[hcc] at h3;exact⟨_,c0,c1,c2,c3,by show D.sc _::cT (j7 f0.2)=_;rw[hcc],h3⟩
   obtain⟨y0,y1,y2,y3,hy⟩:=l6 (j7 t);obtain⟨q0,q1,q2,q3,hq⟩:=l6 (o4 t);rw[hq] at hF hct hj;rw[hy] at hj ⊢;have hJ:=b90 (rF (L.map cfS)) q0 q1 q2 q3 (by rw[N4,List.length_map];omega) hct hcf;rw[hj] at hJ;obtain⟨M0,hM0⟩:∃M,M=rF L:=⟨_,rfl⟩;rw[<-hM0] at hF;refine C2 Tryz.func88 rfl λqa qb qc qd qe qf qg qh qi qj qk ql qm qo qp qq qt qu qv qw qx qy qz va vc vd ve vf vg vh vj vk vl vm vn vo vp vq vr vt vu vv vw hA=>?_
   cbv;refine gn ?_;have h11:qj op 11=decide (op=11):=by have e:=l7 hA;exact e.2.2.2.2.2.2.2.2 _ _
   rw[decide_eq_true hop] at h11;rw[h11];cbv;refine gn ?_;refine l9 hA [] hF ⟨rfl,rfl,rfl,rfl,rfl,rfl,rfl⟩ ?_
   rintro res os2 ⟨rfl,rfl⟩
   cbv;refine gn ?_;obtain⟨e1,e2,e3,e4,e5,e6,e7,e8,e9⟩:=l7 hA;obtain⟨r1,r2,r3,r4⟩:=n8 hA;obtain⟨m1,m2,m3,m4⟩:=a2a hA;refine o5 hA (γ:=Int×List (List D)) (λx=>[(19,vi .i64 x.1),(12,.jk),(14,.jk)]) (λx=>[(2,.row false 74 x.2)]) (λx=>∃k:Nat,x.1=(k:Int)/\k<=L.length/\x.2=rF ((L.take k).map cfS++L.drop k)) (λx=>L.length - x.1.toNat) (0,M0) ?_ ?_ ?_
   ·exact⟨0,rfl,Nat.zero_le _,hM0⟩
   ·cbv
   ·intro x hinv;obtain⟨z,M⟩:=x;cbv;refine gn ?_;try simp only[nc] at *
    obtain⟨k,hz,hk,hM⟩:=hinv;have hll:qz M0=((L.length:Nat):Int):=by rw[r1,hM0,N4]
    have hlt:qh z (qz M0)=decide (k<L.length):=by rw[e7,hll,hz];exact decide_eq_decide.2 (by omega)
    by_cases h9:k<L.length
    ·rw[decide_eq_true h9] at hlt;obtain⟨x,hx⟩:∃x,L[k]?=some x:=⟨_,List.getElem?_eq_getElem h9⟩;have hspx:=hih x (List.mem_of_getElem? hx)
     have hxe:((L.take k).map cfS++L.drop k)[k]?=some x:=by
      rw[List.getElem?_append_right (by simp;omega)]
      simp
      rw[Nat.min_eq_left (by omega),Nat.sub_self,Nat.add_zero];exact hx
     have hset:((L.take k).map cfS++L.drop k).set k (cfS x)=(L.take (k+1)).map cfS++L.drop (k+1):=by
      obtain⟨hi,e⟩:=List.getElem?_eq_some_iff.1 hx;have e0:k - ((L.take k).map cfS).length=0:=by rw[List.length_map,List.length_take];omega
      rw[List.set_append_right _ _ (by rw[List.length_map,List.length_take];omega),List.take_add_one,hx,List.map_append,List.append_assoc,List.drop_eq_getElem_cons hi,e0];rfl
     obtain⟨xn,xt⟩:=x;obtain⟨x0,x1,x2,x3,hxx⟩:=l6 xt;obtain⟨v0,v1,v2,v3,hvv⟩:=l6 (j7 xt);simp only at hspx;rw[hxx,hvv] at hspx;have gx:va M z=some [.sc (.string xn),x0,x1,x2,x3]:=by rw[r2,hz,if_pos (by omega),hM,show ((k:Int)).toNat=k by omega,a3j hxe,hxx]
     have hz1:qa .i64 (qb z 1)=((k+1:Nat):Int):=by rw[e1,e2,hz,IntWalk.i64_in _ (by omega)];omega
     have hmu:L.length - (qa .i64 (qb z 1)).toNat<L.length - z.toNat:=by rw[hz1,hz];omega
     have hnew:ve M z [.sc (.string xn),v0,v1,v2,v3]=rF ((L.take (k+1)).map cfS++L.drop (k+1)):=by
      rw[m4,<-hset,hM,hz,show ((k:Int)).toNat=k by omega];unfold rF;rw[List.map_set];show _=List.set _ k (.sc (.string xn)::cT (j7 xt));rw[hvv]
     rw[hlt]
     iterate 2 (try cbv;repeat ((first|with_reducible apply j2 hA|rw[gx]|refine j3 hA _ hspx rfl ?_);cbv))
     try simp (maxSteps:=4000000) only [nc] at *
     refine⟨(qa .i64 (qb z 1),ve M z [.sc (.string xn),v0,v1,v2,v3]),⟨k+1,hz1,h9,hnew⟩,hmu,?_⟩;cbv
    ·rw[decide_eq_false h9] at hlt;have hM2:M=rF (L.map cfS):=by rw[hM,List.take_of_length_le (by omega),List.drop_of_length_le (by omega),List.append_nil]
     rw[<-hM2] at hJ;rw[hlt];cbv;refine b5c hA [2] ?_;cbv
     repeat (first|(with_reducible apply j2 hA;cbv)|(refine j3 hA _ hJ rfl ?_;cbv))
  ·have hcn:=C7 (t:=t) (by rw[<-ht];exact hop);rw[hks,show t.op=op by rw[<-ht];rfl,show t.name=nm by rw[<-ht];rfl,show t.n=n by rw[<-ht];rfl] at hcn
   have hih:∀x∈ks,j5 88 [.ag (cT x)] [.ag (cT (j7 x))]:=λx hx=>by
    have h2:=hkl.2 x hx;exact ih x (by omega) (by omega) λy hy=>hsp y (by rw[o9,hks];exact List.mem_cons_of_mem _ (List.mem_flatMap.2 ⟨x,hx,hy⟩))
   rw[hcn,cT,hc];obtain⟨K,hK⟩:∃K,K=rT ks:=⟨_,rfl⟩;obtain⟨Q,hQ⟩:∃Q,Q=rT (ks.map j7):=⟨_,rfl⟩;rw[<-hK,<-hQ];refine C2 Tryz.func88 rfl λqa qb qc qd qe qf qg qh qi qj qk ql qm qo qp qq qt qu qv qw qx qy qz va vc vd ve vf vg vh vj vk vl vm vn vo vp vq vr vt vu vv vw hA=>?_
   cbv;refine gn ?_;obtain⟨e1,e2,e3,e4,e5,e6,e7,e8,e9⟩:=l7 hA;obtain⟨r1,r2,r3,r4⟩:=n8 hA;have h11:qj op 11=decide (op=11):=e9 _ _;rw[decide_eq_false hop] at h11;rw[h11];cbv
   repeat (first|(refine a1v hA 6 25 true rfl ?_;cbv)|(with_reducible apply j2 hA;cbv))
   refine o5 hA (γ:=Int×List (List D)) (λx=>[(39,vi .i64 x.1),(6,.own 2)]) (λx=>[(2,.row true 25 x.2)]) (λx=>∃k:Nat,x.1=(k:Int)/\k<=ks.length/\x.2=rT ((ks.map j7).take k)) (λx=>ks.length - x.1.toNat) (0,[]) ?_ ?_ ?_
   ·exact⟨0,rfl,Nat.zero_le _,rfl⟩
   ·cbv
   ·intro x hinv;obtain⟨z,M⟩:=x;cbv;refine gn ?_;try simp only[nc] at *
    obtain⟨k,hz,hk,hM⟩:=hinv;have hll:qz K=((ks.length:Nat):Int):=by rw[r1,hK,L4]
    have hlt:qh z (qz K)=decide (k<ks.length):=by rw[e7,hll,hz];exact decide_eq_decide.2 (by omega)
    by_cases h9:k<ks.length
    ·rw[decide_eq_true h9] at hlt;obtain⟨x,hx⟩:∃x,ks[k]?=some x:=⟨_,List.getElem?_eq_getElem h9⟩;have hspx:=hih x (List.mem_of_getElem? hx);have hx2:(ks.map j7)[k]?=some (j7 x):=by rw[List.getElem?_map,hx];rfl
     have hsn:=a9c hx2;obtain⟨x0,x1,x2,x3,hxx⟩:=l6 x;obtain⟨v0,v1,v2,v3,hvv⟩:=l6 (j7 x);rw[hxx,hvv] at hspx;rw[hvv] at hsn;have gx:va K z=some [x0,x1,x2,x3]:=by rw[r2,hz,if_pos (by omega),hK,show ((k:Int)).toNat=k by omega,a0L hx,hxx]
     have hz1:qa .i64 (qb z 1)=((k+1:Nat):Int):=by rw[e1,e2,hz,IntWalk.i64_in _ (by omega)];omega
     have hmu:ks.length - (qa .i64 (qb z 1)).toNat<ks.length - z.toNat:=by rw[hz1,hz];omega
     have hnew:vd M [[v0,v1,v2,v3]]=rT ((ks.map j7).take (k+1)):=by rw[r4,hsn,hM]
     have hMl:M.length<=1048576:=by rw[hM,L4,List.length_take];omega
     rw[hlt]
     iterate 2 (try cbv;repeat ((first|with_reducible apply j2 hA|rw[gx]|refine j4 hA _ hspx ?_|refine j3 hA _ hspx rfl ?_|refine y7 hA true ?_|(refine y9 hA (by simp only[r4,List.length_append,List.length_cons,List.length_nil];omega) ?_));cbv))
     try simp (maxSteps:=4000000) only [nc] at *
     refine⟨(qa .i64 (qb z 1),vd M [[v0,v1,v2,v3]]),⟨k+1,hz1,h9,hnew⟩,hmu,?_⟩;cbv
    ·rw[decide_eq_false h9] at hlt;have hM2:M=Q:=by rw[hM,hQ,List.take_of_length_le (by rw[List.length_map];omega)]
     rw[hlt];cbv;refine gn ?_;exact⟨by rw[hM2],trivial⟩
theorem b3Q {op:Int} (h:a8K op=none):C3 op=none:=by
 unfold a8K at h;unfold C3
 repeat' split at h
 all_goals first|(cases h;done)|skip
 rename_i h1 h2 h3 h4 h5 h6 h7;rw[if_neg (by omega),if_neg h2,if_neg h3,if_neg h7]
theorem b3R {op:Int} {kn:Int} {a b:Bool} (h:a8K op=some (kn,a,b)) (nm:ByteArray) (n:Int) (ks:List Ty) (row:Bool) :
  a2b r5 (.mk op nm n ks) (sI row)=hd2 row (decide (8<=op)) (decide ((ks.length:Int)=kn)) a (r5 nm) (decide (nm.toList=[])) (decide (n<0)) b (n == 0)/\(∃kk,C3 op=some kk/\(kk.length:Int)=kn/\∀(k:Nat) (c:Int),kk[k]?=some c->sI (orB (op == 5) (orB (op == 6) (nmF (op == 11) (k == 1) false)))=c) /\
   (b=true/\(vbl (.mk op nm n ks)=some (n,decide (op=10)))/\(op=10\/op=7)\/b=false/\vbl (.mk op nm n ks)=none):=by
 have key:∀(i:Int) (kk:List Int),op=i->C3 i=some kk->(kk.length:Int)=kn->(∀(k:Nat) (c:Int),kk[k]?=some c->sI (orB (i == 5) (orB (i == 6) (nmF (i == 11) (k == 1) false)))=c)->a=(i == 11)->b=((i == 7) || (i == 10)) ->
   a2b r5 (.mk op nm n ks) (sI row)=hd2 row (decide (8<=op)) (decide ((ks.length:Int)=kn)) a (r5 nm) (decide (nm.toList=[])) (decide (n<0)) b (n == 0)/\(∃kk,C3 op=some kk/\(kk.length:Int)=kn/\∀(k:Nat) (c:Int),kk[k]?=some c->sI (orB (op == 5) (orB (op == 6) (nmF (op == 11) (k == 1) false)))=c):=by
  rintro i kk rfl h1 h2 h3 rfl rfl
  refine⟨?_,kk,h1,h2,h3⟩;rw[b24,h1];have hk:=a43 h1
  have e1:decide (ks.length=(W7 op).size)=decide ((ks.length:Int)=kn):=by
   have:kk.length=(W7 op).size:=by rw[hk,List.length_map,B8]
   exact decide_eq_decide.2 (by omega)
  have e2:(decide (8<=op) == (sI row == 114))=(row == decide (8<=op)):=by cases row <;> cases decide (8<=op) <;> rfl
  unfold hdF hd2;rw[e1,e2];simp only[Option.isSome_some,Bool.true_and,Bool.or_assoc];cases (op == 11) <;> rfl
 have two:∀ {l:List Int} {P:Nat->Int->Prop} {x y:Int},l=[x,y]->P 0 x->P 1 y->∀(k:Nat) (c:Int),l[k]?=some c->P k c:=by
  rintro l P x y rfl h0 h1 k c h
  match k,h with
  | 0,h=>cases h;exact h0
  | 1,h=>cases h;exact h1
  | k+2,h=>simp at h
 have one:∀ {l:List Int} {P:Nat->Int->Prop} {x:Int},l=[x]->P 0 x->∀(k:Nat) (c:Int),l[k]?=some c->P k c:=by
  rintro l P x rfl h0 k c h
  match k,h with
  | 0,h=>cases h;exact h0
  | k+1,h=>simp at h
 have zero:∀ {P:Nat->Int->Prop},∀(k:Nat) (c:Int),([]:List Int)[k]?=some c->P k c:=λk c h=>by simp at h
 unfold a8K at h
 repeat' split at h
 all_goals first|(cases h;done)|skip
 all_goals
  cases h;rename_i h
  first
  | (rcases h with h|h|h <;> subst h <;> exact⟨(key _ _ rfl rfl rfl zero rfl rfl).1,(key _ _ rfl rfl rfl zero rfl rfl).2,.inr ⟨rfl,rfl⟩⟩)
  | (rcases h with h|h <;> subst h <;> first|exact⟨(key _ _ rfl rfl rfl zero rfl rfl).1,(key _ _ rfl rfl rfl zero rfl rfl).2,.inr ⟨rfl,rfl⟩⟩|exact⟨(key _ _ rfl rfl rfl (one rfl rfl) rfl rfl).1,(key _ _ rfl rfl rfl (one rfl rfl) rfl rfl).2,.inr ⟨rfl,rfl⟩⟩)
  | (subst h;exact⟨(key _ _ rfl rfl rfl zero rfl rfl).1,(key _ _ rfl rfl rfl zero rfl rfl).2,.inl ⟨rfl,rfl,by decide⟩⟩)
  | (subst h;exact⟨(key _ _ rfl rfl rfl (two rfl rfl rfl) rfl rfl).1,(key _ _ rfl rfl rfl (two rfl rfl rfl) rfl rfl).2,.inr ⟨rfl,rfl⟩⟩)
theorem b2S:∀(t:Ty),t.parts.length<=1048576->(∀x∈t.parts,x.name.size<=1048576)->∀(row:Bool) (es:List (R×R)) (s:Int->Option Bool),SAt es s ->
  B0 70 [.mp 0,.ag (ofD (cT t)),vb row] [.mp 3 es] (a44 (m8 r5 t (sI row) && (F9 t.parts s).isSome) (F9 t.parts s)):=by
 intro t
 induction t using Ty.ind with
 | h t ih =>
  intro hN hnm row es s hes;have hkl:=A4 t;have hself:=hnm t (by rw[A3];exact List.mem_cons_self ..);have hkn:∀x∈t.kids,∀y∈x.parts,y.name.size<=1048576:=λx hx y hy=>hnm y (by rw[o9];exact List.mem_cons_of_mem _ (List.mem_flatMap.2 ⟨x,hx,hy⟩))
  have ih2:∀x∈t.kids,∀(row:Bool) (es:List (R×R)) (s:Int->Option Bool),SAt es s->B0 70 [.mp 0,.ag (ofD (cT x)),vb row] [.mp 3 es] (a44 (m8 r5 x (sI row) && (F9 x.parts s).isSome) (F9 x.parts s)):=λx hx=>ih x hx (by have:=hkl.2 x hx;omega) (hkn x hx)
  have hsh:=a2c r5 t (sI row)
  have hpm:F9 t.parts s=match vbl t with|none=>F9 (v8 t.kids) s|some p=>if s p.1=some (!p.2) then none else F9 (v8 t.kids) (a6x s p.1 p.2):=by
   rw[A3,F9];cases vbl t <;> rfl
  obtain⟨op,nm,n,ks⟩:=t;simp only[Ty.kids,Ty.op] at hkl ih2 hsh hpm;have hself:nm.size<=1048576:=hself;generalize hbb:(m8 r5 (.mk op nm n ks) (sI row) && (F9 (Ty.mk op nm n ks).parts s).isSome)=b;generalize hFF:F9 (Ty.mk op nm n ks).parts s=F at *;rw[cT];have hb:Tryz.f70.body=some (.seq (I7 (Tryz.f70.body.getD .skip)) (.seq (I7 (m7 (Tryz.f70.body.getD .skip))) (.seq (I7 (m7 (m7 (Tryz.f70.body.getD .skip)))) (.seq (I7 (m7 (m7 (m7 (Tryz.f70.body.getD .skip))))) (m7 (m7 (m7 (m7 (Tryz.f70.body.getD .skip))))))))):=by kernel_rfl
  refine a9H Tryz.func70 hb (by kernel_rfl) (by kernel_rfl) (by kernel_rfl) ?_;intro qa qb qc qd qe qf qg qh qi qj qk ql qm qo qp qq qt qu qv qw qx qy qz va vc vd ve vf vg vh vj vk vl vm vn vo vp vq vr vt vu vv vw;intros;rename_i hA;refine b33 op nm n (rT ks) row es _ _ ?_ ?_ qa qb qc qd qe qf qg qh qi qj qk ql qm qo qp qq qt qu qv qw qx qy qz va vc vd ve vf vg vh vj vk vl vm vn vo vp vq vr vt vu vv vw hA
  ·intro kn a c hask j12 j13 j14 j15 j16 j17 j18 j19 j20 j21 j22 j23 j24 j25 j26 j27 j28 j29 j30 j31;obtain⟨hh,⟨kk,hkk1,hkk2,hkk3⟩,hv⟩:=b3R hask nm n ks row;rw[hkk1] at hsh;have hsh:m8 r5 (.mk op nm n ks) (sI row)=(a2b r5 (.mk op nm n ks) (sI row) && v7 r5 ks kk):=hsh;rw[hh] at hsh;have hbody:=b1l op nm n ks row es s kn a c j12 j13 j14 j15 j16 j17 j18 j19 j20 j21 j22 j23 j24 j25 j26 j27 j28 j29 j30 j31 kk b F hes hself (by omega) (λh=>by omega) hkk3 (λh=>by rw[<-hbb,hsh,h,Bool.true_and]) (λh=>by rw[<-hbb,hsh,h,Bool.false_and,Bool.false_and]) (λh=>?_) ih2 qa qb qc qd qe qf qg qh qi qj qk ql qm qo qp qq qt qu qv qw qx qy qz va vc vd ve vf vg vh vj vk vl vm vn vo vp vq vr vt vu vv vw hA
   ·rw[hA] at hbody ⊢;exact hbody
   ·rw[hpm]
    rcases hv with⟨rfl,hv,ho⟩|⟨rfl,hv⟩
    ·rw[hv]
     have hr:decide (op=10)=row:=by
      unfold hd2 at h;have h1:(row == decide (8<=op))=true:=by revert h;cases (row == decide (8<=op)) <;> simp
      rw[beq_iff_eq] at h1;rw[h1]
      rcases ho with rfl|rfl <;> rfl
     rw[hr];rfl
    ·rw[hv];rfl
  ·intro hn st ho h6;have hk:=b3Q hn
   have hbf:b=false:=by
    rw[<-hbb,hsh];unfold a2b;rw[show (Ty.mk op nm n ks).op=op from rfl,hk];rfl
   show vr 1 (a44 b F) [o6 st.t 6] st;rw[h6];exact r7 hA [0] ⟨rfl,rfl,rfl,rfl,by rw[ho];rfl,rfl,rfl,rfl⟩ ⟨es,rfl,hes.1,by rw[hbf],λh=>by rw[hbf] at h;cases h⟩
theorem b05 (t:Ty) (row:Bool):(m8 r5 t (sI row) && (F9 t.parts λ_=>none).isSome)=x9 t (sI row):=by rw[b32];rfl
theorem a6R (t:Ty) (hN:t.parts.length<=1048576) (hnm:∀x∈t.parts,x.name.size<=1048576):j5 56 [.ag (cT t)] [.one (.sc (.bool (x9 t 116)))]:=by
 have h1:=b2S t hN hnm false [] (λ_=>none) SAt.nil;rw[b05] at h1;have e:x9 t (sI false)=x9 t 116:=rfl;rw[e] at h1;generalize x9 t 116=b at *;generalize F9 t.parts (λ_=>none)=F at *;obtain⟨c0,c1,c2,c3,hc⟩:∃c0 c1 c2 c3,cT t=[c0,c1,c2,c3]:=by obtain⟨op,nm,n,ks⟩:=t;exact⟨_,_,_,_,by rw[cT]⟩
 rw[hc] at h1 ⊢;refine C2 Tryz.func56 rfl ?_;intros;rename_i hA;cbv
 repeat ((with_reducible apply j2 hA);cbv)
 refine l9 hA [1] h1 ⟨rfl,rfl,rfl,rfl,rfl,rfl,rfl⟩ ?_
 rintro res os2 ⟨es',rfl,hk',rfl,hm'⟩
 cbv
 repeat ((with_reducible apply j2 hA);cbv)
theorem b91 (t:Ty) (hN:t.parts.length<=1048576) (hnm:∀x∈t.parts,x.name.size<=1048576):j5 86 [.ag (cT t)] [.one (.sc (.bool (x9 t 114)))]:=by
 have h1:=b2S t hN hnm true [] (λ_=>none) SAt.nil;rw[b05] at h1;have e:x9 t (sI true)=x9 t 114:=rfl;rw[e] at h1;generalize x9 t 114=b at *;generalize F9 t.parts (λ_=>none)=F at *;obtain⟨c0,c1,c2,c3,hc⟩:∃c0 c1 c2 c3,cT t=[c0,c1,c2,c3]:=by obtain⟨op,nm,n,ks⟩:=t;exact⟨_,_,_,_,by rw[cT]⟩
 rw[hc] at h1 ⊢;refine C2 Tryz.func86 rfl ?_;intros;rename_i hA;cbv
 repeat ((with_reducible apply j2 hA);cbv)
 refine l9 hA [1] h1 ⟨rfl,rfl,rfl,rfl,rfl,rfl,rfl⟩ ?_
 rintro res os2 ⟨es',rfl,hk',rfl,hm'⟩
 cbv
 repeat ((with_reducible apply j2 hA);cbv)
theorem a6S (t:Ty) (hN:t.parts.length<=1048576) (hnm:∀x∈t.parts,x.name.size<=1048576):j5 71 [.ag (cT t)] [.one (.sc (.bool (x9 t 116 || x9 t 114)))]:=by
 have h1:=a6R t hN hnm;have h2:=b91 t hN hnm;generalize x9 t 116=q1 at *;generalize x9 t 114=q2 at *;obtain⟨c0,c1,c2,c3,hc⟩:∃c0 c1 c2 c3,cT t=[c0,c1,c2,c3]:=by obtain⟨op,nm,n,ks⟩:=t;exact⟨_,_,_,_,by rw[cT]⟩
 rw[hc] at h1 h2 ⊢;refine C2 Tryz.func71 rfl ?_;intros;rename_i hA;cbv;refine gn ?_;refine j3 hA _ h1 ?_ ?_
 ·rfl
 cases q1
 ·cbv
  repeat ((with_reducible apply j2 hA);cbv)
  refine j3 hA _ h2 ?_ ?_
  ·rfl
  cbv
  repeat ((with_reducible apply j2 hA);cbv)
 ·cbv
  repeat ((with_reducible apply j2 hA);cbv)
def H1 (t:Ty):Bool:=x9 t 116 || x9 t 114
def Sm (t:Ty):Prop:=t.parts.length<=1048576/\∀x∈t.parts,x.name.size<=1048576
theorem I9 {t:Ty} {s:Int} (h:x9 t s=true):m8 r5 t s=true/\a0B t=true:=by
 unfold x9 at h
 rwa [Bool.and_eq_true] at h
theorem a9f {t:Ty} (h:H1 t=true):∃s,m8 r5 t s=true:=by
 unfold H1 at h;rw[Bool.or_eq_true] at h
 rcases h with h|h
 ·exact⟨_,(I9 h).1⟩
 ·exact⟨_,(I9 h).1⟩
theorem a11 {t:Ty} (h:H1 t=true):H0 t:=by
 obtain⟨s,h⟩:=a9f h;exact B9 h
theorem j5.mono {f:Nat} {rs q q':List R} (h:j5 f rs q) (hq:∀I w v,a2H I w v q->a2H I w v q'):j5 f rs q' :=
 ⟨h.1,λI w args h1 h2=>(h.2 I w args h1 h2).mono λe w' ⟨v,e1,e2,e3⟩=>⟨v,e1,hq _ _ _ e2,e3⟩⟩
theorem AtD.empty {I:Nat->Nat->Prop} {w:World} {v:Value} {n:Nat} (m:Nat) (h:AtD I w v (.sl n [])):AtD I w v (.sl m []):=by
 generalize hr:([]:List (List D))=rows at h;cases h with
 | nil A cap sz=>exact .nil _ _ _
 | sl b off cap sz rows us=>subst hr;exact .nil _ _ _
theorem A8.last {I:Nat->Nat->Prop} {w:World} {us:List Value} {xs:List D} {x y:D} (h:A8 I w us (xs++[x])) (hx:∀u,AtD I w u x->AtD I w u y):A8 I w us (xs++[y]):=by
 refine⟨by have:=h.1;simpa using this,λi u d hu hd=>?_⟩
 rcases Nat.lt_or_ge i xs.length with hlt|hge
 ·rw[List.getElem?_append_left hlt] at hd;exact h.2 i u d hu (by rw[List.getElem?_append_left hlt];exact hd)
 ·rw[List.getElem?_append_right hge] at hd
  obtain e:i - xs.length=0:=by
   have:=(List.getElem?_eq_some_iff.1 hd).1
   simp at this
   omega
  rw[e] at hd
  simp at hd
  subst hd;exact hx u (h.2 i u x hu (by rw[List.getElem?_append_right hge,e];rfl))
theorem j5.sl0 {f:Nat} {rs:List R} {a b c:D} {n:Nat} (m:Nat) (h:j5 f rs [.ag [a,b,c,.sl n []]]):j5 f rs [.ag [a,b,c,.sl m []]]:=h.mono λI w v hv=>by
 obtain⟨us,rfl,h2⟩:=hv;exact⟨us,rfl,A8.last (xs:=[a,b,c]) h2 λu hu=>hu.empty m⟩
theorem b79 (t:Ty) (ht:Sm t):j5 81 [.ag (cT t)] [.ag (cT (if H1 t=true then j7 t else b5h))]:=by
 have h1:=a6S t ht.1 ht.2;have hb:(x9 t 116 || x9 t 114)=H1 t:=rfl;rw[hb] at h1
 by_cases he:H1 t=true
 ·rw[if_pos he];have h2:=b04 _ t (Nat.le_refl _) ht.1 (a11 he);rw[he] at h1;obtain⟨a0,a1,a2,a3,ha⟩:=l6 t;obtain⟨c0,c1,c2,c3,hc⟩:=l6 (j7 t);rw[ha] at h1 h2;rw[hc] at h2;rw[ha,hc];refine C2 Tryz.func81 rfl λqa qb qc qd qe qf qg qh qi qj qk ql qm qo qp qq qt qu qv qw qx qy qz va vc vd ve vf vg vh vj vk vl vm vn vo vp vq vr vt vu vv vw hA=>?_
  iterate 2 (try cbv;repeat ((first|with_reducible apply j2 hA|refine j3 hA _ h1 rfl ?_|refine j3 hA _ h2 rfl ?_);cbv))
 ·have he:H1 t=false:=by simpa using he
  rw[he,if_neg (by simp)];rw[he] at h1;obtain⟨a0,a1,a2,a3,ha⟩:=l6 t;rw[ha] at h1 ⊢;unfold b5h;rw[cT,rT];refine j5.sl0 (n:=0) 4 ?_;refine C2 Tryz.func81 rfl λqa qb qc qd qe qf qg qh qi qj qk ql qm qo qp qq qt qu qv qw qx qy qz va vc vd ve vf vg vh vj vk vl vm vn vo vp vq vr vt vu vv vw hA=>?_
  iterate 2 (try cbv;repeat ((first|with_reducible apply j2 hA|refine j3 hA _ h1 rfl ?_);cbv))
theorem b1N {W:ByteArray->Bool} {t:Ty}:∀ {s:Int},m8 W t s=true->∀x∈t.parts,∃c,m8 W x c=true:=by
 induction t using Ty.ind with
 | h t ih =>
  intro s h x hx;rw[o9] at hx
  rcases List.mem_cons.1 hx with rfl|hx
  ·exact⟨s,h⟩
  ·obtain⟨y,hy,hxy⟩:=List.mem_flatMap.1 hx;obtain⟨k,hk,h1,h2,h3,h4,h5,h6⟩:=F4 h;obtain⟨c,hc⟩:=a00 W _ _ h6 y hy;exact ih y hy hc x hxy

def rI (l:List Int):List (List D):=l.map λn=>[.sc (.int .i64 n)]
theorem b1O (l:List Int):(rI l).length=l.length:=by rw[rI,List.length_map]
theorem b92 {l:List Int} {k:Nat} {x:Int} (h:l[k]?=some x):(rI l)[k]?=some [.sc (.int .i64 x)]:=by rw[rI,List.getElem?_map,h];rfl
theorem b5O {l:List Int} {x y:Int} {k:Nat} (h:l[k]?=some y):atS (l.drop k) x k=if y=x then (k:Int) else atS (l.drop (k+1)) x (k+1):=by
 obtain⟨hi,e⟩:=List.getElem?_eq_some_iff.1 h;rw[List.drop_eq_getElem_cons hi,e,atS]
theorem c19 (l:List Int) (x:Int) (hl:l.length<=1048576):j5 69 [.one (.sl 1 (rI l)),.one (.sc (.int .i64 x))] [.one (.sc (.int .i64 (atS l x 0)))]:=by
 obtain⟨L,hL⟩:∃L,L=rI l:=⟨_,rfl⟩;obtain⟨r,hr⟩:∃r,r=atS l x 0:=⟨_,rfl⟩;rw[<-hL,<-hr];refine C2 Tryz.func69 rfl ?_;intro qa qb _ _ _ _ _ qh _ qj _ _ _ _ _ _ _ _ _ _ _ _ qz va;intros;rename_i hA;cbv;refine gn ?_;obtain⟨e1,e2,e3,e4,e5,e6,e7,e8,e9⟩:=l7 hA;obtain⟨r1,r2,-⟩:=n8 hA;refine o5 hA (γ:=Int) (λz=>[(5,vi .i64 z)]) (λz=>[]) (λz=>∃k:Nat,z=(k:Int)/\k<=l.length/\r=atS (l.drop k) x k) (λz=>l.length - z.toNat) 0 ?_ ?_ ?_
 ·exact⟨0,rfl,Nat.zero_le _,hr⟩
 ·cbv
 ·intro z hinv;cbv
  repeat ((with_reducible apply j2 hA);cbv)
  obtain⟨k,hz,hk,hR⟩:=hinv;replace hz:z=(k:Int):=hz;have hll:qz L=((l.length:Nat):Int):=by rw[r1,hL,b1O]
  have hlt:qh z (qz L)=decide (k<l.length):=by rw[e7,hll,hz];exact decide_eq_decide.2 (by omega)
  by_cases h9:k<l.length
  ·rw[decide_eq_true h9] at hlt;obtain⟨y,hy⟩:∃y,l[k]?=some y:=⟨_,List.getElem?_eq_getElem h9⟩;rw[b5O hy] at hR;have gx:va L z=some [.sc (.int .i64 y)]:=by rw[r2,hz,if_pos (by omega),hL,show ((k:Int)).toNat=k by omega,b92 hy]
   have heq:qj y x=decide (y=x):=by rw[e9];rfl
   have hz1:qa .i64 (qb z 1)=((k+1:Nat):Int):=by rw[e1,e2,hz,IntWalk.i64_in _ (by omega)];omega
   have hmu:l.length - (qa .i64 (qb z 1)).toNat<l.length - z.toNat:=by rw[hz1,hz];omega
   by_cases hyx:y=x
   ·rw[if_pos hyx] at hR;rw[decide_eq_true hyx] at heq;have hzr:z=r:=by rw[hz,hR]
    subst hzr;rw[hlt];cbv
    repeat (first|(with_reducible apply j2 hA;cbv)|(rw[gx];cbv)|(rw[heq];cbv))
   ·rw[if_neg hyx] at hR;rw[decide_eq_false hyx] at heq;rw[hlt];cbv
    repeat (first|(with_reducible apply j2 hA;cbv)|(rw[gx];cbv)|(rw[heq];cbv))
    refine⟨qa .i64 (qb z 1),⟨k+1,hz1,h9,hR⟩,hmu,?_⟩;cbv
  ·rw[decide_eq_false h9] at hlt;rw[List.drop_of_length_le (by omega),atS] at hR;subst hR;rw[hlt];cbv
   repeat ((with_reducible apply j2 hA);cbv)
theorem b93:∀(l:List Int) (x:Int) (k:Nat),0<=atS l x k↔x∈l:=λl x k=>by
 by_cases h:x∈l
 ·exact⟨λ_=>h,λ_=>b2N l x k h⟩
 ·rw[b0i l x k h];exact⟨λe=>absurd e (by decide),λe=>absurd e h⟩
theorem c1A (l:List Int) (x:Int) (hl:l.length<=1048576):j5 54 [.one (.sl 1 (rI l)),.one (.sc (.int .i64 x))] [.one (.sc (.bool (decide (x∈l))))]:=by
 have h1:=c19 l x hl;have h2:decide (0<=atS l x 0)=decide (x∈l):=decide_eq_decide.2 (b93 l x 0);generalize decide (x∈l)=b at *;generalize rI l=L at *;generalize atS l x 0=r at *;refine C2 Tryz.func54 rfl ?_;intro _ _ _ _ _ _ _ _ qi;intros;rename_i hA;have h8:qi 0 r=b:=by have e:=l7 hA;rw[e.2.2.2.2.2.2.2.1,h2]
 cbv
 repeat (first|(with_reducible apply j2 hA;cbv)|(refine j3 hA _ h1 rfl ?_;cbv)|(rw[h8];cbv))
theorem b2T (l:List Int) (x:Int):rI (l++[x])=rI l++[[.sc (.int .i64 x)]]:=by unfold rI;rw[List.map_append];rfl
def nmI (v i:Bool) (x y:List Int):List Int:=match v with|true=>(match i with|true=>y|false=>x)|false=>y
theorem b94 (t:Ty) (ht:t.parts.length<=1048576) (hst:∀x∈t.parts,G4 x):j5 33 [.ag (cT t)] [.one (.sl 1 (rI (T8 t)))]:=by
 have hp:=a0o _ t (Nat.le_refl _) hst;have h1:=b7s _ t (Nat.le_refl _) ht hst;have h2:=a8I (j7 t) (by omega);have hv:T8 t=C5 (j7 t).parts []:=rfl;obtain⟨a0,a1,a2,a3,ha⟩:=l6 t;obtain⟨c0,c1,c2,c3,hc⟩:=l6 (j7 t);rw[ha,hc] at h1;rw[hc] at h2;rw[ha];generalize (j7 t).parts=ps at *;obtain⟨P,hP⟩:∃P,P=rT ps:=⟨_,rfl⟩;obtain⟨Q,hQ⟩:∃Q,Q=rI (T8 t):=⟨_,rfl⟩;rw[<-hP] at h2;rw[<-hQ];have hps:ps.length<=1048576:=by omega
 refine C2 Tryz.func33 rfl ?_;intro qa qb _ _ _ _ _ qh _ qj _ _ _ _ _ _ _ _ _ _ _ _ qz va _ vd;intros;rename_i hA;cbv
 repeat (first|(refine a1v hA 3 3 true rfl ?_;cbv)|(with_reducible apply j2 hA;cbv)|(refine j3 hA _ h1 rfl ?_;cbv)|(refine j3 hA _ h2 rfl ?_;cbv))
 obtain⟨e1,e2,e3,e4,e5,e6,e7,e8,e9⟩:=l7 hA;obtain⟨r1,r2,r3,r4⟩:=n8 hA;refine o5 hA (γ:=Int×List (List D)) (λx=>[(5,vi .i64 x.1),(3,.own 1)]) (λx=>[(1,.row true 3 x.2)]) (λx=>∃k:Nat,x.1=(k:Int)/\k<=ps.length/\x.2=rI (C5 (ps.take k) [])) (λx=>ps.length - x.1.toNat) (0,[]) ?_ ?_ ?_
 ·exact⟨0,rfl,Nat.zero_le _,rfl⟩
 ·cbv
 ·intro x hinv;obtain⟨z,M⟩:=x;cbv;refine gn ?_;obtain⟨k,hz,hk,hM⟩:=hinv;replace hz:z=(k:Int):=hz;replace hM:M=rI (C5 (ps.take k) []):=hM;have hll:qz P=((ps.length:Nat):Int):=by rw[r1,hP,L4]
  have hlt:qh z (qz P)=decide (k<ps.length):=by rw[e7,hll,hz];exact decide_eq_decide.2 (by omega)
  by_cases h9:k<ps.length
  ·rw[decide_eq_true h9] at hlt;obtain⟨x,hx⟩:∃x,ps[k]?=some x:=⟨_,List.getElem?_eq_getElem h9⟩;have hal:=a49 (ps.take k) [];rw[List.length_take,List.length_nil] at hal;have hsn:=a6C (ps.take k) [] x;rw[show ps.take k++[x]=ps.take (k+1) by rw[List.take_add_one,hx];rfl] at hsn;obtain⟨op,nm,n,ks⟩:=x;have gx:va P z=some [.sc (.int .u8 op),.sc (.string nm),.sc (.int .i64 n),.sl 4 (rT ks)]:=by rw[r2,hz,if_pos (by omega),hP,show ((k:Int)).toNat=k by omega,a0L hx,cT]
   generalize rT ks=K1 at *;generalize C5 (ps.take k) []=acc at *;have h3:=c1A acc n (by omega);rw[<-hM] at h3;have hz1:qa .i64 (qb z 1)=((k+1:Nat):Int):=by rw[e1,e2,hz,IntWalk.i64_in _ (by omega)];omega
   have hmu:ps.length - (qa .i64 (qb z 1)).toNat<ps.length - z.toNat:=by rw[hz1,hz];omega
   have hMl:M.length<=1048576:=by rw[hM,b1O];omega
   have hadd:vd M [[.sc (.int .i64 n)]]=rI (acc++[n]):=by rw[r4,b2T,hM]
   have q7:qj op 7=(op == 7):=e9 _ _;have q10:qj op 10=(op == 10):=e9 _ _;have hiv:a2m (Ty.mk op nm n ks)=((op == 7) || (op == 10)):=rfl;rw[hiv,show (Ty.mk op nm n ks).n=n from rfl] at hsn;have hsn2:C5 (ps.take (k+1)) []=nmI ((op == 7) || (op == 10)) (decide (n∈acc)) (acc++[n]) acc:=by rw[hsn];cases ((op == 7) || (op == 10)) <;> by_cases hn:n∈acc <;> simp[nmI,hn]
   clear hsn hiv;rw[hlt];generalize (op == 7)=b7 at *;generalize (op == 10)=b10 at *;generalize decide (n∈acc)=bi at *;cases b7 <;> cases b10 <;> cases bi
   all_goals
    cbv
    repeat (first|(with_reducible apply j2 hA;cbv)|(rw[gx];cbv)|(rw[q7];cbv)|(rw[q10];cbv)|(refine j3 hA _ h3 rfl ?_;cbv)|(refine y7 hA true ?_;cbv)|(refine y9 hA (by simp only[List.length_cons,List.length_nil];omega) ?_;cbv))
    first
    | (refine⟨(qa .i64 (qb z 1),M),⟨k+1,hz1,h9,by rw[hsn2];exact hM⟩,hmu,?_⟩;cbv;done)
    | (refine⟨(qa .i64 (qb z 1),vd M [[.sc (.int .i64 n)]]),⟨k+1,hz1,h9,by rw[hsn2];exact hadd⟩,hmu,?_⟩;cbv)
  ·rw[decide_eq_false h9] at hlt;have hM2:M=Q:=by rw[hM,List.take_of_length_le (by omega),hQ,hv]
   rw[hlt];cbv;refine gn ?_;exact⟨by rw[hM2],trivial⟩
def vO (es:List (R×R)) (L:List (List D)):List O:=[.box [.mp 2],.box [.own 3],.mp 3 es,.row true 3 L]
def a6T (acc:List Int) (x:Ty):List Int:=if a2m x=true/\x.n∉acc then acc++[x.n] else acc
def a3n (acc:List Int):Int->Option Bool:=λn=>if n∈acc then some true else none
theorem SAt.add {es:List (R×R)} {acc:List Int} (h:SAt es (a3n acc)) (n:Int):SAt (a0E es (ik n) (.one (.sc (.bool true)))) (a3n (acc++[n])):=by
 have h2:=h.set n true
 have e:a6x (a3n acc) n true=a3n (acc++[n]):=by
  funext x
  unfold a6x a3n
  by_cases hx:x=n
  ·subst hx;simp
  ·simp[hx]
 rw[e] at h2;exact h2
theorem b7A (x:Ty) (acc:List Int) (es:List (R×R)) (hes:SAt es (a3n acc)) (hacc:acc.length<=1048576) :
  B0 89 [.ag (ofD (cT x)),.ptr 0 0,.ptr 1 0] (vO es (rI acc)) (λres os=>res=[]/\∃es',SAt es' (a3n (a6T acc x))/\os=vO es' (rI (a6T acc x))):=by
 obtain⟨op,nm,n,ks⟩:=x;have hlk:=hes.2 n;have hmem:(a3n acc n).map (λb=>R.one (.sc (.bool b)))=if n∈acc then some (R.one (.sc (.bool true))) else none:=by unfold a3n;by_cases h:n∈acc <;> simp[h]
 rw[hmem] at hlk;have hset:=hes.add n;have hadd:a6T acc (.mk op nm n ks)=if ((op == 7) || (op == 10))=true/\n∉acc then acc++[n] else acc:=rfl
 rw[hadd];have hsnoc:=b2T acc n;obtain⟨Q,hQ⟩:∃Q:List V->List O->Prop,Q=(λres os=>res=[]/\∃es',SAt es' (a3n (if ((op == 7) || (op == 10))=true/\n∉acc then acc++[n] else acc))/\os=vO es' (rI (if ((op == 7) || (op == 10))=true/\n∉acc then acc++[n] else acc))):=⟨_,rfl⟩;rw[<-hQ]
 have hQ1:((op == 7) || (op == 10))=true->n∉acc->Q [] (vO (a0E es (ik n) (.one (.sc (.bool true)))) (rI (acc++[n]))):=λh1 h2=>by
  rw[hQ];refine⟨rfl,a0E es (ik n) (.one (.sc (.bool true))),?_,?_⟩
  ·rw[if_pos ⟨h1,h2⟩];exact hset
  ·rw[if_pos ⟨h1,h2⟩]
 have hQ2:((op == 7) || (op == 10))=false\/n∈acc->Q [] (vO es (rI acc)):=λh=>by
  have hn:¬(((op == 7) || (op == 10))=true/\n∉acc):=by
   rintro ⟨h1,h2⟩
   rcases h with h|h
   ·rw[h] at h1;cases h1
   ·exact h2 h
  rw[hQ];refine⟨rfl,es,?_,?_⟩
  ·rw[if_neg hn];exact hes
  ·rw[if_neg hn]
 clear hQ hset hmem hadd hes;obtain⟨M,hM⟩:∃M,M=rI acc:=⟨_,rfl⟩;obtain⟨es2,he2⟩:∃e,e=a0E es (ik n) (.one (.sc (.bool true))):=⟨_,rfl⟩;have hMl:M.length<=1048576:=by rw[hM,b1O];exact hacc
 rw[<-hM] at hQ2 ⊢;rw[hsnoc,<-hM,<-he2] at hQ1;clear hsnoc;rw[cT];obtain⟨K,hK⟩:∃K,K=rT ks:=⟨_,rfl⟩;rw[<-hK];unfold vO at hQ1 hQ2 ⊢;unfold ik at hlk he2;refine so9 Tryz.func89 rfl ?_;intro _ _ _ _ _ _ _ _ _ qj _ _ _ _ _ _ _ _ _ _ _ _ _ _ _ vd _ _ vg vh;intros;rename_i hA;cbv;refine gn ?_;obtain⟨e1,e2,e3,e4,e5,e6,e7,e8,e9⟩:=l7 hA;obtain⟨r1,r2,r3,r4⟩:=n8 hA;obtain⟨m1,m2,-⟩:=a2a hA;have q7:qj op 7=(op == 7):=e9 _ _;have q10:qj op 10=(op == 10):=e9 _ _;have hl:vg es (.one (.sc (.int .i64 n)))=if n∈acc then some (R.one (.sc (.bool true))) else none:=by rw[m1];exact hlk
 have hp:vh es (.one (.sc (.int .i64 n))) (.one (.sc (.bool true)))=es2:=by rw[m2,he2]
 have ha:vd M [[.sc (.int .i64 n)]]=M++[[.sc (.int .i64 n)]]:=r4 _ _;generalize (op == 7)=b7 at *;generalize (op == 10)=b10 at *
 by_cases hm:n∈acc
 ·rw[if_pos hm] at hl;replace hQ2:=hQ2 (.inr hm);cases b7 <;> cases b10
  all_goals
   iterate 2 (try cbv;repeat ((first|with_reducible apply j2 hA|rw[q7]|rw[q10]|rw[hl]);cbv))
   try simp (maxSteps:=4000000) only [nc] at *
   exact r7 hA [0,1,2,3] ⟨rfl,rfl,rfl,rfl,rfl,rfl,rfl,rfl⟩ hQ2
 ·rw[if_neg hm] at hl;cases b7 <;> cases b10
  ·replace hQ2:=hQ2 (.inl rfl)
   iterate 2 (try cbv;repeat ((first|with_reducible apply j2 hA|rw[q7]|rw[q10]|rw[hl]);cbv))
   try simp (maxSteps:=4000000) only [nc] at *
   exact r7 hA [0,1,2,3] ⟨rfl,rfl,rfl,rfl,rfl,rfl,rfl,rfl⟩ hQ2
  all_goals
   replace hQ1:=hQ1 rfl hm;rw[<-ha] at hQ1
   iterate 2 (try cbv;repeat ((first|with_reducible apply j2 hA|rw[q7]|rw[q10]|rw[hl]|rw[hp]|refine y7 hA true ?_|(refine y9 hA (by simp only[List.length_cons,List.length_nil];omega) ?_));cbv))
   try simp (maxSteps:=4000000) only [nc] at *
   exact r7 hA [0,1,2,3] ⟨rfl,rfl,rfl,rfl,rfl,rfl,rfl,rfl⟩ hQ1
theorem a3W:∀(a b:List Ty) (acc:List Int),C5 (a++b) acc=C5 b (C5 a acc)
 | [],b,acc=>rfl
 | x::a,b,acc=>by rw[List.cons_append,C5,C5];exact a3W a b _
theorem a5c {ks:List Ty} {k:Nat} {x:Ty} (h:ks[k]?=some x):v8 (ks.take (k+1))=v8 (ks.take k)++x.parts:=by
 rw[Q9,Q9,(a9L ks k x h).2]
theorem b95:∀(t:Ty) (acc:List Int) (es:List (R×R)),SAt es (a3n acc)->acc.length+t.parts.length<=1048576 ->
  B0 87 [.ag (ofD (cT t)),.cl 89 [0,1]] (vO es (rI acc)) (λres os=>res=[]/\∃es',SAt es' (a3n (C5 t.parts acc))/\os=vO es' (rI (C5 t.parts acc))):=by
 intro t
 induction t using Ty.ind with
 | h t ih =>
  intro acc es hes hN;have hcl:=b7A t acc es hes (by omega);have hkl:=A4 t;have hpe:t.parts=t::v8 t.kids:=A3 t;have hpl:t.parts.length=1+(v8 t.kids).length:=by rw[hpe,List.length_cons];omega
  have hvl:C5 t.parts acc=C5 (v8 t.kids) (a6T acc t):=by rw[hpe,C5];rfl
  have hal:(a6T acc t).length<=acc.length+1:=by unfold a6T;split <;> simp
  rw[hvl];obtain⟨Q,hQ⟩:∃Q:List V->List O->Prop,Q=(λres os=>res=[]/\∃es',SAt es' (a3n (C5 (v8 t.kids) (a6T acc t)))/\os=vO es' (rI (C5 (v8 t.kids) (a6T acc t)))):=⟨_,rfl⟩;rw[<-hQ];have hQ1:∀es',SAt es' (a3n (C5 (v8 t.kids) (a6T acc t)))->Q [] (vO es' (rI (C5 (v8 t.kids) (a6T acc t)))):=λes' h=>by rw[hQ];exact⟨rfl,es',h,rfl⟩
  clear hQ hvl hpe;generalize a6T acc t=ac1 at *;obtain⟨op,nm,n,ks⟩:=t;simp only[Ty.kids] at hkl ih hpl hQ1
  have hxp:∀k,k<=ks.length->(v8 (ks.take k)).length<=(v8 ks).length:=λk _=>by
   conv=>rhs;rw[<-List.take_append_drop k ks]
   rw[Q9,Q9,List.flatMap_append,List.length_append];omega
  rw[cT] at hcl ⊢;obtain⟨K,hK⟩:∃K,K=rT ks:=⟨_,rfl⟩;rw[<-hK] at hcl ⊢;obtain⟨M,hM⟩:∃M,M=rI acc:=⟨_,rfl⟩;rw[<-hM] at hcl ⊢;unfold vO at hcl hQ1 ⊢;refine so9 Tryz.func87 rfl ?_;intro qa qb _ _ _ _ _ qh _ _ _ _ _ _ _ _ _ _ _ _ _ _ qz va;intros;rename_i hA;cbv;refine gn ?_;obtain⟨e1,e2,e3,e4,e5,e6,e7,e8,e9⟩:=l7 hA;obtain⟨r1,r2,r3,r4⟩:=n8 hA;refine l9 hA [0,1,2,3] hcl ⟨rfl,rfl,rfl,rfl,rfl,rfl,rfl⟩ ?_
  rintro res os2 ⟨rfl,es1,hes1,rfl⟩
  obtain⟨M1,hM1⟩:∃M,M=rI ac1:=⟨_,rfl⟩;rw[<-hM1];cbv;refine gn ?_
  refine o5 hA (γ:=Int×List (R×R)×List (List D)) (λx=>[(12,vi .i64 x.1)]) (λx=>[(2,.mp 3 x.2.1),(3,.row true 3 x.2.2)])
   (λx=>∃k:Nat,x.1=(k:Int)/\k<=ks.length/\SAt x.2.1 (a3n (C5 (v8 (ks.take k)) ac1))/\x.2.2=rI (C5 (v8 (ks.take k)) ac1)) (λx=>ks.length - x.1.toNat) (0,es1,M1) ?_ ?_ ?_
  ·exact⟨0,rfl,Nat.zero_le _,by rw[List.take_zero,v8,C5];exact hes1,by rw[List.take_zero,v8,C5];exact hM1⟩
  ·cbv
  ·intro x hinv;obtain⟨z,es2,M2⟩:=x;cbv;refine gn ?_;try simp only[nc] at *
   obtain⟨k,hz,hk,hes2,hM2⟩:=hinv;have hlen:qz K=(ks.length:Int):=by rw[r1,hK,L4]
   have hlt:qh z (qz K)=decide (k<ks.length):=by rw[e7,hlen,hz];exact decide_eq_decide.2 (by omega)
   by_cases h9:k<ks.length
   ·rw[decide_eq_true h9] at hlt;obtain⟨x,hx⟩:∃x,ks[k]?=some x:=⟨_,List.getElem?_eq_getElem h9⟩;have hvl2:=a49 (v8 (ks.take k)) ac1;have hx1:=hxp (k+1) (by omega);rw[a5c hx,List.length_append] at hx1;have hstep:C5 (v8 (ks.take (k+1))) ac1=C5 x.parts (C5 (v8 (ks.take k)) ac1):=by rw[a5c hx,a3W]
    have hsp:=ih x (List.mem_of_getElem? hx) _ es2 hes2 (by omega);rw[<-hM2,<-hstep] at hsp;obtain⟨M3,hM3⟩:∃M,M=rI (C5 (v8 (ks.take (k+1))) ac1):=⟨_,rfl⟩;rw[<-hM3] at hsp;obtain⟨x0,x1,x2,x3,hxx⟩:=l6 x;have g1:va K z=some [x0,x1,x2,x3]:=by rw[r2,hz,if_pos (by omega),hK,Int.toNat_natCast,a0L hx,hxx]
    have hz1:qa .i64 (qb z 1)=((k+1:Nat):Int):=by rw[e1,e2,hz,IntWalk.i64_in _ (by omega)];omega
    have hmu:ks.length - (qa .i64 (qb z 1)).toNat<ks.length - z.toNat:=by rw[hz1,hz];omega
    rw[hxx] at hsp;unfold vO at hsp;rw[hlt];cbv
    repeat (first|(with_reducible apply j2 hA;cbv)|(rw[g1];cbv))
    refine l9 hA [0,1,2,3] hsp ⟨rfl,rfl,rfl,rfl,rfl,rfl,rfl⟩ ?_
    rintro res os2 ⟨rfl,es3,hes3,rfl⟩
    cbv;refine gn ?_;refine⟨(qa .i64 (qb z 1),es3,M3),⟨k+1,hz1,h9,hes3,hM3⟩,hmu,?_⟩;cbv
   ·rw[decide_eq_false h9] at hlt;rw[hlt];rw[List.take_of_length_le (by omega)] at hes2 hM2;replace hQ1:=hQ1 es2 hes2;rw[<-hM2] at hQ1;cbv;refine gn ?_;exact r7 hA [0,1,2,3] ⟨rfl,rfl,rfl,rfl,rfl,rfl,rfl,rfl⟩ hQ1
theorem j5.one0 {f:Nat} {rs:List R} {n:Nat} (m:Nat) (h:j5 f rs [.one (.sl n [])]):j5 f rs [.one (.sl m [])]:=h.mono λI w v hv=>AtD.empty m hv
theorem b7B (t:Ty) (ht:Sm t):j5 72 [.ag (cT t)] [.one (.sl 1 (rI (if H1 t=true then T8 t else [])))]:=by
 have h1:=a6S t ht.1 ht.2;have hb:(x9 t 116 || x9 t 114)=H1 t:=rfl;rw[hb] at h1
 by_cases he:H1 t=true
 ·rw[if_pos he];have h2:=b04 _ t (Nat.le_refl _) ht.1 (a11 he);have h3:=b95 (j7 t) [] [] ⟨SAt.nil.1,λn=>by rw[SAt.nil.2];rfl⟩ (by rw[a0o _ t (Nat.le_refl _) (a11 he)];simpa using ht.1);rw[show C5 (j7 t).parts []=T8 t from rfl] at h3;rw[he] at h1;obtain⟨L,hL⟩:∃L,L=rI (T8 t):=⟨_,rfl⟩;rw[<-hL] at h3 ⊢;obtain⟨a0,a1,a2,a3,ha⟩:=l6 t;obtain⟨c0,c1,c2,c3,hc⟩:=l6 (j7 t);rw[ha] at h1 h2 ⊢;rw[hc] at h2 h3;unfold vO at h3;refine C2 Tryz.func72 rfl λqa qb qc qd qe qf qg qh qi qj qk ql qm qo qp qq qt qu qv qw qx qy qz va vc vd ve vf vg vh vj vk vl vm vn vo vp vq vr vt vu vv vw hA=>?_
  cbv
  repeat (first|(refine j3 hA _ h1 rfl ?_;cbv)|(refine a7K hA 1 0 3 true rfl rfl ?_;cbv)|(refine j3 hA _ h2 rfl ?_;cbv)|(with_reducible apply j2 hA;cbv))
  refine l9 hA [4,1,3,2] h3 ⟨rfl,rfl,rfl,rfl,rfl,rfl,rfl⟩ ?_
  rintro res os2 ⟨rfl,es3,hes3,rfl⟩
  cbv
  repeat ((with_reducible apply j2 hA);cbv)
 ·have he:H1 t=false:=by simpa using he
  rw[he,if_neg (by simp)];rw[he] at h1;obtain⟨a0,a1,a2,a3,ha⟩:=l6 t;rw[ha] at h1 ⊢;refine j5.one0 (n:=0) 1 ?_;refine C2 Tryz.func72 rfl λqa qb qc qd qe qf qg qh qi qj qk ql qm qo qp qq qt qu qv qw qx qy qz va vc vd ve vf vg vh vj vk vl vm vn vo vp vq vr vt vu vv vw hA=>?_
  iterate 2 (try cbv;repeat ((first|with_reducible apply j2 hA|refine j3 hA _ h1 rfl ?_);cbv))
theorem b5P {t u:Ty} (h:a0B t=true) (hu:∀x∈u.parts,x∈t.parts\/x.op=11):a0B u=true:=by
 refine a9M λx hx y hy=>?_
 cases hc:W6 x y with
 | false=>rfl
 | true =>
  have hc':=hc;unfold W6 at hc';simp only[Bool.and_eq_true,beq_iff_eq] at hc';have h1:=(hu x hx).resolve_right (by omega);have h2:=(hu y hy).resolve_right (by omega);rw[b6Z h1 h2 hc] at h;cases h
def Ok1 (s:Int) (t:Ty):Prop:=x9 t s=true/\Cn t/\t.parts.length<=1048576
theorem Ok1.shape {t:Ty} {s:Int} (h:Ok1 s t):m8 r5 t s=true:=(I9 h.1).1
theorem Ok1.part {t x:Ty} {s c:Int} (h:Ok1 s t) (hx:x∈t.parts) (hc:Cn x) (hs:m8 r5 x c=true):Ok1 c x:=by
 refine⟨?_,hc,Nat.le_trans (b5D hx) h.2.2⟩;unfold x9;rw[hs,b5P (I9 h.1).2 λy hy=>.inl (C1 hy hx)];rfl
theorem b5Q {t x:Ty} (h:x∈t.kids):x∈t.parts:=by
 rw[o9];exact List.mem_cons_of_mem _ (List.mem_flatMap.2 ⟨x,h,by rw[A3];exact List.mem_cons_self ..⟩)
theorem Ok1.field {t:Ty} (h:Ok1 114 t) {f:ByteArray×Ty} (hf:f∈l5 t):Ok1 116 f.2 :=
 h.part (Y0 _ t (Nat.le_refl _) f hf) ((b3K h.shape h.2.1).2 f hf) ((J5 h.shape).1 f hf).2
theorem a8a {tl:Ty}:∀ {fs:List (ByteArray×Ty)} {x:Ty},x∈(a0c fs tl).parts->x.op=11\/(∃f∈fs,x∈f.2.parts)\/x∈tl.parts
 | [],x,h=>.inr (.inr h)
 | f::fs,x,h=>by
  rw[a1y,o9] at h
  rcases List.mem_cons.1 h with rfl|h
  ·exact .inl rfl
  ·simp only[Ty.kids,List.flatMap_cons,List.flatMap_nil,List.append_nil,List.mem_append] at h
   rcases h with h|h
   ·exact .inr (.inl ⟨f,List.mem_cons_self ..,h⟩)
   ·rcases a8a h with h|⟨g,hg,h⟩|h
    ·exact .inl h
    ·exact .inr (.inl ⟨g,List.mem_cons_of_mem _ hg,h⟩)
    ·exact .inr (.inr h)
end Go.Proofs.YtncijebklnbhlaaGreatDoor.Vm
end
section
namespace Go.Proofs.YtncijebklnbhlaaGreatDoor.Vm
open Go.RowKit
set_option maxRecDepth 100000
set_option maxHeartbeats 8000000


theorem a6U {W:ByteArray->Bool}:∀(n:Nat) (t:Ty) (s:Int),t.parts.length<=n->m8 W t s=true->∀x∈(j7 t).parts,a2m x=true->x∈t.parts:=by
 intro n
 induction n with
 | zero=>intro t s h;have:=v6 t;omega
 | succ n ih =>
  intro t s hn h x hx hv;have hself:t∈t.parts:=by rw[A3];exact List.mem_cons_self ..
  by_cases h11:t.op=11
  ·obtain⟨rfl,-⟩:=a27 h h11;have hsp:=(B9 h).self;rw[a3S h] at hx
   rcases a8a hx with h1|⟨f,hf,h1⟩|h1
   ·rw[a28] at hv;omega
   ·obtain⟨f0,hf0,rfl⟩:=List.mem_map.1 hf;have hm:=F6 hf0;have h2:=F3 _ t (Nat.le_refl _) f0 hm;exact C1 (ih f0.2 116 (by omega) ((J5 h).1 f0 hm).2 x h1 hv) (Y0 _ t (Nat.le_refl _) f0 hm)
   ·exact C1 h1 (b0n hsp)
  ·rw[C7 h11,o9] at hx
   rcases List.mem_cons.1 hx with rfl|hx
   ·have hv':t.op=7\/t.op=10:=by rw[a28] at hv;exact hv
    rw[b0z h hv',List.map_nil];rw[show Ty.mk t.op t.name t.n []=t by conv=>rhs;rw[Ty.eta t,b0z h hv']];exact hself
   ·simp only[Ty.kids] at hx;obtain⟨y,hy,hxy⟩:=List.mem_flatMap.1 hx;obtain⟨z,hz,rfl⟩:=List.mem_map.1 hy;obtain⟨k,hk,h1,h2,h3,h4,h5,h6⟩:=F4 h;obtain⟨c,hc⟩:=a00 W _ _ h6 z hz;have:=(A4 t).2 z hz;exact C1 (ih z c (by omega) hc x hxy hv) (b5Q hz)
def binds (g:Ty) (c:List (Int×Ty)):List (Int×Ty):=(T8 g).filterMap λn=>c.find? λp=>p.1 == n
end Go.Proofs.YtncijebklnbhlaaGreatDoor.Vm
end
section
namespace Go.Proofs.YtncijebklnbhlaaGreatDoor.Vm
open Go.RowKit Go.ChangeShapes Go.WideShapes Go.Deep
section
inductive Deep (P:Program):Nat->List D->Nat->Prop
 | bool {t:Nat} (b:Bool) (h:P.underlying t=some .bool):Deep P t [.sc (.bool b)] 1
 | int {t:Nat} {k:IntKind} (n:Int) (h:P.underlying t=some (.int k)) (hw:(Lit.int k n).wf=true):Deep P t [.sc (.int k n)] 1
 | str {t:Nat} (s:ByteArray) (h:P.underlying t=some .string) (hs:s.size<=maxLen):Deep P t [.sc (.string s)] (s.size+1)
 | sl {t e:Nat} (rows:List (List D)) (ms:List Nat) (h:P.underlying t=some (.slice e)) (hl:ms.length=rows.length) (hb:rows.length<=maxLen)
   (hr:∀(i:Nat) (r:List D) (m:Nat),rows[i]?=some r->ms[i]?=some m->Deep P e r m):Deep P t [.sl (P.cellsOf e) rows] (ms.sum+1)
 | st {t:Nat} {fs:Array Field} (dss:List (List D)) (ms:List Nat) (h:P.underlying t=some (.struct fs)) (h1:dss.length=fs.size) (h2:ms.length=fs.size)
   (hf:∀(i:Nat) (f:Field) (ds:List D) (m:Nat),fs[i]?=some f->dss[i]?=some ds->ms[i]?=some m->Deep P f.type ds m):Deep P t dss.flatten (ms.sum+1)
def a0C (P:Program) (t:Nat) (r:R) (m:Nat):Prop:=match P.underlying t,r with
 | some (.struct _),.ag xs=>Deep P t xs m
 | some (.struct _),.one _=>False
 | _,.one x=>Deep P t [x] m
 | _,.ag _=>False
section
variable {P:Program} {t:Nat} {ds:List D} {m:Nat}
theorem Deep.unint {k:IntKind} (h:Deep P t ds m) (hu:P.underlying t=some (.int k)):∃n,ds=[.sc (.int k n)]/\(Lit.int k n).wf=true/\m=1:=by
 cases h with
 | int n h hw=>rw[hu] at h;cases h;exact⟨n,rfl,hw,rfl⟩
 | _=>simp_all
theorem Deep.unbool (h:Deep P t ds m) (hu:P.underlying t=some .bool):∃b,ds=[.sc (.bool b)]/\m=1:=by
 cases h with
 | bool b h=>exact⟨b,rfl,rfl⟩
 | _=>simp_all
theorem Deep.unstr (h:Deep P t ds m) (hu:P.underlying t=some .string):∃s:ByteArray,ds=[.sc (.string s)]/\s.size<=maxLen/\m=s.size+1:=by
 cases h with
 | str s h hs=>exact⟨s,rfl,hs,rfl⟩
 | _=>simp_all
theorem Deep.unsl {e:Nat} (h:Deep P t ds m) (hu:P.underlying t=some (.slice e)):∃(rows:List (List D)) (ms:List Nat),ds=[.sl (P.cellsOf e) rows]/\ms.length=rows.length/\rows.length<=maxLen/\m=ms.sum+1 /\
  ∀(i:Nat) (r:List D) (m:Nat),rows[i]?=some r->ms[i]?=some m->Deep P e r m:=by
 cases h with
 | sl rows ms h hl hb hr=>rw[hu] at h;cases h;exact⟨rows,ms,rfl,hl,hb,rfl,hr⟩
 | _=>simp_all
theorem Deep.unst {fs:Array Field} (h:Deep P t ds m) (hu:P.underlying t=some (.struct fs)):∃(dss:List (List D)) (ms:List Nat),ds=dss.flatten/\dss.length=fs.size/\ms.length=fs.size/\m=ms.sum+1 /\
  ∀(i:Nat) (f:Field) (ds:List D) (m:Nat),fs[i]?=some f->dss[i]?=some ds->ms[i]?=some m->Deep P f.type ds m:=by
 cases h with
 | st dss ms h h1 h2 hf=>rw[hu] at h;cases h;exact⟨dss,ms,rfl,h1,h2,rfl,hf⟩
 | _=>simp_all
theorem a0C.one {r:R} (h:a0C P t r m) (hu:∀fs,P.underlying t≠some (.struct fs)):∃x,r=.one x/\Deep P t [x] m:=by
 unfold a0C at h
 split at h
 ·exact absurd (by assumption) (hu _)
 ·exact h.elim
 ·exact⟨_,rfl,h⟩
 ·exact h.elim
theorem a0C.ag {r:R} {fs:Array Field} (h:a0C P t r m) (hu:P.underlying t=some (.struct fs)):∃xs,r=.ag xs/\Deep P t xs m:=by
 unfold a0C at h;rw[hu] at h;cases r with
 | one x=>exact h.elim
 | ag xs=>exact⟨xs,rfl,h⟩
end
def a5v (P:Program):List Field->Nat->Nat->Bool
 | [],n,c=>Nat.beq n c
 | f::fs,n,c=>Nat.beq f.offset n && a5v P fs (n+P.cellsOf f.type) c
def a9g (P:Program) (L:List Nat) (t:Nat):Bool:=match P.underlying t with
 | some .bool=>true
 | some (.int _)=>true
 | some .string=>true
 | some (.slice e)=>L.contains e && Nat.blt 0 (P.cellsOf e)
 | some (.struct fs)=>(fs.toList.all λf=>L.contains f.type) && a5v P fs.toList 0 (P.cellsOf t)
 | _=>false
def dataOk (P:Program) (L:List Nat):Bool:=L.all (a9g P L)
theorem a9h {β:Type}:∀ {n:Nat} {p:Nat->β->Prop},(∀i,i<n->∃b,p i b)->∃l:List β,l.length=n/\∀(i:Nat) b,l[i]?=some b->p i b
 | 0,p,h=>⟨[],rfl,λi b hi=>by simp at hi⟩
 | n+1,p,h=>by
  obtain⟨b0,h0⟩:=h 0 (by omega);obtain⟨l,hl,hp⟩:=a9h (n:=n) (p:=λi b=>p (i+1) b) λi hi=>h (i+1) (by omega)
  refine⟨b0::l,by simp[hl],λi b hi=>?_⟩;cases i with
  | zero=>simp at hi;subst hi;exact h0
  | succ i=>exact hp i b (by simpa using hi)
theorem a4E {I:Nat->Nat->Prop} {w:World}:∀ {css:List (List Value)} {dss:List (List D)},css.length=dss.length->(∀(i:Nat) cs ds,css[i]?=some cs->dss[i]?=some ds->A8 I w cs ds)->A8 I w css.flatten dss.flatten
 | [],[],_,_=>A8.nil I w
 | c::css,d::dss,hl,h=>by
  rw[List.flatten_cons,List.flatten_cons];exact(h 0 c d rfl rfl).append (a4E (by simpa using hl) λi cs ds h1 h2=>h (i+1) cs ds (by simpa using h1) (by simpa using h2))
 | [],_::_,hl,_=>by simp at hl
 | _::_,[],hl,_=>by simp at hl
theorem a6V {P:Program} {cs:List Value}:∀(fs:List Field) (n c:Nat),a5v P fs n c=true->cs.length=c->cs.drop n=(fs.map λf=>(cs.drop f.offset).take (P.cellsOf f.type)).flatten
 | [],n,c,h,hl=>by
  have:n=c:=Nat.eq_of_beq_eq_true h;rw[List.drop_eq_nil_of_le (by omega)];rfl
 | f::fs,n,c,h,hl=>by
  rw[a5v,Bool.and_eq_true] at h;have h1:f.offset=n:=Nat.eq_of_beq_eq_true h.1;rw[List.map_cons,List.flatten_cons,<-a6V fs _ c h.2 hl,h1,<-List.drop_drop,List.take_append_drop]
theorem a6W {H:Type}:∀ {ms:List Nat} {els:List (DataW H)},ms.length=els.length->(∀(i m:Nat) y,ms[i]?=some m->els[i]?=some y->m<=Rows.uptoBulk y)->ms.sum<=Rows.uptoBulkAll els
 | [],[],_,_=>by simp
 | m::ms,y::els,hl,h=>by
  have h1:=h 0 m y rfl rfl;have h2:=a6W (ms:=ms) (els:=els) (by simpa using hl) λi m y hm hy=>h (i+1) m y (by simpa using hm) (by simpa using hy)
  simp only[List.sum_cons,Rows.uptoBulkAll];omega
 | [],_::_,hl,_=>by simp at hl
 | _::_,[],hl,_=>by simp at hl
def Low (w:World) (b _h:Nat):Prop:=b<w.heap.size
section
variable {H:Type} {enc:TypeId×Value->H} {P:Program} {w:World} {base:Nat} {spare:Nat->Bool} {held:Bool}
theorem a4F {L:List Nat} (hL:dataOk P L=true):∀(fuel t:Nat) (cs:List Value) (x:DataW H×List MemPlace),t∈L->DataW.trod enc P w base spare held fuel t cs=some x->∃ds m,A8 (Low w) w cs ds/\Deep P t ds m/\m<=Rows.uptoBulk x.1
 | 0,t,cs,x,ht,h=>by simp[DataW.trod] at h
 | fuel+1,t,cs,x,ht,h=>by
  have hk:=List.all_eq_true.1 hL t ht;unfold a9g at hk
  split at hk
  ·rename_i e;obtain⟨b,rfl,rfl⟩:=DataW.trod_bool e h;exact⟨_,_,A8.cons (.sc _ rfl) (A8.nil _ _),.bool b e,by simp[Rows.uptoBulk]⟩
  ·rename_i k e;obtain⟨n,rfl,rfl,hw⟩:=DataW.trod_int e h;exact⟨_,_,A8.cons (.sc _ rfl) (A8.nil _ _),.int n e hw,by simp[Rows.uptoBulk]⟩
  ·rename_i e;obtain⟨s,rfl,rfl,hs⟩:=DataW.trod_string e h;refine⟨_,_,A8.cons (.sc _ rfl) (A8.nil _ _),.str s e hs,?_⟩;have e2:s.data.toList.length=s.size:=by rw[Array.length_toList];rfl
   simp only[Rows.uptoBulk];omega
  ·rename_i e he;simp only[Bool.and_eq_true,List.contains_iff_mem,Nat.blt_eq] at hk
   rcases DataW.trod_slice he h with⟨rfl,rfl⟩|⟨a,len,cap,elems,rest,n,hfu,rfl,rfl,hb,hl,hm,hlen,hel,_,_⟩
   ·exact⟨_,_,A8.cons (.nil none 0 (P.cellsOf e)) (A8.nil _ _),.sl [] [] he rfl (Nat.zero_le _) (λi r m hr=>by simp at hr),by simp[Rows.uptoBulk]⟩
   ·obtain rfl:n=fuel:=by omega
    have each:∀i,i<len->∃q:List Value×List D×Nat,(w.cells? base (a.add (i * P.cellsOf e)) (P.cellsOf e)=some q.1)/\A8 (Low w) w q.1 q.2.1/\Deep P e q.2.1 q.2.2/\∃y,elems[i]?=some y/\q.2.2<=Rows.uptoBulk y.1:=by
     intro i hi;have h1:=hel i hi;have hei:elems[i]?=some (elems[i]'(by omega)):=List.getElem?_eq_getElem (by omega);rw[hei,Option.bind_eq_some_iff] at h1;obtain⟨cs',hc,ht'⟩:=h1;obtain⟨ds,m,h2,h3,h4⟩:=a4F hL n e cs' _ hk.1 ht';exact⟨(cs',ds,m),hc,h2,h3,_,hei,h4⟩
    obtain⟨l,hll,hp⟩:=a9h each
    have hmap:∀ {β:Type} (f:List Value×List D×Nat->β) (i:Nat) (b:β),(l.map f)[i]?=some b->∃q,l[i]?=some q/\f q=b:=λf i b hi=>by
     rw[List.getElem?_map,Option.map_eq_some_iff] at hi;exact hi
    have hrl:(l.map λq=>q.2.1).length=len:=by rw[List.length_map,hll]
    have hcl:∀r∈l.map (λq=>q.1),r.length=P.cellsOf e:=λr hr=>by
     obtain⟨i,hi⟩:=List.mem_iff_getElem?.1 hr;obtain⟨q,hq,rfl⟩:=hmap _ i r hi;exact(World.cells?_some (hp i q hq).1).2.1
    have hdl:∀r∈l.map (λq=>q.2.1),r.length=P.cellsOf e:=λr hr=>by
     obtain⟨i,hi⟩:=List.mem_iff_getElem?.1 hr;obtain⟨q,hq,rfl⟩:=hmap _ i r hi;rw[<-(hp i q hq).2.1.1];exact(World.cells?_some (hp i q hq).1).2.1
    have hD:Deep P t [.sl (P.cellsOf e) (l.map λq=>q.2.1)] ((l.map λq=>q.2.2).sum+1):=by
     refine .sl _ _ he (by simp) (by rw[hrl];omega) λi r m hr hm=>?_
     obtain⟨q,hq,rfl⟩:=hmap _ i r hr;obtain⟨q',hq',rfl⟩:=hmap _ i m hm;rw[hq] at hq';cases hq';exact(hp i q hq).2.2.1
    have hB:(l.map λq=>q.2.2).sum+1<=Rows.uptoBulk (DataW.slice (elems.map (·.1)) (rest.map (·.1))):=by
     have:=a6W (ms:=l.map λq=>q.2.2) (els:=elems.map (·.1)) (by simp[hll,hlen]) λi m y hm hy=>by
      obtain⟨q,hq,rfl⟩:=hmap _ i m hm;obtain⟨y',hy',h4⟩:=(hp i q hq).2.2.2;rw[List.getElem?_map,hy'] at hy;cases hy;exact h4
     simp only[Rows.uptoBulk];omega
    refine⟨_,_,A8.cons ?_ (A8.nil _ _),hD,hB⟩
    by_cases h0:len=0
    ·subst h0;rw[List.eq_nil_of_length_eq_zero hll];exact .nil _ _ _
    obtain⟨b,off,spot⟩:=a;obtain⟨q0,hq0⟩:∃q,l[0]?=some q:=⟨_,List.getElem?_eq_getElem (by omega)⟩;have hc0:=(World.cells?_some (hp 0 q0 hq0).1).2;have hq00:q0.1[0]?=some (q0.1[0]'(by omega)):=List.getElem?_eq_getElem (by omega);have hcell0:=(hc0.2 0 hk.2).trans hq00
    have hspot:spot=none:=by
     have:=World.cell?_spot hcell0
     simpa [Addr.add] using this
    subst hspot
    have hblk:b<w.heap.size:=by
     have:=World.block_lt_of_cell? w _ hcell0
     simpa [Addr.add] using this
    have add0:∀o j,(⟨b,o,none⟩:Addr).add j=⟨b,o+j,none⟩:=λo j=>by
     unfold Addr.add
     by_cases hj:j=0
     ·subst hj;rfl
     ·simp[hj]
    have hus:(l.map λq=>q.1).flatten.length=len * P.cellsOf e:=by rw[a0v hcl,List.length_map,hll]
    have hsl:=AtD.sl (I:=Low w) (w:=w) b off cap (P.cellsOf e) (l.map λq=>q.2.1) (l.map λq=>q.1).flatten (by rw[hrl];exact hl) ⟨_,Nat.le_refl _,hblk⟩ hdl (by rw[hus,hrl]) (λi u hu=>?_) (λi u d hu hd=>?_)
    ·rw[hrl] at hsl;exact hsl
    ·have hi:i<len * P.cellsOf e:=by rw[<-hus];exact(List.getElem?_eq_some_iff.1 hu).1
     have hq:i / P.cellsOf e<len:=(Nat.div_lt_iff_lt_mul hk.2).2 hi;have hr:i % P.cellsOf e<P.cellsOf e:=Nat.mod_lt _ hk.2;have ei:i / P.cellsOf e * P.cellsOf e+i % P.cellsOf e=i:=by rw[Nat.mul_comm];exact Nat.div_add_mod i _
     obtain⟨q,hqq⟩:∃q,l[i / P.cellsOf e]?=some q:=⟨_,List.getElem?_eq_getElem (by omega)⟩;have hcq:=(World.cells?_some (hp _ q hqq).1).2.2 _ hr;have hfl:=Z2 hcl (i:=i / P.cellsOf e) (j:=i % P.cellsOf e) (r:=q.1) (by rw[List.getElem?_map,hqq];rfl) hr;rw[ei,hu] at hfl;rw[<-hfl,add0,add0,Nat.add_assoc,ei] at hcq;exact hcq
    ·exact(a4E (I:=Low w) (w:=w) (css:=l.map λq=>q.1) (dss:=l.map λq=>q.2.1) (by simp) λi cs ds h1 h2=>by
      obtain⟨q,hq,rfl⟩:=hmap _ i cs h1;obtain⟨q',hq',rfl⟩:=hmap _ i ds h2;rw[hq] at hq';cases hq'
      exact(hp i q hq).2.1).2 i u d hu hd
  ·rename_i fs he;simp only[Bool.and_eq_true,List.all_eq_true,List.contains_iff_mem] at hk;obtain⟨xs,n,hfu,rfl,hcl,hxl,hf⟩:=DataW.trod_struct he h;obtain rfl:n=fuel:=by omega
   have each:∀i,i<fs.size->∃q:List D×Nat,∀f,fs[i]?=some f->A8 (Low w) w ((cs.drop f.offset).take (P.cellsOf f.type)) q.1/\Deep P f.type q.1 q.2/\∃y,xs[i]?=some y/\q.2<=Rows.uptoBulk y.1:=by
    intro i hi;have hfi:fs[i]?=some fs[i]:=Array.getElem?_eq_getElem hi;have hxi:xs[i]?=some (xs[i]'(by omega)):=List.getElem?_eq_getElem (by omega);have h1:=hf i _ hfi;rw[hxi] at h1;obtain⟨ds,m,h2,h3,h4⟩:=a4F hL n _ _ _ (hk.1 _ (Array.getElem_mem_toList ..)) h1;refine⟨(ds,m),λf hff=>?_⟩;rw[hfi] at hff;cases hff;exact⟨h2,h3,_,hxi,h4⟩
   obtain⟨l,hll,hp⟩:=a9h each
   have hmap:∀ {β:Type} (f:List D×Nat->β) (i:Nat) (b:β),(l.map f)[i]?=some b->∃q,l[i]?=some q/\f q=b:=λf i b hi=>by
    rw[List.getElem?_map,Option.map_eq_some_iff] at hi;exact hi
   refine⟨(l.map (·.1)).flatten,(l.map (·.2)).sum+1,?_,.st _ _ he (by simp[hll]) (by simp[hll]) λi f ds m h1 h2 h3=>?_,?_⟩
   ·have hcut:=a6V fs.toList 0 _ hk.2 hcl;rw[List.drop_zero] at hcut;rw[hcut];refine a4E (by simp[hll]) λi c d h1 h2=>?_
    rw[List.getElem?_map,Option.map_eq_some_iff] at h1;obtain⟨f,hfi,rfl⟩:=h1;obtain⟨q,hq,rfl⟩:=hmap _ i d h2;exact(hp i q hq f (by simpa using hfi)).1
   ·obtain⟨q,hq,rfl⟩:=hmap _ i ds h2;obtain⟨q',hq',rfl⟩:=hmap _ i m h3;rw[hq] at hq';cases hq';exact(hp i q hq f h1).2.1
   ·have:=a6W (ms:=l.map (·.2)) (els:=xs.map (·.1)) (by simp[hll,hxl]) λi m y hm hy=>by
     obtain⟨q,hq,rfl⟩:=hmap _ i m hm;have hlt:i<fs.size:=by rw[<-hll];exact(List.getElem?_eq_some_iff.1 hq).1
     obtain⟨y',hy',h4⟩:=(hp i q hq _ (Array.getElem?_eq_getElem hlt)).2.2;rw[List.getElem?_map,hy'] at hy;cases hy;exact h4
    simp only[Rows.uptoBulk];omega
  ·cases hk
theorem open_arg {L:List Nat} (hL:dataOk P L=true) {t:Nat} {v:Value} {d:DataW H} {ps:List MemPlace} {rc:Reach} {b0:Nat} (ht:L.contains t=true) (hv:Value.okWide P w rc b0 t v) (h:DataW.Trod enc P w base spare held t v d ps) :
  ∃r m,AtR (Low w) w v r/\a0C P t r m/\m<=Rows.uptoBulk d:=by
 rw[List.contains_iff_mem] at ht;obtain⟨fuel,hf⟩:=h;obtain⟨ds,m,h1,h2,h3⟩:=a4F hL fuel t _ _ ht hf;have hk:=List.all_eq_true.1 hL t ht;unfold a9g at hk
 split at hk
 ·rename_i e;obtain⟨b,rfl⟩:=okWide_bool e hv;obtain⟨b',rfl,rfl⟩:=h2.unbool e;obtain⟨u,us',e2,h4,_⟩:=h1.uncons
  simp[Value.cells] at e2
  rw[<-e2.1] at h4;exact⟨.one _,_,h4,by unfold a0C;rw[e];exact h2,h3⟩
 ·rename_i k e;obtain⟨b,rfl⟩:=okWide_int e hv;obtain⟨b',rfl,_,rfl⟩:=h2.unint e;obtain⟨u,us',e2,h4,_⟩:=h1.uncons
  simp[Value.cells] at e2
  rw[<-e2.1] at h4;exact⟨.one _,_,h4,by unfold a0C;rw[e];exact h2,h3⟩
 ·rename_i e;obtain⟨b,rfl⟩:=okWide_string e hv;obtain⟨b',rfl,_,rfl⟩:=h2.unstr e;obtain⟨u,us',e2,h4,_⟩:=h1.uncons
  simp[Value.cells] at e2
  rw[<-e2.1] at h4;exact⟨.one _,_,h4,by unfold a0C;rw[e];exact h2,h3⟩
 ·rename_i el e;obtain⟨a,len,cap,rfl⟩:=okWide_slice e hv;obtain⟨rows,ms,rfl,_,_,rfl,_⟩:=h2.unsl e;obtain⟨u,us',e2,h4,_⟩:=h1.uncons
  simp[Value.cells] at e2
  rw[<-e2.1] at h4;exact⟨.one _,_,h4,by unfold a0C;rw[e];exact h2,h3⟩
 ·rename_i fs e;obtain⟨cs,rfl,_⟩:=okWide_struct e hv;exact⟨.ag ds,m,⟨cs.toList,by simp,h1⟩,by unfold a0C;rw[e];exact h2,h3⟩
 ·cases hk
end
theorem law_true {f:Nat} {rs:List R} (h:j5 f rs [.one (.sc (.bool true))]) {w:World} {args:List Value} (hat:a4i (Low w) w args rs) (hT:Tabs (λ_=>False) w:=by exact λ_ h=>nomatch h):Calls Tryz.prog f args.toArray w λe w'=>e=.returned (.bool true)/\Below w.heap.size w w':=by
 refine(h.2 (Low w) w args ⟨λ_ _ h=>h,hT⟩ hat).mono ?_
 rintro e w' ⟨v,rfl,hv,hb⟩
 cases hv;exact⟨rfl,hb⟩
end
end Go.Proofs.YtncijebklnbhlaaGreatDoor.Vm
end
section
namespace Go.Proofs.YtncijebklnbhlaaGreatDoor.Vm
open Go.RowKit
set_option maxRecDepth 100000
set_option maxHeartbeats 4000000

def b1P (x:Ty):Prop:=x.name.size<=maxLen/\(Lit.int .u8 x.op).wf=true/\(Lit.int .i64 x.n).wf=true
def a1C (t:Ty):Prop:=∀x∈t.parts,b1P x
theorem a1C.kid {t k:Ty} (h:a1C t) (hk:k∈t.kids):a1C k:=λx hx=>h x (by rw[o9];exact List.mem_cons_of_mem _ (List.mem_flatMap.2 ⟨k,hk,hx⟩))
theorem a1C.self {t:Ty} (h:a1C t):b1P t:=h t (by rw[A3];exact List.mem_cons_self ..)
theorem b5R:Tryz.prog.cellsOf 25=4:=by kernel_rfl
set_option maxRecDepth 100000 in
theorem b7C:∀(m:Nat) (ds:List D),Deep Tryz.prog 25 ds m->∃t:Ty,ds=cT t/\t.parts.length<=m/\a1C t/\∀x∈t.parts,x.name.size<=m:=by
 intro m
 induction m using Nat.strongRecOn with
 | ind m ih =>
  intro ds h;obtain⟨dss,ms,rfl,h1,h2,rfl,hf⟩:=h.unst Tryz.underlying25
  match dss,ms,h1,h2,hf with
  | [d0,d1,d2,d3],[m0,m1,m2,m3],_,_,hf =>
   obtain⟨op,rfl,w0,rfl⟩:=(hf 0 _ d0 m0 rfl rfl rfl).unint Tryz.underlying22;obtain⟨nm,rfl,w1,rfl⟩:=(hf 1 _ d1 m1 rfl rfl rfl).unstr Tryz.underlying9;obtain⟨n,rfl,w2,rfl⟩:=(hf 2 _ d2 m2 rfl rfl rfl).unint Tryz.underlying3;obtain⟨rows,ks,rfl,hl,hb,rfl,hr⟩:=(hf 3 _ d3 m3 rfl rfl rfl).unsl Tryz.underlying23;clear hf h
   have key:∀(rows:List (List D)) (ks:List Nat),ks.length=rows.length->ks.sum<1+(nm.size+1+(1+(ks.sum+1+0)))+1->(∀(i:Nat) (r:List D) (m':Nat),rows[i]?=some r->ks[i]?=some m'->m'<[1,nm.size+1,1,ks.sum+1].sum+1->∃t:Ty,r=cT t/\t.parts.length<=m'/\a1C t/\∀x∈t.parts,x.name.size<=m') ->
     ∃ts:List Ty,rows=rT ts/\(v8 ts).length<=ks.sum/\∀x∈v8 ts,b1P x/\x.name.size<=ks.sum:=by
    intro rows
    induction rows with
    | nil=>intro ks hl _ _;exact⟨[],by rw[rT],by rw[v8];simp,λx hx=>by rw[v8] at hx;simp at hx⟩
    | cons r rows ihr =>
     intro ks hl hs hrr
     match ks,hl with
     | k::ks,hl =>
      obtain⟨t,e1,e2,e3,e4⟩:=hrr 0 r k rfl rfl (by simp;omega);obtain⟨ts,f1,f2,f3⟩:=ihr ks (by simpa using hl) (by omega) λi r' m' hi hm hlt=>hrr (i+1) r' m' (by simpa using hi) (by simpa using hm) (by simp at hlt ⊢;omega)
      refine⟨t::ts,by rw[rT,e1,f1],by rw[v8,List.length_append,List.sum_cons];omega,λx hx=>?_⟩;rw[v8,List.mem_append] at hx
      rcases hx with hx|hx
      ·exact⟨e3 x hx,by have:=e4 x hx;rw[List.sum_cons];omega⟩
      ·exact⟨(f3 x hx).1,by have:=(f3 x hx).2;rw[List.sum_cons];omega⟩
   obtain⟨ts,e1,e2,e3⟩:=key rows ks hl (by omega) λi r m' hi hm hlt=>ih m' hlt r (hr i r m' hi hm)
   refine⟨.mk op nm n ts,?_,?_,λx hx=>?_,λx hx=>?_⟩
   ·rw[cT,e1,b5R];rfl
   ·rw[A3,List.length_cons];simp only[Ty.kids,List.sum_cons,List.sum_nil];omega
   ·rw[A3] at hx
    rcases List.mem_cons.1 hx with rfl|hx
    ·exact⟨w1,w0,w2⟩
    ·exact(e3 x hx).1
   ·rw[A3] at hx;simp only[List.sum_cons,List.sum_nil]
    rcases List.mem_cons.1 hx with rfl|hx
    ·simp only[Ty.name];omega
    ·have:=(e3 x hx).2;omega
def a4G (t:Ty):ByteArray:=⟨(l8 t).toArray⟩
theorem b06 {n:Int} (h:(Lit.int .i64 n).wf=true):n<=9223372036854775807:=by
 simp only[Lit.wf,IntKind.min,IntKind.max,IntKind.signed,IntKind.bits,Bool.and_eq_true,decide_eq_true_eq,if_true] at h;have:=h.2
 simpa using this
theorem a8b {t:Ty} {s:Int} (h:m8 r5 t s=true) (hn:∀x∈t.parts,a2m x=true->x.n<=9223372036854775807):Mod t:=λx hx=>by
 obtain⟨c,hc⟩:=b1N h x hx;obtain⟨k,hk,h1,h2,h3,h4,h5,h6⟩:=F4 hc;refine⟨?_,h4,?_⟩
 ·split at h3
  ·unfold r5 at h3;rw[Bool.and_eq_true] at h3;exact of_decide_eq_true h3.1
  ·have h3:=of_decide_eq_true h3
   have h7:x.name.size=0:=by
    have h8:=congrArg List.length h3;rw[ByteArray.toList_eq] at h8
    simpa using h8
   omega
 ·rcases h5 with h|h|h
  ·exact hn x hx (by rw[a28];exact .inl h)
  ·exact hn x hx (by rw[a28];exact .inr h)
  ·omega
theorem a8c {t:Ty} {s:Int} (h:x9 t s=true) (hw:a1C t):Mod (j7 t):=by
 have hs:=(I9 h).1;refine a8b (a2r _ t s (Nat.le_refl _) hs) λx hx hv=>?_
 exact b06 (hw x (a6U _ t s (Nat.le_refl _) hs x hx hv)).2.2
theorem a3X {t:Ty} (hM:Mod t) (hN:t.parts.length<=1048576):(l8 t).length<=67108864:=by
 have:=b9q hM;omega
theorem b7D (t:Ty) (ht:Sm t) (hw:a1C t) (hr:x9 t 116=true):j5 64 [.ag (cT t)] [.one (.sc (.string (a4G (j7 t)))),.one (.sc (.int .u8 0))]:=by
 have h1:=a6R t ht.1 ht.2;rw[hr] at h1;have h2:=b79 t ht;have he:H1 t=true:=by unfold H1;rw[hr];rfl
 rw[if_pos he] at h2;have hM:=a8c hr hw;have hsh:=(I9 hr).1;have hN:(j7 t).parts.length<=1048576:=by rw[a0o _ t (Nat.le_refl _) (B9 hsh)];exact ht.1
 have hroom:=a3X hM hN;have c1:=(b3D r5 _ (j7 t) (Nat.le_refl _) (a2r _ t 116 (Nat.le_refl _) hsh) hM).2 (by omega);have c2:=c0L (l8 (j7 t));unfold a4G;obtain⟨a0,a1,a2,a3,ha⟩:=l6 t;obtain⟨b0,b1,b2,b3,hb⟩:=l6 (j7 t);rw[ha] at h1 h2 ⊢;rw[hb] at h2 c1;rw[j8,r8] at c1;rw[j8] at c2;generalize rU (l8 (j7 t))=R1 at *;generalize (⟨(l8 (j7 t)).toArray⟩:ByteArray)=S at *;clear hroom;refine C2 Tryz.func64 rfl ?_;intros;rename_i hA
 iterate 2 (try cbv;repeat ((first|with_reducible apply j2 hA|refine j3 hA _ h1 rfl ?_|refine j4 hA _ h1 ?_|refine j3 hA _ h2 rfl ?_|refine j4 hA _ h2 ?_|(refine l9 hA [1] c1 ⟨rfl,rfl,rfl,rfl,rfl,rfl,rfl⟩ ?_;rintro _ _ ⟨rfl,rfl⟩)|(refine l9 hA [1,2] c2 ⟨rfl,rfl,rfl,rfl,rfl,rfl,rfl⟩ ?_;rintro _ _ ⟨rfl,rfl⟩));cbv))
section
abbrev Fz (s:ByteArray):Prop:=s.size<=1099511627776
theorem c0S (t:Ty) (ht:Sm t) (hw:a1C t) (hr:x9 t 116=true):j5 44 [.ag (cT t)] [.one (.sc (.string (a4G (j7 t))))]:=by
 have h0:=b7D t ht hw hr;obtain⟨a0,a1,a2,a3,ha⟩:=l6 t;rw[ha] at h0 ⊢;generalize a4G (j7 t)=S at *;refine C2 Tryz.func44 rfl ?_;intros;rename_i hA;cbv;exact fr
section
variable {op n:Int} {nm ar X Y A B:ByteArray} {d0 d1 d2 d3 d4 d5 d6 d7 d8 d9 b0 b1 b2 b3 b4 b5 b6 b7 b8 b9 c0 c1 c2 c3 c4 c5 c6 c7 c8 c9:D} {K:List (List D)} {has:Bool}
def a7l (has:Bool) (ar X:ByteArray):ByteArray:=if has=true then ⟨⟨[40]⟩⟩++ar++⟨⟨[32,58,32]⟩⟩++X++⟨⟨[41]⟩⟩ else ar
theorem b8r (h0:has=true->j5 44 [.ag [d5,d6,d7,d8]] [.one (.sc (.string X))]) (h1:Fz ar) (h2:Fz X):j5 24 [.ag [d0,d1,.sc (.string ar),d3,.sc (.bool has),d5,d6,d7,d8,d9]] [.one (.sc (.string (a7l has ar X)))]:=by
 unfold Fz at *;obtain⟨R,hR⟩:∃R,R=a7l has ar X:=⟨_,rfl⟩;rw[<-hR];unfold a7l at hR;cases has
 ·rw[if_neg (by decide)] at hR;rw[hR];clear h0;refine C2 Tryz.func24 rfl λqa qb qc qd qe qf qg qh qi qj qk ql qm qo qp qq qt qu qv qw qx qy qz va vc vd ve vf vg vh vj vk vl vm vn vo vp vq vr vt vu vv vw hA=>?_
  cbv;exact fr
 ·rw[if_pos rfl] at hR;replace h0:=h0 rfl;refine C2 Tryz.func24 rfl λqa qb qc qd qe qf qg qh qi qj qk ql qm qo qp qq qt qu qv qw qx qy qz va vc vd ve vf vg vh vj vk vl vm vn vo vp vq vr vt vu vv vw hA=>?_
  obtain⟨s1,s2,s3,s4,s5,s6,s7⟩:=o8 hA
  iterate 2 (try cbv;repeat ((first|with_reducible apply j2 hA|refine j3 hA _ h0 rfl ?_|refine j4 hA _ h0 ?_|(refine n9 hA (by simp only[s4,ByteArray.size_append,U0,List.length_cons,List.length_nil];omega) ?_));cbv))
  try simp (maxSteps:=4000000) only [nc] at *
  exact a2g (by rw[hR];simp only[s4])
theorem b2U (hK:K[0]?=some [b0,b1,b2,b3,b4,b5,b6,b7,b8,b9]) (h0:j5 12 [.ag [b0,b1,b2,b3,b4,b5,b6,b7,b8,b9]] [.one (.sc (.string X))]) (h1:Fz X):j5 25 [.ag [d0,d1,d2,d3,d4,d5,d6,d7,d8,.sl 10 K]] [.one (.sc (.string (⟨⟨[32,61,62,32]⟩⟩++X)))]:=by
 unfold Fz at *;obtain⟨R,hR⟩:∃R:ByteArray,R=⟨⟨[32,61,62,32]⟩⟩++X:=⟨_,rfl⟩;rw[<-hR];refine C2 Tryz.func25 rfl ?_;intro _ _ _ _ _ _ _ _ _ _ _ _ _ _ _ _ _ _ _ _ _ _ _ va;intros;rename_i hA;obtain⟨s1,s2,s3,s4,s5,s6,s7⟩:=o8 hA;have g0:va K 0=some [b0,b1,b2,b3,b4,b5,b6,b7,b8,b9]:=by rw[(n8 hA).2.1];exact hK
 iterate 2 (try cbv;repeat ((first|with_reducible apply j2 hA|rw[g0]|refine j3 hA _ h0 rfl ?_|refine j4 hA _ h0 ?_|(refine n9 hA (by simp only[s4,ByteArray.size_append,U0,List.length_cons,List.length_nil];omega) ?_));cbv))
 try simp (maxSteps:=4000000) only [nc] at *
 exact a2g (by rw[hR];simp only[s4])
def atB (k r:Int) (X:ByteArray):ByteArray:=if k<r then ⟨⟨[40]⟩⟩++X++⟨⟨[41]⟩⟩ else X
theorem a2s {k r:Int} {X:ByteArray}:(atB k r X).size<=X.size+2:=by
 unfold atB
 split
 ·simp only[ByteArray.size_append,U0,List.length_cons,List.length_nil];omega
 ·omega
theorem b8s {r:Int} (h0:j5 12 [.ag [.sc (.int .u8 op),.sc (.string nm),d2,d3,d4,d5,d6,d7,d8,d9]] [.one (.sc (.string X))]) (h1:Fz X):j5 27 [.ag [.sc (.int .u8 op),.sc (.string nm),d2,d3,d4,d5,d6,d7,d8,d9],.one (.sc (.int .i64 r))] [.one (.sc (.string (atB (rkM op nm) r X)))]:=by
 unfold Fz at *;have k0:=b5u (op:=op) (nm:=nm) (d2:=d2) (d3:=d3) (d4:=d4) (d5:=d5) (d6:=d6) (d7:=d7) (d8:=d8) (d9:=d9);generalize rkM op nm=k at *;obtain⟨R,hR⟩:∃R:ByteArray,R=atB k r X:=⟨_,rfl⟩;rw[<-hR];unfold atB at hR
 by_cases hk:k<r
 ·rw[if_pos hk] at hR;refine C2 Tryz.func27 rfl λqa qb qc qd qe qf qg qh qi qj qk ql qm qo qp qq qt qu qv qw qx qy qz va vc vd ve vf vg vh vj vk vl vm vn vo vp vq vr vt vu vv vw hA=>?_
  obtain⟨s1,s2,s3,s4,s5,s6,s7⟩:=o8 hA;obtain⟨e1,e2,e3,e4,e5,e6,e7,e8,e9⟩:=l7 hA;have q0:qi r k=false:=by rw[e8];exact decide_eq_false (by omega)
  iterate 2 (try cbv;repeat ((first|with_reducible apply j2 hA|rw[q0]|refine j3 hA _ h0 rfl ?_|refine j4 hA _ h0 ?_|refine j3 hA _ k0 rfl ?_|refine j4 hA _ k0 ?_|(refine n9 hA (by simp only[s4,ByteArray.size_append,U0,List.length_cons,List.length_nil];omega) ?_));cbv))
  try simp (maxSteps:=4000000) only [nc] at *
  exact a2g (by rw[hR];simp only[s4])
 ·rw[if_neg hk] at hR;rw[hR];refine C2 Tryz.func27 rfl λqa qb qc qd qe qf qg qh qi qj qk ql qm qo qp qq qt qu qv qw qx qy qz va vc vd ve vf vg vh vj vk vl vm vn vo vp vq vr vt vu vv vw hA=>?_
  obtain⟨e1,e2,e3,e4,e5,e6,e7,e8,e9⟩:=l7 hA;have q0:qi r k=true:=by rw[e8];exact decide_eq_true (by omega)
  cbv;exact fr
theorem b5S {l r:Int} (hn:rkM op nm=l) (hr:r=if l=0 then 1 else l) (hK:K[0]?=some [b0,b1,b2,b3,b4,b5,b6,b7,b8,b9]) (hL:K[1]?=some [c0,c1,c2,c3,c4,c5,c6,c7,c8,c9])
  (h0:j5 27 [.ag [b0,b1,b2,b3,b4,b5,b6,b7,b8,b9],.one (.sc (.int .i64 r))] [.one (.sc (.string A))]) (h1:j5 27 [.ag [c0,c1,c2,c3,c4,c5,c6,c7,c8,c9],.one (.sc (.int .i64 (l+1)))] [.one (.sc (.string B))]) (ha:Fz A) (hb:Fz B) (hm:Fz nm) :
  j5 26 [.ag [.sc (.int .u8 op),.sc (.string nm),d2,d3,d4,d5,d6,d7,d8,.sl 10 K]] [.one (.sc (.string (A++⟨⟨[32]⟩⟩++nm++⟨⟨[32]⟩⟩++B)))]:=by
 unfold Fz at *;have k0:=b5u (op:=op) (nm:=nm) (d2:=d2) (d3:=d3) (d4:=d4) (d5:=d5) (d6:=d6) (d7:=d7) (d8:=d8) (d9:=.sl 10 K);obtain⟨hl0,hl6⟩:=c0C op nm;rw[hn] at k0 hl0 hl6;clear hn;obtain⟨R,hR⟩:∃R:ByteArray,R=A++⟨⟨[32]⟩⟩++nm++⟨⟨[32]⟩⟩++B:=⟨_,rfl⟩;rw[<-hR];obtain⟨z,hz⟩:∃z,z=l+1:=⟨_,rfl⟩;rw[<-hz] at h1
 by_cases hl:l=0
 ·subst hl;rw[if_pos rfl] at hr;subst hr;refine C2 Tryz.func26 rfl λqa qb qc qd qe qf qg qh qi qj qk ql qm qo qp qq qt qu qv qw qx qy qz va vc vd ve vf vg vh vj vk vl vm vn vo vp vq vr vt vu vv vw hA=>?_
  obtain⟨s1,s2,s3,s4,s5,s6,s7⟩:=o8 hA;obtain⟨e1,e2,e3,e4,e5,e6,e7,e8,e9⟩:=l7 hA;have g0:va K 0=some [b0,b1,b2,b3,b4,b5,b6,b7,b8,b9]:=by rw[(n8 hA).2.1];exact hK
  have g1:va K 1=some [c0,c1,c2,c3,c4,c5,c6,c7,c8,c9]:=by rw[(n8 hA).2.1];exact hL
  have q0:qa .i64 (qb 0 1)=z:=by rw[e1,e2,hz];rfl
  have q1:qj 0 0=true:=e9 _ _
  iterate 2 (try cbv;repeat ((first|with_reducible apply j2 hA|rw[g0]|rw[g1]|rw[q0]|rw[q1]|refine j3 hA _ h0 rfl ?_|refine j4 hA _ h0 ?_|refine j3 hA _ h1 rfl ?_|refine j4 hA _ h1 ?_|refine j3 hA _ k0 rfl ?_|refine j4 hA _ k0 ?_|(refine n9 hA (by simp only[s4,ByteArray.size_append,U0,List.length_cons,List.length_nil];omega) ?_));cbv))
  try simp (maxSteps:=4000000) only [nc] at *
  exact a2g (by rw[hR];simp only[s4])
 ·rw[if_neg hl] at hr;subst hr;refine C2 Tryz.func26 rfl λqa qb qc qd qe qf qg qh qi qj qk ql qm qo qp qq qt qu qv qw qx qy qz va vc vd ve vf vg vh vj vk vl vm vn vo vp vq vr vt vu vv vw hA=>?_
  obtain⟨s1,s2,s3,s4,s5,s6,s7⟩:=o8 hA;obtain⟨e1,e2,e3,e4,e5,e6,e7,e8,e9⟩:=l7 hA;have g0:va K 0=some [b0,b1,b2,b3,b4,b5,b6,b7,b8,b9]:=by rw[(n8 hA).2.1];exact hK
  have g1:va K 1=some [c0,c1,c2,c3,c4,c5,c6,c7,c8,c9]:=by rw[(n8 hA).2.1];exact hL
  have q0:qa .i64 (qb r 1)=z:=by rw[e1,e2,hz,IntWalk.i64_in _ (by omega)]
  have q1:qj r 0=false:=by rw[e9];exact beq_false_of_ne hl
  iterate 2 (try cbv;repeat ((first|with_reducible apply j2 hA|rw[g0]|rw[g1]|rw[q0]|rw[q1]|refine j3 hA _ h0 rfl ?_|refine j4 hA _ h0 ?_|refine j3 hA _ h1 rfl ?_|refine j4 hA _ h1 ?_|refine j3 hA _ k0 rfl ?_|refine j4 hA _ k0 ?_|(refine n9 hA (by simp only[s4,ByteArray.size_append,U0,List.length_cons,List.length_nil];omega) ?_));cbv))
  try simp (maxSteps:=4000000) only [nc] at *
  exact a2g (by rw[hR];simp only[s4])
end
end
theorem Tm.ind {P:Tm->Prop} (h:∀op nm ar n b a ks,(∀k∈ks,P k)->P (.mk op nm ar n b a ks)):∀t,P t
 | .mk op nm ar n b a ks=>h op nm ar n b a ks λk hk=>Tm.ind h k
mutual
def l4:Tm->List Tm
 | .mk op nm ar n h a ks=>.mk op nm ar n h a ks::A9 ks
def A9:List Tm->List Tm
 | []=>[]
 | t::ts=>l4 t++A9 ts
end
theorem I3:∀l:List Tm,A9 l=l.flatMap l4
 | []=>by rw[A9];rfl
 | t::l=>by rw[A9,I3 l];rfl
def anM:Tm->Ty
 | .mk _ _ _ _ _ a _=>a
theorem r9 (t:Tm):1<=(l4 t).length:=by
 obtain⟨op,nm,ar,n,h,a,ks⟩:=t;rw[l4,List.length_cons];omega
theorem a5w {α β:Type} (f:α->List β) (hf:∀x,1<=(f x).length):∀l:List α,l.length<=(l.flatMap f).length
 | []=>Nat.le_refl _
 | x::l=>by
  rw[List.flatMap_cons,List.length_append,List.length_cons];have:=a5w f hf l;have:=hf x;omega
theorem B4 {l:List Tm} {k:Nat} {t:Tm} (h:l[k]?=some t):(rM l)[k]?=some (cM t):=by rw[a47,List.getElem?_map,h];rfl
theorem b7E:∀t:Tm,(l4 t).length<=1048576->j5 9 [.ag (cM t)] [.one (.sl 10 (rM (l4 t)))]:=by
 intro t
 induction t using Tm.ind with
 | h op nm ar n b a ks ih =>
  intro hN
  have hkk:∀k∈ks,(l4 k).length<=1048576:=λk hk=>by
   rw[l4,I3,List.length_cons] at hN;obtain⟨i,hi,e⟩:=List.getElem_of_mem hk;have:=a66 l4 ks i k (by rw[List.getElem?_eq_getElem hi,e]);omega
  have hcp:=λk hk=>ih k hk (hkk k hk)
  rw[l4,I3] at hN ⊢;have hft:=λk=>a7T l4 ks k
  have hfl:=a5w l4 r9 ks;have hfo:=λk q h=>a66 l4 ks k q h
  obtain⟨F,hF⟩:∃F,F=(ks.flatMap l4).length:=⟨_,rfl⟩;rw[List.length_cons,<-hF] at hN;rw[<-hF] at hfl;simp only[<-hF] at hft hfo;clear ih hkk;obtain⟨X,hX⟩:∃X,X=rM (.mk op nm ar n b a ks::ks.flatMap l4):=⟨_,rfl⟩;rw[<-hX];obtain⟨a0,a1,a2,a3,haa⟩:=l6 a;have hc0:cM (.mk op nm ar n b a ks)=[.sc (.int .u8 op),.sc (.string nm),.sc (.string ar),.sc (.int .i64 n),.sc (.bool b),a0,a1,a2,a3,.sl 10 (rM ks)]:=by rw[cM,haa];rfl
  rw[hc0];obtain⟨K,hK⟩:∃K,K=rM ks:=⟨_,rfl⟩;rw[<-hK];rw[<-hK] at hc0;have hln:K.length=ks.length:=by rw[hK,a2i]
  obtain⟨inv,hv⟩:∃inv:Int×List (List D)->Prop,inv=λx=>∃k:Nat,x.1=(k:Int)/\k<=ks.length/\x.2=rM (.mk op nm ar n b a ks::(ks.take k).flatMap l4):=⟨_,rfl⟩
  have hi0:inv (0,[[.sc (.int .u8 op),.sc (.string nm),.sc (.string ar),.sc (.int .i64 n),.sc (.bool b),a0,a1,a2,a3,.sl 10 K]]):=by rw[hv];exact⟨0,rfl,Nat.zero_le _,by rw[List.take_zero,List.flatMap_nil,rM,rM,hc0]⟩
  refine C2 Tryz.func9 rfl ?_;intro qa qb _ _ _ _ _ qh _ _ _ _ _ _ _ _ _ _ _ _ _ _ qz va;intros;rename_i hA;obtain⟨e1,e2,e3,e4,e5,e6,e7,e8,e9⟩:=l7 hA;obtain⟨r1,r2,r3,r4⟩:=n8 hA
  iterate 2 (try cbv;repeat ((first|with_reducible apply j2 hA|refine y7 hA false ?_|refine a3e hA true ?_);cbv))
  try simp (maxSteps:=4000000) only [nc] at *
  refine o5 hA (γ:=Int×List (List D)) (λx=>[(4,vi .i64 x.1),(3,.own 1),(6,.jk)]) (λx=>[(1,.row true 28 x.2)]) inv (λx=>ks.length - x.1.toNat) (0,[[.sc (.int .u8 op),.sc (.string nm),.sc (.string ar),.sc (.int .i64 n),.sc (.bool b),a0,a1,a2,a3,.sl 10 K]]) hi0 ?_ ?_
  ·cbv
  ·intro x hinv;obtain⟨z,L⟩:=x;cbv;refine gn ?_;try simp only[nc] at *
   rw[hv] at hinv;obtain⟨k,hz,hk,hE⟩:=hinv;replace hz:z=(k:Int):=hz;replace hE:L=rM (.mk op nm ar n b a ks::(ks.take k).flatMap l4):=hE;have hLl:L.length<=1048577:=by rw[hE,a2i,List.length_cons];have:=hft k;omega
   have hlt:qh z (qz K)=decide (k<ks.length):=by rw[e7,r1,hln,hz];exact decide_eq_decide.2 (by omega)
   by_cases h9:k<ks.length
   ·rw[decide_eq_true h9] at hlt;obtain⟨x,hx⟩:∃x,ks[k]?=some x:=⟨_,List.getElem?_eq_getElem h9⟩;have h0:=hcp x (List.mem_of_getElem? hx);obtain⟨d0,d1,d2,d3,d4,d5,d6,d7,d8,d9,hd⟩:=W9 x;have gx:va K z=some [d0,d1,d2,d3,d4,d5,d6,d7,d8,d9]:=by rw[r2,hz,if_pos (by omega),show ((k:Int)).toNat=k by omega,hK,B4 hx,hd]
    rw[hd] at h0;have hz1:qa .i64 (qb z 1)=((k+1:Nat):Int):=by rw[e1,e2,hz,IntWalk.i64_in _ (by omega)];omega
    have hm:ks.length - (qa .i64 (qb z 1)).toNat<ks.length - z.toNat:=by rw[hz1,hz];omega
    have hi:inv (qa .i64 (qb z 1),L++rM (l4 x)):=by
     rw[hv];refine⟨k+1,hz1,h9,?_⟩;show L++_=_;rw[hE,a1c hx,List.flatMap_append,List.flatMap_cons,List.flatMap_nil,List.append_nil,<-List.cons_append,a47,a47,a47,List.map_append]
    have hq2:(rM (l4 x)).length<=1048576:=by rw[a2i];have:=hfo k x hx;omega
    generalize rM (l4 x)=Q at *;rw[hlt]
    iterate 2 (try cbv;repeat ((first|with_reducible apply j2 hA|rw[gx]|refine j3 hA _ h0 rfl ?_|refine j4 hA _ h0 ?_|rw[ea hA]|refine y9 hA (by omega) ?_);cbv))
    try simp (maxSteps:=4000000) only [nc] at *
    refine⟨_,hi,hm,?_⟩;cbv
   ·rw[decide_eq_false h9] at hlt;have hL2:X=L:=by rw[hX,hE,List.take_of_length_le (by omega)]
    rw[hlt,hL2]
    try cbv;exact fr
def shM (op:Int):Option (Bool×Bool×Nat×Nat) :=
 if op=32 then some (true,false,0,0) else if op=33\/op=34\/op=41 then some (false,false,0,0) else if op=35 then some (false,true,1,1) else if op=36 then some (true,true,1,1)
 else if op=37 then some (false,false,2,0) else if op=38\/op=42\/op=45 then some (true,false,2,0) else if op=39 then some (false,false,3,0) else if op=40 then some (true,false,2,0)
 else if op=43\/op=44\/op=46\/op=47 then some (true,false,1,0) else if op=48 then some (false,false,99,0) else if op=49 then some (true,true,1,0) else if op=50 then some (false,true,1,0)
 else if op=51 then some (false,false,1,2) else none
def a12:List ByteArray:=[⟨#[43]⟩,⟨#[45]⟩,⟨#[42]⟩,⟨#[47]⟩,⟨#[37]⟩,⟨#[60]⟩,⟨#[61,61]⟩]
def T9 (s:ByteArray) (should:Bool):Bool:=if should=true then r5 s else s.data.toList == []
def J7:Ty->Bool
 | .mk op nm n ks=>op == 0 && (nm.data.toList == [] && (n == 0 && ks.isEmpty))
def ndB (G:Ty->Bool) (arm:Bool) (op:Int) (nm ar:ByteArray) (n:Int) (h:Bool) (a:Ty) (len:Nat):Bool:=match shM op with
 | none=>false
 | some (x,y,c,v)=>(arm == (op == 49 || op == 50)) && ((if op=33 then decide (0<=n) else if op=34 then n == 0 || n == 1 else n == 0) && ((if h=true then decide (0<v) && G a else decide (v<2) && J7 a) && (T9 ar y &&
   ((if op=40 then a12.any λs=>s.data.toList == nm.data.toList else T9 nm x) && (if c=99 then decide (0<len) else len == c)))))
def opM:Tm->Int
 | .mk op _ _ _ _ _ _=>op
mutual
def rtM (G:Ty->Bool):Bool->Tm->Bool
 | arm,.mk op nm ar n h a ks=>ndB G arm op nm ar n h a ks.length && rtK G (op == 48) true ks
def rtK (G:Ty->Bool) (cs:Bool):Bool->List Tm->Bool
 | _,[]=>true
 | first,k::ks=>rtM G (cs && !first) k && ((!(cs && !first) || (opM k != 50 || ks.isEmpty)) && rtK G cs false ks)
end
def Tx (t:Tm) (X:ByteArray):Prop:=Fz X/\j5 12 [.ag (cM t)] [.one (.sc (.string X))]
inductive Ch:Tm->List ByteArray->Tm->Prop
 | nil (u:Tm):opM u≠42->Ch u [] u
 | cons {nm ar X:ByteArray} {n:Int} {h:Bool} {an:Ty} {a b u:Tm} {ps:List ByteArray}:Fz nm->Tx a X->Ch b ps u->Ch (.mk 42 nm ar n h an [a,b]) ((nm++⟨⟨[32,61,32]⟩⟩++X)::ps) u
theorem b2V (ps:List ByteArray) (s:ByteArray):rS ps++[[.sc (.string s)]]=rS (ps++[s]):=by unfold rS;rw[List.map_append];rfl
theorem b1Q (t:Tm):∃nm ar n h ks x5 x6 x7 x8,cM t=[.sc (.int .u8 (opM t)),.sc (.string nm),.sc (.string ar),.sc (.int .i64 n),.sc (.bool h),x5,x6,x7,x8,.sl 10 (rM ks)]:=by
 obtain⟨op,nm,ar,n,h,a,ks⟩:=t;obtain⟨x0,x1,x2,x3,hx⟩:=l6 a;exact⟨nm,ar,n,h,ks,x0,x1,x2,x3,by rw[cM,hx];rfl⟩
def a2D (ps:List ByteArray) (op:Int) (U:ByteArray):ByteArray:=if op=41 then E8 ps ⟨⟨[44,32]⟩⟩ else E8 ps ⟨⟨[44,32]⟩⟩++(⟨⟨[32,124,32]⟩⟩++U)
theorem c0U (t u:Tm) (P0:ByteArray) (PS:List ByteArray) (U:ByteArray) (hc:Ch t (P0::PS) u) (hlen:(P0::PS).length<=1048576) (hj:Fz (E8 (P0::PS) ⟨⟨[44,32]⟩⟩)) (hu:opM u≠41->Tx u U) :
  j5 46 [.ag (cM t)] [.one (.sc (.string (a2D (P0::PS) (opM u) U)))]:=by
 have hw:=b2H P0 PS ⟨⟨[44,32]⟩⟩ (by unfold Fz at hj;omega) hlen;unfold Fz at hj;obtain⟨R,hR⟩:∃R,R=a2D (P0::PS) (opM u) U:=⟨_,rfl⟩;rw[<-hR];unfold a2D at hR;generalize E8 (P0::PS) ⟨⟨[44,32]⟩⟩=J at *;obtain⟨nm,ar,n,h,ks,x5,x6,x7,x8,hcells⟩:=b1Q t;rw[hcells];obtain⟨K,hK⟩:∃K,K=rM ks:=⟨_,rfl⟩;rw[<-hK] at hcells ⊢;obtain⟨op,hop⟩:∃o,o=opM t:=⟨_,rfl⟩;rw[<-hop] at hcells ⊢;obtain⟨PL,hPL⟩:∃L,L=P0::PS:=⟨_,rfl⟩;obtain⟨LL,hLL⟩:∃L,L=rS (P0::PS):=⟨_,rfl⟩;rw[<-hLL] at hw;rw[<-hPL] at hc hlen hLL;clear hPL;obtain⟨inv,hv⟩:∃inv:Tm×Int×ByteArray×(Nat->D)×List (List D)×List (List D)->Prop,inv=λx=>∃ps qs,cM x.1=[.sc (.int .u8 x.2.1),.sc (.string x.2.2.1),x.2.2.2.1 2,x.2.2.2.1 3,x.2.2.2.1 4,x.2.2.2.1 5,x.2.2.2.1 6,x.2.2.2.1 7,x.2.2.2.1 8,.sl 10 x.2.2.2.2.1]/\Ch x.1 qs u/\ps++qs=PL/\x.2.2.2.2.2=rS ps/\opM x.1=x.2.1:=⟨_,rfl⟩
 obtain⟨f,hf⟩:∃f:Nat->D,f=λk=>match k with|2=>.sc (.string ar)|3=>.sc (.int .i64 n)|4=>.sc (.bool h)|5=>x5|6=>x6|7=>x7|_=>x8:=⟨_,rfl⟩
 have f2:.sc (.string ar)=f 2:=by rw[hf];rfl
 have f3:.sc (.int .i64 n)=f 3:=by rw[hf];rfl
 have f4:.sc (.bool h)=f 4:=by rw[hf];rfl
 have f5:x5=f 5:=by rw[hf];rfl
 have f6:x6=f 6:=by rw[hf];rfl
 have f7:x7=f 7:=by rw[hf];rfl
 have f8:x8=f 8:=by rw[hf];rfl
 rw[f2,f3,f4,f5,f6,f7,f8] at hcells ⊢;have hi0:inv (t,op,nm,f,K,[]):=by rw[hv];exact⟨[],PL,hcells,hc,rfl,rfl,hop.symm⟩
 clear hf f2 f3 f4 f5 f6 f7 f8 hcells hK;refine C2 Tryz.func46 rfl ?_;intro _ _ _ _ _ _ _ _ _ qj _ _ _ _ qp _ _ _ _ _ _ _ _ va _ vd;intros;rename_i hA;obtain⟨e1,e2,e3,e4,e5,e6,e7,e8,e9⟩:=l7 hA;obtain⟨r1,r2,r3,r4⟩:=n8 hA;obtain⟨s1,s2,s3,s4,s5,s6,s7⟩:=o8 hA;cbv;repeat (first|(refine a1v hA 3 9 true rfl ?_;cbv)|(with_reducible apply j2 hA;cbv))
 refine o5 hA (γ:=Tm×Int×ByteArray×(Nat->D)×List (List D)×List (List D)) (λx=>[(3,.own 1)]) (λx=>[(0,.box [.d (.sc (.int .u8 x.2.1)),.d (.sc (.string x.2.2.1)),.d (x.2.2.2.1 2),.d (x.2.2.2.1 3),.d (x.2.2.2.1 4),.d (x.2.2.2.1 5),.d (x.2.2.2.1 6),.d (x.2.2.2.1 7),.d (x.2.2.2.1 8),.d (.sl 10 x.2.2.2.2.1)]),(1,.row true 9 x.2.2.2.2.2)]) inv (λx=>(l4 x.1).length) (t,op,nm,f,K,[]) hi0 ?_ ?_
 ·cbv
 ·intro x hinv;obtain⟨r,op,nm,f,K,L⟩:=x;cbv;refine gn ?_;rw[hv] at hinv;obtain⟨ps,qs,hx,hch,hpq,hL,ho⟩:=hinv;replace hx:cM r=[.sc (.int .u8 op),.sc (.string nm),f 2,f 3,f 4,f 5,f 6,f 7,f 8,.sl 10 K]:=hx;replace hch:Ch r qs u:=hch;replace hpq:ps++qs=PL:=hpq;replace hL:L=rS ps:=hL;replace ho:opM r=op:=ho;have hql:ps.length<=1048576:=by rw[<-hpq,List.length_append] at hlen;omega
  cases hch with
  | nil _ hno =>
   have hq:qj op 42=false:=by rw[e9];exact beq_false_of_ne (by rw[<-ho];exact hno)
   rw[List.append_nil] at hpq;have hLL2:LL=L:=by rw[hLL,hL,hpq]
   rw[hLL2] at hw;rw[ho] at hR hu
   by_cases h41:op=41
   ·rw[if_pos h41] at hR;rw[hR];have q1:qj op 41=true:=by rw[e9,h41];rfl
    clear hLL hL hu
    iterate 2 (try cbv;repeat ((first|with_reducible apply j2 hA|rw[hq]|rw[q1]|refine j3 hA _ hw rfl ?_|refine j4 hA _ hw ?_);cbv))
   ·rw[if_neg h41] at hR;obtain⟨hU,hsp⟩:=hu h41;rw[hx] at hsp;unfold Fz at hU;have q1:qj op 41=false:=by rw[e9];exact beq_false_of_ne h41
    clear hLL hL hu
    iterate 2 (try cbv;repeat ((first|with_reducible apply j2 hA|rw[hq]|rw[q1]|refine j3 hA _ hw rfl ?_|refine j4 hA _ hw ?_|refine j3 hA _ hsp rfl ?_|refine j4 hA _ hsp ?_|(refine n9 hA (by simp only[s4,ByteArray.size_append,U0,List.length_cons,List.length_nil];omega) ?_));cbv))
    try simp (maxSteps:=4000000) only [nc] at *
    exact a2g (by rw[hR];simp only[s4])
  | @cons nm' ar' X n' h' an a b _ qs hnm hX hb =>
   have ho:op=42:=by rw[<-ho];rfl
   obtain⟨y0,y1,y2,y3,hy⟩:=l6 an;rw[cM,hy] at hx;injection hx with _ hx;injection hx with hx1 hx;injection hx1 with hx1;injection hx1 with hx1;replace hx:=hx
   have hK:K=rM [a,b]:=by
    injection hx with _ hx;injection hx with _ hx;injection hx with _ hx;injection hx with _ hx;injection hx with _ hx;injection hx with _ hx;injection hx with _ hx;injection hx with hx;injection hx with _ hx;exact hx.symm
   obtain⟨hXz,hXs⟩:=hX;unfold Fz at hXz hnm;obtain⟨d0,d1,d2,d3,d4,d5,d6,d7,d8,d9,hd⟩:=W9 a;rw[hd] at hXs;obtain⟨mb,arb,nb,hb',ksb,z5,z6,z7,z8,hcb⟩:=b1Q b;obtain⟨K2,hK2⟩:∃K2,K2=rM ksb:=⟨_,rfl⟩;rw[<-hK2] at hcb;obtain⟨f2,hf2⟩:∃f2:Nat->D,f2=λk=>match k with|2=>.sc (.string arb)|3=>.sc (.int .i64 nb)|4=>.sc (.bool hb')|5=>z5|6=>z6|7=>z7|_=>z8:=⟨_,rfl⟩
   have p2:.sc (.string arb)=f2 2:=by rw[hf2];rfl
   have p3:.sc (.int .i64 nb)=f2 3:=by rw[hf2];rfl
   have p4:.sc (.bool hb')=f2 4:=by rw[hf2];rfl
   have p5:z5=f2 5:=by rw[hf2];rfl
   have p6:z6=f2 6:=by rw[hf2];rfl
   have p7:z7=f2 7:=by rw[hf2];rfl
   have p8:z8=f2 8:=by rw[hf2];rfl
   rw[p2,p3,p4,p5,p6,p7,p8] at hcb;clear p2 p3 p4 p5 p6 p7 p8 hf2;have g0:va K 0=some [d0,d1,d2,d3,d4,d5,d6,d7,d8,d9]:=by rw[r2,hK];exact congrArg some hd
   have g1:va K 1=some [.sc (.int .u8 (opM b)),.sc (.string mb),f2 2,f2 3,f2 4,f2 5,f2 6,f2 7,f2 8,.sl 10 K2]:=by rw[r2,hK];exact congrArg some hcb
   have hq:qj op 42=true:=by rw[e9,ho];rfl
   have hmu:(l4 b).length<(l4 (.mk 42 nm' ar' n' h' an [a,b])).length:=by
    rw[l4,A9,A9,A9,List.length_cons,List.length_append,List.length_append];have:=r9 a;omega
   have hi:inv (b,opM b,mb,f2,K2,vd L [[.sc (.string (qp (qp nm ⟨⟨[32,61,32]⟩⟩) X))]]):=by
    rw[hv];refine⟨ps++[nm'++⟨⟨[32,61,32]⟩⟩++X],qs,?_,hb,?_,?_,rfl⟩
    ·exact hcb
    ·rw[<-hpq,List.append_assoc];rfl
    ·show vd L _=_;rw[r4,hL,s4,s4,<-hx1,b2V]
   have hLs:L.length<=1048576:=by rw[hL,a6y];exact hql
   rw[hx1] at hnm;obtain⟨ob,hob⟩:∃o,o=opM b:=⟨_,rfl⟩;rw[<-hob] at g1 hi;clear hLL hL hu hw hK hcb hpq hv
   iterate 2 (try cbv;repeat ((first|with_reducible apply j2 hA|rw[hq]|rw[g0]|rw[g1]|refine j3 hA _ hXs rfl ?_|refine j4 hA _ hXs ?_|(refine n9 hA (by simp only[s4,ByteArray.size_append,U0,List.length_cons,List.length_nil];omega) ?_)|refine y7 hA true ?_|(refine y9 hA (by simp only[List.length_cons,List.length_nil];omega) ?_));cbv))
   try simp (maxSteps:=4000000) only [nc] at *
   refine⟨_,hi,hmu,?_⟩;cbv
def b7F (op:Int) (nm ar Y:ByteArray):ByteArray:=(if op=50 then ⟨⟨[101,108,115,101]⟩⟩ else nm)++⟨⟨[32]⟩⟩++ar++Y
def Am:Tm->ByteArray->Prop
 | .mk op nm ar n h a ks,s=>∃Y,Fz Y/\Fz nm/\Fz ar/\j5 25 [.ag (cM (.mk op nm ar n h a ks))] [.one (.sc (.string Y))]/\s=b7F op nm ar Y
def Ams (ks:List Tm) (ps:List ByteArray):Prop:=ps.length=ks.length/\∀(i:Nat) (k:Tm) (s:ByteArray),ks[i]?=some k->ps[i]?=some s->Am k s
def b07 (X:ByteArray) (ps:List ByteArray):ByteArray :=
 (if ps=[] then (⟨⟨[99,97,115,101,32]⟩⟩++X++⟨⟨[32,111,102,32]⟩⟩) else (⟨⟨[99,97,115,101,32]⟩⟩++X++⟨⟨[32,111,102,32]⟩⟩)++(E8 ps ⟨⟨[59,32]⟩⟩++⟨⟨[32]⟩⟩))++⟨⟨[101,110,100]⟩⟩
theorem c0V {op:Int} {nm ar X:ByteArray} {n:Int} {h:Bool} {an:Ty} {k0:Tm} {ks:List Tm} {ps:List ByteArray} (hX:Tx k0 X) (hps:Ams ks ps) (hlen:ks.length<=1048575) (hj:Fz (E8 ps ⟨⟨[59,32]⟩⟩)) :
  j5 47 [.ag (cM (.mk op nm ar n h an (k0::ks)))] [.one (.sc (.string (b07 X ps)))]:=by
 have hw:ps≠[]->j5 65 [.one (.sc (.string ⟨⟨[59,32]⟩⟩)),.one (.sl 1 (rS ps))] [.one (.sc (.string (E8 ps ⟨⟨[59,32]⟩⟩)))]:=λh=>by
  cases ps with
  | nil=>exact absurd rfl h
  | cons p l=>exact b2H p l ⟨⟨[59,32]⟩⟩ (by unfold Fz at hj;omega) (by have:=hps.1;omega)
 unfold Fz at hj;obtain⟨hpl,hpa⟩:=hps;obtain⟨R,hR⟩:∃R,R=b07 X ps:=⟨_,rfl⟩;rw[<-hR];unfold b07 at hR;obtain⟨hXz,hXs⟩:=hX;unfold Fz at hXz;obtain⟨d0,d1,d2,d3,d4,d5,d6,d7,d8,d9,hd⟩:=W9 k0;rw[hd] at hXs;obtain⟨y0,y1,y2,y3,hy⟩:=l6 an;rw[cM,hy];obtain⟨K,hK⟩:∃K,K=rM (k0::ks):=⟨_,rfl⟩;obtain⟨K1,hK1⟩:∃K,K=rM ks:=⟨_,rfl⟩;have hKc:K=[d0,d1,d2,d3,d4,d5,d6,d7,d8,d9]::K1:=by rw[hK,hK1,rM,hd]
 rw[<-hK];have hKl:K1.length=ks.length:=by rw[hK1,a2i]
 obtain⟨J,hJ⟩:∃J,J=E8 ps ⟨⟨[59,32]⟩⟩:=⟨_,rfl⟩;rw[<-hJ] at hw hj hR;obtain⟨LL,hLL⟩:∃L,L=rS ps:=⟨_,rfl⟩;rw[<-hLL] at hw;obtain⟨inv,hv⟩:∃inv:Int×List (List D)->Prop,inv=λx=>∃k:Nat,x.1=(k:Int)/\k<=ks.length/\x.2=rS (ps.take k):=⟨_,rfl⟩
 have hi0:inv (0,[]):=by rw[hv];exact⟨0,rfl,Nat.zero_le _,rfl⟩
 refine C2 Tryz.func47 rfl ?_;intro qa qb _ _ _ _ _ qh _ qj _ _ _ _ qp _ _ _ _ _ _ _ qz va vc vd;intros;rename_i hA;obtain⟨e1,e2,e3,e4,e5,e6,e7,e8,e9⟩:=l7 hA;obtain⟨r1,r2,r3,r4⟩:=n8 hA;obtain⟨s1,s2,s3,s4,s5,s6,s7⟩:=o8 hA;have g0:va K 0=some [d0,d1,d2,d3,d4,d5,d6,d7,d8,d9]:=by rw[r2,hKc];rfl
 have q3:vc K 1 (qz K)=some K1:=by
  rw[r3,r1,hKc];show (if (0:Int)<=1/\(1:Int)<=(([d0,d1,d2,d3,d4,d5,d6,d7,d8,d9]::K1).length:Int)/\_ then some ((([d0,d1,d2,d3,d4,d5,d6,d7,d8,d9]::K1).drop ((1:Int)).toNat).take (((([d0,d1,d2,d3,d4,d5,d6,d7,d8,d9]::K1).length:Int)).toNat - ((1:Int)).toNat)) else none)=_;rw[if_pos ⟨by omega,by rw[List.length_cons];omega,Int.le_refl _⟩];rw[List.take_of_length_le (by rw[List.length_drop];omega)];rfl
 iterate 2 (cbv;repeat ((first|(refine a1v hA 4 9 true rfl ?_)|(with_reducible apply j2 hA)|rw[g0]|rw[q3]|refine j3 hA _ hXs rfl ?_|(refine n9 hA (by simp only[s4,ByteArray.size_append,U0,List.length_cons,List.length_nil];omega) ?_));cbv))
 refine o5 hA (γ:=Int×List (List D)) (λx=>[(19,vi .i64 x.1),(4,.own 1),(6,.jk),(7,.jk)]) (λx=>[(1,.row true 9 x.2)]) inv (λx=>ks.length - x.1.toNat) (0,[]) hi0 ?_ ?_
 ·cbv
 ·intro x hinv;obtain⟨z,L⟩:=x;cbv;refine gn ?_;rw[hv] at hinv;obtain⟨k,hz,hk,hE⟩:=hinv;replace hz:z=(k:Int):=hz;replace hE:L=rS (ps.take k):=hE;have hLl:L.length<=1048576:=by rw[hE,a6y,List.length_take];omega
  have hlt:qh z (qz K1)=decide (k<ks.length):=by rw[e7,r1,hKl,hz];exact decide_eq_decide.2 Int.ofNat_lt
  by_cases h9:k<ks.length
  ·rw[decide_eq_true h9] at hlt;obtain⟨x,hx⟩:∃x,ks[k]?=some x:=⟨_,List.getElem?_eq_getElem h9⟩;obtain⟨s,hs⟩:∃s,ps[k]?=some s:=⟨_,List.getElem?_eq_getElem (by rw[hpl];exact h9)⟩;have hAm:=hpa k x s hx hs;have gx:va K1 z=some (cM x):=by rw[r2,hz,if_pos (by omega),show ((k:Int)).toNat=k by omega,hK1,B4 hx]
   obtain⟨op',nm',ar',n',h',a',ks'⟩:=x;obtain⟨Y,hYz,hnz,haz,hYs,hsa⟩:=hAm;unfold Fz at hYz hnz haz;obtain⟨w0,w1,w2,w3,hww⟩:=l6 a';rw[cM,hww] at gx hYs;generalize rM ks'=K' at *;replace gx:va K1 z=some [.sc (.int .u8 op'),.sc (.string nm'),.sc (.string ar'),.sc (.int .i64 n'),.sc (.bool h'),w0,w1,w2,w3,.sl 10 K']:=gx;replace hYs:j5 25 [.ag [.sc (.int .u8 op'),.sc (.string nm'),.sc (.string ar'),.sc (.int .i64 n'),.sc (.bool h'),w0,w1,w2,w3,.sl 10 K']] [.one (.sc (.string Y))]:=hYs;have hz1:qa .i64 (qb z 1)=((k+1:Nat):Int):=by rw[e1,e2,hz,IntWalk.i64_in _ (by clear hj hXz;omega)];omega
   have hm:ks.length - (qa .i64 (qb z 1)).toNat<ks.length - z.toNat:=by rw[hz1,hz];omega
   have hi:∀s',s'=s->inv (qa .i64 (qb z 1),vd L [[.sc (.string s')]]):=λs' e=>by
    rw[hv];refine⟨k+1,hz1,h9,?_⟩;show vd L _=_;rw[r4,hE,e,b2V,a1c hs]
   rw[hlt];clear hpa hv hK hKc hLL hK1 hs hx hR hE hw;unfold b7F at hsa
   by_cases h50:op'=50
   ·rw[if_pos h50] at hsa;have q1:qj op' 50=true:=by rw[e9,h50];rfl
    iterate 2 (try cbv;repeat ((first|with_reducible apply j2 hA|rw[gx]|rw[q1]|refine j3 hA _ hYs rfl ?_|refine j4 hA _ hYs ?_|(refine n9 hA (by simp only[s4,ByteArray.size_append,U0,List.length_cons,List.length_nil];omega) ?_)|refine a3e hA true ?_|refine y7 hA true ?_|(refine y9 hA (by simp only[List.length_cons,List.length_nil];omega) ?_));cbv))
    try simp (maxSteps:=4000000) only [nc] at *
    refine⟨(qa .i64 (qb z 1),vd L [[.sc (.string (qp (qp (qp ⟨⟨[101,108,115,101]⟩⟩ ⟨⟨[32]⟩⟩) ar') Y))]]),hi _ (by rw[hsa];simp only[s4]),hm,?_⟩;cbv
   ·rw[if_neg h50] at hsa;have q1:qj op' 50=false:=by rw[e9];exact beq_false_of_ne h50
    iterate 2 (try cbv;repeat ((first|with_reducible apply j2 hA|rw[gx]|rw[q1]|refine j3 hA _ hYs rfl ?_|refine j4 hA _ hYs ?_|(refine n9 hA (by simp only[s4,ByteArray.size_append,U0,List.length_cons,List.length_nil];omega) ?_)|refine a3e hA true ?_|refine y7 hA true ?_|(refine y9 hA (by simp only[List.length_cons,List.length_nil];omega) ?_));cbv))
    try simp (maxSteps:=4000000) only [nc] at *
    refine⟨(qa .i64 (qb z 1),vd L [[.sc (.string (qp (qp (qp nm' ⟨⟨[32]⟩⟩) ar') Y))]]),hi _ (by rw[hsa];simp only[s4]),hm,?_⟩;cbv
  ·rw[decide_eq_false h9] at hlt;have hL2:L=LL:=by rw[hLL,hE,List.take_of_length_le (by omega)]
   rw[hlt];have hll:qz L=(ps.length:Int):=by rw[r1,hL2,hLL,a6y]
   by_cases hp0:ps=[]
   ·rw[if_pos hp0] at hR;have q1:qh 0 (qz L)=false:=by rw[hll,hp0];exact(e7 _ _).trans rfl
    clear hpa hv hK hKc hLL hK1 hE hw hL2
    iterate 2 (try cbv;repeat ((first|with_reducible apply j2 hA|rw[q1]|(refine n9 hA (by simp only[s4,ByteArray.size_append,U0,List.length_cons,List.length_nil];omega) ?_));cbv))
    try simp (maxSteps:=4000000) only [nc] at *
    exact a2g (by rw[hR];simp only[s4])
   ·rw[if_neg hp0] at hR;have hw:=hw hp0;have q1:qh 0 (qz L)=true:=by rw[hll,e7];exact decide_eq_true (by have:=List.length_pos_iff.2 hp0;omega)
    rw[<-hL2] at hw;clear hpa hv hK hKc hLL hK1 hE hL2
    iterate 2 (try cbv;repeat ((first|with_reducible apply j2 hA|rw[q1]|refine j3 hA _ hw rfl ?_|refine j4 hA _ hw ?_|(refine n9 hA (by simp only[s4,ByteArray.size_append,U0,List.length_cons,List.length_nil];omega) ?_));cbv))
    try simp (maxSteps:=4000000) only [nc] at *
    exact a2g (by rw[hR];simp only[s4])
end Go.Proofs.YtncijebklnbhlaaGreatDoor.Vm
end

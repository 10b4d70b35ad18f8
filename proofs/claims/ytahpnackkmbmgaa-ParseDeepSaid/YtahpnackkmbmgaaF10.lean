/- Part 10 of the proof. Conditions: none. -/
import Derived.Test.YtahpnackkmbmgaaF4
import Derived.Test.YtahpnackkmbmgaaF6
import Derived.Test.YtahpnackkmbmgaaF9
import Derived.Shelf.Small.Strs
import Derived.Test.YtahpnackkmbmgaaProg
import Derived.IntWalk
import Derived.RangeFuncNested
import Derived.RangeFuncBound
import Derived.RangeFuncCalls
import Derived.RangeFuncLeaves
import Derived.RangeFuncFrom
import Derived.Shelf.Abstract
import Derived.WalkKit
import Derived.OwnWalkIn
import Derived.TacticsInMore
import Derived.LoopNIn
import Derived.LoopIn
import Derived.Test.YtahpnackkmbmgaaF0
set_option linter.all false
set_option linter.unusedVariables false
set_option linter.unusedSimpArgs false
section
namespace Go.Proofs
open Go.Shelf
def Try.lays106_ren:Go.Shelf.Ren:=⟨fun|106=>133|213=>144|265=>157|n=>n,fun|9=>9|3=>3|n=>n,fun|n=>n⟩
theorem Try.lays106:Go.Proofs.Lays.n106 Try.prog Try.lays106_ren:={
 mixed:=by kernel_rfl
 f106:=Try.func133.trans (congrArg some (by kernel_rfl))
 f213:=Try.func144.trans (congrArg some (by kernel_rfl))
 f265:=Try.func157.trans (congrArg some (by kernel_rfl))
 t3:=Try.underlying3
 a3:=Try.isAgg3
 z3:=Try.sizeOf3
 v3:=Try.zeroValue3
 t9:=Try.underlying9
 a9:=Try.isAgg9
 z9:=Try.sizeOf9
 v9:=Try.zeroValue9 }
open Go.RowKit in
theorem Try.strings_Compare (a b:ByteArray) (w:World) :
  Calls Try.prog 133 #[.string a,.string b] w fun e w'=>e=.returned (.int .i64 (Lib.compareBytes a.data.toList b.data.toList))∧w'=w:=Any.strings_Compare Try.lays106 a b w
end Go.Proofs
end
section
namespace Go.Proofs.Ytahpnackkmbmgaa.Vm
open Go.RowKit
set_option maxRecDepth 100000
set_option maxHeartbeats 4000000
theorem c69 (a b:ByteArray):A0 133 [.one (.sc (.string a)),.one (.sc (.string b))] [.one (.sc (.int .i64 (Lib.compareBytes a.data.toList b.data.toList)))]:=by
 refine ⟨by kernel_rfl,fun I w args hI hat=>?_⟩
 match args,hat with
 | [v1,v2],⟨h1,h2,_⟩ =>
  have h1:AtD I w v1 (.sc (.string a)):=h1
  have h2:AtD I w v2 (.sc (.string b)):=h2
  cases h1
  cases h2
  refine (Try.strings_Compare a b w).mono ?_
  rintro e w' ⟨rfl,rfl⟩
  exact ⟨_,rfl,.sc _ rfl,Below.refl _ _⟩
theorem a88:∀a b:List UInt8,Lib.compareBytes a b=a3Q a b
 | [],[]=>rfl
 | [],_::_=>by simp [Lib.compareBytes,a3Q,Op.bytesLess]
 | _::_,[]=>by simp [Lib.compareBytes,a3Q,Op.bytesLess]
 | x::a,y::b=>by
  rw [Lib.compareBytes,a88 a b]
  unfold a3Q
  simp only [Op.bytesLess]
  by_cases h1:x<y
  ·simp [h1]
  ·by_cases h2:y<x
   ·have hne:x≠y:=fun e=>by rw [e] at h2;exact h1 (by rw [e];exact h2)
    simp [h1,h2,hne]
   ·have e:x=y:=by
     rw [d1b] at h1 h2
     exact d1l.1 (by omega)
    subst e
    simp [h1]
theorem c2d:b1g 132:=by
 intro n m x1 x2 x3 x4 y1 y2 y3 y4
 have hc:=c69 n m
 rw [a88,←ByteArray.toList_eq,←ByteArray.toList_eq] at hc
 generalize a3Q n.toList m.toList=cv at *
 refine sp9 Try.func132 rfl ?_;intros;rename_i hA
 cbv
 repeat ((with_reducible apply f8 hA);cbv)
 refine i9 hA _ hc ?_ ?_
 ·rfl
 cbv
 repeat ((with_reducible apply f8 hA);cbv)

theorem b1i {ks:List Ty} {k:Nat} {x:Ty} (h:ks[k]?=some x):rT (ks.take (k+1))=rT (ks.take k)++[cT x]:=by
 obtain ⟨hi,e⟩:=c8S.1 h
 rw [a8w,a8w,d0m hi,e,c9Y]
 rfl
theorem a0D:∀t:Ty,t.parts.length≤1048576→A0 134 [.ag (cT t)] [.ag (cT t)]:=by
 intro t
 induction t using Ty.ind with
 | h t ih =>
  intro hN
  have hkl:=Q0 t
  obtain ⟨op,nm,n,ks⟩:=t
  simp only [Ty.kids] at hkl ih
  rw [cT]
  obtain ⟨K,hK⟩:∃K,K=rT ks:=⟨_,rfl⟩
  rw [←hK]
  refine sp9 Try.func134 rfl ?_;intro qa qb _ _ _ _ _ qi _ _ _ _ _ _ _ _ _ _ _ _ _ _ va vc _ ve;intros;rename_i hA
  cbv
  with_reducible apply f8 hA
  cbv
  refine a3j hA 3 25 true rfl ?_
  cbv
  repeat ((with_reducible apply f8 hA);cbv)
  obtain ⟨e1,e2,e3,e4,e5,e6,e7,e8,e9⟩:=m6 hA
  obtain ⟨r1,r2,r3,r4⟩:=C7 hA
  refine o7 hA (γ:=Int×List (List D)) (fun x=>[(9,vi .i64 x.1),(3,.own 2),(13,.jk)]) (fun x=>[(2,.row true 25 x.2)]) (fun x=>∃k:Nat,x.1=(k:Int)∧k≤ks.length∧x.2=rT (ks.take k)) (fun x=>ks.length - x.1.toNat) (0,[]) ?_ ?_ ?_
  ·exact ⟨0,rfl,c95 _,rfl⟩
  ·cbv
  ·intro x hinv
   obtain ⟨z,L⟩:=x
   cbv;refine gn ?_
   obtain ⟨k,hz,hk,hE⟩:=hinv
   have hz:z=(k:Int):=hz
   replace hE:L=rT (ks.take k):=hE
   have hlen:va K=(ks.length:Int):=by rw [r1,hK,a3m]
   have hlt:qi z (va K)=decide (k<ks.length):=by rw [e7,hlen,hz];exact c9w.2 (by omega)
   by_cases h9:k<ks.length
   ·rw [c9j h9] at hlt
    obtain ⟨x,hx⟩:∃x,ks[k]?=some x:=⟨_,c8T h9⟩
    have g1:vc K z=some (cT x):=by rw [r2,hz,c8Y (by omega),hK];exact b0Y hx
    have hsp:=ih x (c9h hx) (by have:=hkl.2 x (c9h hx);omega)
    have hsn:=b1i hx
    obtain ⟨o1,m1,n1,l1⟩:=x
    rw [cT] at g1 hsp hsn
    generalize rT l1=L1 at *
    rw [hlt]
    cbv;refine gn ?_
    rw [g1]
    cbv
    repeat ((with_reducible apply f8 hA);cbv)
    refine i9 hA _ hsp ?_ ?_
    ·rfl
    cbv
    refine C2 hA true ?_
    cbv
    refine E2 hA (by rw [hE,a3m];simp;omega) ?_
    cbv
    repeat ((with_reducible apply f8 hA);cbv)
    replace hz:z=(k:Int):=hz
    have hz1:qa .i64 (qb z 1)=((k+1:Nat):Int):=by rw [e1,e2,hz,IntWalk.i64_in _ (by omega)];omega
    refine ⟨(qa .i64 (qb z 1),ve L [[.sc (.int .u8 o1),.sc (.string m1),.sc (.int .i64 n1),.sl 4 L1]]),⟨k+1,hz1,h9,by show ve L _=_;rw [r4,hE,hsn]⟩,by show ks.length - (qa .i64 (qb z 1)).toNat<ks.length - z.toNat;rw [hz1,hz];omega,?_⟩
    cbv
   ·rw [c9d h9] at hlt
    rw [hlt]
    cbv;refine gn ?_
    have hE2:L=K:=by rw [hE,hK,c9J (by omega)]
    rw [hE2]
    exact ⟨rfl,trivial⟩
def cfS (f:ByteArray×Ty):ByteArray×Ty:=(f.1,C6 f.2)
theorem a67:∀(n:Nat) (t:Ty),t.parts.length≤n→(A1 t).length<t.parts.length:=by
 intro n
 induction n with
 | zero=>intro t h;have:=G1 t;omega
 | succ n ih =>
  intro t h
  have hp:=G1 t
  obtain ⟨op,nm,k,ks⟩:=t
  match ks with
  | []=>exact hp
  | [x]=>exact hp
  | x::y::z::l=>exact hp
  | [x,r] =>
   have hk:=Q0 (.mk op nm k [x,r])
   have hr:=hk.2 r (by simp [Ty.kids])
   unfold A1
   by_cases h11:op=11
   ·rw [c8Y h11,c9a]
    have:=ih r (by omega)
    omega
   ·rw [c8W h11];exact hp
section
section
variable {W:ByteArray→Bool}
theorem a68 {t:Ty} {s:Int} (h:F6 W t s=true):∃k,N6 t.op=some k∧(decide (8≤t.op) == (s == 114))=true∧t.kids.length=k.length∧(if t.op=11 then W t.name else decide (t.name.toList=[]))=true∧0≤t.n∧(t.op=7∨t.op=10∨t.n=0)∧F7 W t.kids k=true:=by
 cases hk:N6 t.op with
 | none=>rw [a85 hk] at h;cases h
 | some k =>
  obtain ⟨op,nm,n,kids⟩:=t
  rw [a0l (k:=k) (by exact hk)] at h
  unfold c3B c4B at h
  simp only [c8Z,c96,d0p] at h
  obtain ⟨⟨h1,h2,h3,h4,h5⟩,h6⟩:=h
  exact ⟨k,rfl,h1,h2,h3,h4,by simpa [or_assoc,Ty.op,Ty.n] using h5,h6⟩
theorem a89 {t:Ty} {s:Int} (h:F6 W t s=true):B9 t:=b2C W t s h
end
section
variable {W:ByteArray→Bool}
end
end
section
section
variable {W:ByteArray→Bool}
end
section
variable {W:ByteArray→Bool}
end
section
variable {W:ByteArray→Bool}
end
def c2e (c:List (Int×Ty)):List Int:=c.map (·.1)
def c2f (c c':List (Int×Ty)):Prop:=((c2e c).Nodup→(c2e c').Nodup)∧∀k∈c2e c,k∈c2e c'
theorem c2f.trans {a b c:List (Int×Ty)} (h:c2f a b) (k:c2f b c):c2f a c:=⟨fun x=>k.1 (h.1 x),fun n x=>k.2 n (h.2 n x)⟩
section
variable {W:ByteArray→Bool}
end
end
theorem c2g (fs:List (ByteArray×Ty)):o8 C3 (rF fs)=rF (o8 ltF fs):=b6G (f:=fun x:ByteArray×Ty=>D.sc (.string x.1)::cT x.2) (fun _ _=>rfl) fs
theorem c4W (fs:List (ByteArray×Ty)):∀x∈rF fs,Ok5 x:=fun x hx=>by
 obtain ⟨f,_,rfl⟩:=d0o.1 hx
 obtain ⟨c0,c1,c2,c3,h⟩:=w8 f.2
 exact ⟨f.1,c0,c1,c2,c3,by show D.sc (.string f.1)::cT f.2=_;rw [h]⟩
theorem b50 (fs:List (ByteArray×Ty)) (f:ByteArray×Ty):rF (fs++[f])=rF fs++[.sc (.string f.1)::cT f.2]:=by unfold rF;rw [c9Y];rfl
theorem c4X (t:Ty) (hs:a1B t) (hN:t.parts.length≤1048576):n7 126 [.ag (y5 (cT t))] [] (fun res os'=>res=[.own 0,.ag (y5 (cT (a0c t)))]∧os'=[.row false 163 (rF (o8 ltF (A1 t)))]):=by
 have hso:=b96 132 c2d (rF (A1 t)) (c4W _) (by rw [a6f];have:=a67 _ t (c9c _);omega)
 rw [c2g] at hso
 obtain ⟨Q,hQ⟩:∃Q,Q=rF (o8 ltF (A1 t)):=⟨_,rfl⟩
 obtain ⟨M,hM⟩:∃M,M=rF (A1 t):=⟨_,rfl⟩
 rw [←hQ,←hM] at hso
 rw [←hQ]
 obtain ⟨q0,q1,q2,q3,hq⟩:=w8 (a0c t)
 rw [hq]
 obtain ⟨op,nm,n,ks⟩:=t
 generalize ht:Ty.mk op nm n ks=t at *
 have hc:cT t=[.sc (.int .u8 op),.sc (.string nm),.sc (.int .i64 n),.sl 4 (rT ks)]:=by rw [←ht,cT]
 obtain ⟨K0,hK0⟩:∃K,K=rT ks:=⟨_,rfl⟩
 rw [hc,←hK0]
 refine N9 Try.func126 rfl ?_;intro _ _ _ _ _ _ _ _ _ qk _ _ _ _ _ _ _ _ _ _ _ _ _ vc _ ve;intros;rename_i hA
 cbv
 repeat (first|(refine a3j hA 4 163 false rfl ?_;cbv)|(with_reducible apply f8 hA;cbv))
 obtain ⟨e1,e2,e3,e4,e5,e6,e7,e8,e9⟩:=m6 hA
 obtain ⟨r1,r2,r3,r4⟩:=C7 hA
 refine o7 hA (γ:=Ty×Int×ByteArray×Int×List (List D)×List (List D)) (fun x=>[(4,.own 2)]) (fun x=>[(0,.box [.d (.sc (.int .u8 x.2.1)),.d (.sc (.string x.2.2.1)),.d (.sc (.int .i64 x.2.2.2.1)),.d (.sl 4 x.2.2.2.2.1)]),(2,.row false 163 x.2.2.2.2.2)])
  (fun x=>∃ks fs,x.1=.mk x.2.1 x.2.2.1 x.2.2.2.1 ks∧x.2.2.2.2.1=rT ks∧a1B x.1∧x.2.2.2.2.2=rF fs∧fs++A1 x.1=A1 t∧a0c x.1=a0c t∧fs.length+x.1.parts.length≤1048576) (fun x=>x.1.parts.length) (t,op,nm,n,K0,[]) ?_ ?_ ?_
 ·exact ⟨ks,[],ht.symm,hK0,hs,rfl,rfl,rfl,by simpa using hN⟩
 ·cbv
 ·intro x hinv
  obtain ⟨r,op,nm,n,K,L⟩:=x
  cbv;refine gn ?_;try simp only [nc] at *
  obtain ⟨ks,fs,hr,hK,hsr,hL,hfs,htl,hlen⟩:=hinv
  have h11:qk op 11=decide (op=11):=e9 _ _
  by_cases hop:op=11
  ·rw [c9j hop] at h11
   obtain ⟨a,b,hk,hsb,hfb,htb⟩:=a64 hsr (by rw [hr];exact hop)
   have hnmr:r.name=nm:=by rw [hr];rfl
   rw [hnmr] at hfb
   have hks:ks=[a,b]:=by rw [←hk,hr];rfl
   obtain ⟨a0,a1,a2,a3,ha⟩:=w8 a
   obtain ⟨op',nm',n',ks'⟩:=b
   generalize hb:Ty.mk op' nm' n' ks'=b at *
   have hcb:cT b=[.sc (.int .u8 op'),.sc (.string nm'),.sc (.int .i64 n'),.sl 4 (rT ks')]:=by rw [←hb,cT]
   obtain ⟨K',hK'⟩:∃K,K=rT ks':=⟨_,rfl⟩
   rw [←hK'] at hcb
   have g0:vc K 0=some [a0,a1,a2,a3]:=by rw [r2,c8Y (by omega),hK,hks];exact congrArg some ha
   have g1:vc K 1=some [.sc (.int .u8 op'),.sc (.string nm'),.sc (.int .i64 n'),.sl 4 K']:=by rw [r2,c8Y (by omega),hK,hks];exact congrArg some hcb
   have hLl:L.length≤1048576:=by rw [hL,a6f];omega
   have hbl:b.parts.length<r.parts.length:=(Q0 r).2 b (by rw [hk];simp)
   have hnew:ve L [[.sc (.string nm),a0,a1,a2,a3]]=rF (fs++[(nm,a)]):=by rw [r4,b50,hL,ha]
   rw [h11]
   iterate 2 (try cbv;repeat ((first|with_reducible apply f8 hA|rw [g0]|rw [g1]|refine C2 hA true ?_|(refine E2 hA (by simp only [r4,c8U,c9a,c9n];omega) ?_));cbv))
   try simp (maxSteps:=4000000) only [nc] at *
   refine ⟨(b,op',nm',n',K',ve L [[.sc (.string nm),a0,a1,a2,a3]]),⟨ks',fs++[(nm,a)],hb.symm,hK',hsb,hnew,by rw [←hfs,hfb];simp,by rw [←htl,htb],by rw [c8U];show fs.length+1+b.parts.length≤_;omega⟩,hbl,?_⟩
   cbv
  ·rw [c9d hop] at h11
   obtain ⟨hf0,ht0⟩:=a81 (t:=r) (by rw [hr];exact hop)
   rw [hf0,c9i] at hfs
   have hLM:L=M:=by rw [hL,hM,hfs]
   rw [ht0,hr] at htl
   rw [←htl,cT,←hK] at hq
   rw [h11,hLM]
   cases hq
   cbv;refine gn ?_
   refine F0 hA [2] hso ⟨rfl,rfl,rfl,rfl,rfl,rfl,rfl⟩ ?_
   rintro res os2 ⟨rfl,rfl⟩
   cbv;refine gn ?_
   exact j9 hA [2] ⟨rfl,rfl,rfl,rfl,rfl,rfl,rfl,rfl⟩ ⟨rfl,rfl⟩
section
def PtG {α:Type} (T:(α→Prop)→Prop):Prop:=∀K,T K→∃v,K v∧∀K',K' v→T K'
theorem PtG.mono {α:Type} {T:(α→Prop)→Prop} (h:PtG T) {K K':α→Prop} (hT:T K) (hK:∀v,K v→K' v):T K':=by
 obtain ⟨v,h1,h2⟩:=h K hT
 exact h2 K' (hK v h1)
structure Ok (a:Ar):Prop where
 wrap:a.wrap=f7.wrap
 add:a.add=f7.add
 sub:a.sub=f7.sub
 mul:a.mul=f7.mul
 quo:a.quo=f7.quo
 rem:a.rem=f7.rem
 bits:a.bits=f7.bits
 lt:a.lt=f7.lt
 le:a.le=f7.le
 eq:a.eq=f7.eq
 nz:∀y k,a.nz y k→f7.nz y k
 nzp:∀y k k',a.nz y k→k'→a.nz y k'
 seq:a.seq=f7.seq
 slt:a.slt=f7.slt
 bytes:a.bytes=f7.bytes
 cat:a.cat=f7.cat
 fits:∀x y k,a.fits x y k→f7.fits x y k
 fitsp:∀x y k k',a.fits x y k→k'→a.fits x y k'
 slen:a.slen=f7.slen
 sget:a.sget=f7.sget
 ssub:a.ssub=f7.ssub
 txt:a.txt=f7.txt
 byt:a.byt=f7.byt
 nat:a.nat=f7.nat
 len:a.len=f7.len
 get:a.get=f7.get
 sub2:a.sub2=f7.sub2
 app:a.app=f7.app
 set:a.set=f7.set
 room:∀x y k,a.room x y k→f7.room x y k
 roomp:∀x y k k',a.room x y k→k'→a.room x y k'
 mlook:a.mlook=f7.mlook
 mput:a.mput=f7.mput
 deq:a.deq=f7.deq
 call:∀f rs K,a.call f rs K→f7.call f rs K
 callp:∀f rs,PtG (a.call f rs)
 calld:∀f vs o K,a.calld f vs o K→f7.calld f vs o K
 calldp:∀f vs o,PtG (a.calld f vs o)
 rep:∀n z K,a.rep n z K→f7.rep n z K
 repp:∀n z,PtG (a.rep n z)
 callo:∀f vs s K,a.callo f vs s K→f7.callo f vs s K
 callop:∀f vs s,PtG fun K:V×S→Prop=>a.callo f vs s fun v s'=>K (v,s')
 callx:∀f vs l s K,a.callx f vs l s K→f7.callx f vs l s K
 callxp:∀f vs l s,PtG fun K:V×S→Prop=>a.callx f vs l s fun v s'=>K (v,s')
 new:∀e K,a.new e K→f7.new e K
 newp:∀e,PtG (a.new e)
 lit:∀t K,a.lit t K→f7.lit t K
 litp:∀t,PtG (a.lit t)
 next:∀N s,a.next N s→N s
 nextp:∀N s,N s→a.next N s
 ext:∀op dst s K,¬a.ext op dst s K
 reg:∀ops s K,¬a.reg ops s K
 loop:∀c body s K,a.loop c body s K→(∀s K K',(∀x s,K x s→K' x s)→body s K→body s K')→b1O Eq body s K
 loopp:∀c body s,(∀s,PtG fun K:X×S→Prop=>body s fun x s=>K (x,s))→PtG fun K:X×S→Prop=>a.loop c body s fun x s=>K (x,s)
section
variable {a:Ar} (h:Ok a)
include h
end
structure Good (f:Nat) (fn:Func) (c:Code):Prop where
 f:Try.prog.funcs[f]?=some fn
 b:fn.body=some c
 n:(fn.name != "runtime.NumGoroutine")=true
 c:o4 Try.prog c=true
 r:J9 fn.results.toList=true
inductive Tab where
 | nil
 | cons (f:Nat) (fn:Func) (c:Code) (h:Good f fn c) (T:Tab)
 | own (f:Nat) (F:List V→List O→Option (V×List O×List Nat)) (h:∀vs o r,F vs o=some r→L8 f vs o fun x o' ks=>(x,o',ks)=r) (T:Tab)
 | pure (f:Nat) (F:List R→Option (List R)) (h:∀rs q,F rs=some q→A0 f rs q) (T:Tab)
inductive Ent where
 | none
 | code (fn:Func) (c:Code)
 | own (F:List V→List O→Option (V×List O×List Nat))
 | pure (F:List R→Option (List R))
def it (body:S→(X→S→Prop)→Prop) (K:X→S→Prop) (n:Nat):Nat→S→Prop
 | 0,_=>False
 | m+1,s=>match Nat.ble n (m7 s.o) with
  | true=>body s fun e s'=>b3m (fun s2=>it body K n m s2) K e s'
  | false=>False
section
variable {hint:Nat→Bool} {call:Nat→List R→(List R→Prop)→Prop} {calld:Nat→List V→List O→(V→Prop)→Prop} {callo:Nat→List V→S→(V→S→Prop)→Prop} {callx:Nat→List V→List Nat→S→(V→S→Prop)→Prop}
end
section
variable {qa:IntKind→Int→Int} {qb:Int→Int→Int} {qc:Int→Int→Int} {qd:Int→Int→Int} {qe:Int→Int→Int} {qg:Int→Int→Int} {qh:BinOp→IntKind→Int→IntKind→Int→Option Int} {qi:Int→Int→Bool} {qj:Int→Int→Bool} {qk:Int→Int→Bool} {ql:Int→Prop→Prop} {qm:List UInt8→List UInt8→Bool} {qo:List UInt8→List UInt8→Bool} {qp:ByteArray→List UInt8} {qq:ByteArray→ByteArray→ByteArray} {qt:ByteArray→ByteArray→Prop→Prop} {qu:ByteArray→Int} {qv:ByteArray→Int→Option Int} {qw:ByteArray→Int→Int→Option ByteArray} {qx:List (List D)→Option ByteArray} {qy:ByteArray→List (List D)} {qz:Int→Nat→Option Nat} {va:List (List D)→Int} {vc:List (List D)→Int→Option (List D)} {vd:List (List D)→Int→Int→Option (List (List D))} {ve:List (List D)→List (List D)→List (List D)} {vf:List (List D)→Int→List D→List (List D)} {vg:List (List D)→List (List D)→Prop→Prop} {vh:List (R×R)→R→Option R} {vj:List (R×R)→R→R→List (R×R)} {vk:List D→List D→Bool} {vl:Int→List D→(List (List D)→Prop)→Prop} {vm:Nat→List R→(List R→Prop)→Prop} {vn:Nat→List V→List O→(V→Prop)→Prop} {vo:Nat→List V→S→(V→S→Prop)→Prop} {vp:Nat→List V→List Nat→S→(V→S→Prop)→Prop} {vq:Nat→(Bool→Prop)→Prop} {vr:Nat→(Bool→Prop)→Prop} {vt:Nat→(List V→List O→Prop)→List V→S→Prop} {vu:(S→Prop)→S→Prop} {vv:Op→Option Nat→S→(S→Prop)→Prop} {vw:Array Oper→S→(S→Prop)→Prop} {vx:Code→(S→(X→S→Prop)→Prop)→S→(X→S→Prop)→Prop}
end
end
end Go.Proofs.Ytahpnackkmbmgaa.Vm
end
section
namespace Go.Proofs.Ytahpnackkmbmgaa.Vm
open Go.RowKit Go.Proofs
section
variable {F:Fence} {n:Nat} {P:Program} {w:World}
def b98 (B:Nat) (Kp:World→World→Prop) (I:World→Prop) (Ix:Code→World→Prop) (W:World):Exit→Act→World→Prop
 | .normal,_,W'=>KeepsFrom B W W'∧Kp W W'∧I W'
 | .ret,_,W'=>KeepsFrom B W W'∧Ix .ret W'
 | .exit i,_,W'=>KeepsFrom B W W'∧Ix (.exit i) W'
 | _,_,_=>False
def b3V (F:Fence) (n:Nat) (P:Program) (gf:Nat) (lb:Array Value) (encs:Nat→Array Value) (Kp:World→World→Prop) (N:Nat) (w:World):Prop :=
 ∀(l:Nat) (J:Nat→World→Prop) (Jx:Unit→World→Prop) (W:World),Below w.heap.size w W →
  (∀k W1,k<N→J k W1→YieldAt F (n - 1) P l (encs k) W1 fun e W'=>(e=.returned (.bool true)∧J (k+1) W'∧Kp W1 W')∨(e=.returned (.bool false)∧Jx () W')) →
  J 0 W→CallsIn F n P gf (#[.func (.yield l) #[] #[]]++lb) W fun e W'=>(∃v,e=.returned v)∧(J N W'∨Jx () W')
def b2I (L:Nat) (p:World→Prop):Prop:=∀(W:World) (r r':Loop),p W→W.heap[L]?=some (.loop r)→p (W.putObj L (.loop r'))
theorem c2h {g:Operand} {ps:Array Tmp} {assign body:Code} {Q:Exit→Act→World→Prop} {a:Act}
  (hro:F.round=none) (h1:1≤n) {gf:Nat} {lb:Array Value} (hg:a.eval g=.func (.func gf) #[] lb) (hFg:F.fn gf) (eg:∀args w,(callFunc gf args).run P w=.ok (.enter gf args) w)
  {encs:Nat→Array Value} {Kp:World→World→Prop} {N:Nat} (hseq:b3V F (n - 1) P gf lb encs Kp N w)
  (hKt:∀ {A B C:World},Kp A B→Kp B C→Kp A C) (hKb:∀(W:World) (l:Nat) (o o':Obj),w.heap.size≤l→W.heap[l]?=some o→o.isCells=false→o.isWalk=false→Kp W (W.putObj l o')) (hps:∀k,(encs k).size=ps.size)
  (I:Nat→World→Prop) (Ix:Code→World→Prop) (hI:∀k,b2I (w.heap.size+1) (I k)) (hIx:∀c,b2I (w.heap.size+1) (Ix c)) (h0:∀r:Loop,I 0 ((w.alloc (.deferred (some []))).alloc (.loop r)))
  (hround:∀(l k:Nat) (W:World),k<N→I k W→((∃r:Loop,W.heap[w.heap.size+1]?=some (.loop r))∧W.heap[w.heap.size]?=some (.deferred (some [])))→assign.wpIn (F.inRound l) (n - 1 - 1) P (Exit.then (fun a' W1=>KeepsFrom w.heap.size W W1∧Kp W W1∧∃R:World→Prop,b2I (w.heap.size+1) R∧R W1∧∀W2,R W2→body.wpIn (F.inRound l) (n - 1 - 1) P (b98 w.heap.size Kp (I (k+1)) Ix W2) a' W2) (fun _ _ _=>False))
   { tmps:=(ps.zip (encs k)).foldl (fun t (p,v)=>t.setIfInBounds p v) a.tmps,defers:=[] } W)
  (hdone:∀(D:Nat) (W:World),D=w.heap.size→I N W→W.heap[D]?=some (.deferred (some []))→Q .normal { a with defers:={ target:=.collected D,args:=#[] }::a.defers } W)
  (hstop:∀(D:Nat) (c:Code) (W:World),w.heap.size≤D→Ix c W→W.heap[D]?=some (.deferred (some []))→c.wpIn F n P Q { a with defers:={ target:=.collected D,args:=#[] }::a.defers } W) :
  (Code.rangeFunc g ps assign body).wpIn F n P Q a w:=by
 refine wpIn_rangeFunc fun fn hfn=>?_
 rw [hro]
 obtain ⟨D,hD⟩:∃D,D=w.heap.size:=⟨_,rfl⟩
 obtain ⟨rec,hrec⟩:∃rec:LoopState→Option Code→Loop,rec=fun st pe=>{ state:=st,pending:=pe,fn,tmps:=a.tmps,params:=ps,assign,body,defers:=w.heap.size }:=⟨_,rfl⟩
 obtain ⟨W1,hW1⟩:∃W1,W1=(w.alloc (.deferred (some []))).alloc (.loop (rec .ready none)):=⟨_,rfl⟩
 have hs1:W1.heap.size=D+1+1:=by rw [hW1,hD];simp
 have hbel:Below D w W1:=by rw [hW1,hD];exact ((Below.refl _ w).alloc (c9c _) _).alloc (by simp) _
 have hL1:W1.heap[D+1]?=some (.loop (rec .ready none)):=by
  have:=World.alloc_heap_new (w.alloc (.deferred (some []))) (.loop (rec .ready none))
  rw [World.size_alloc,←hD,←hW1] at this;exact this
 have hD1:W1.heap[D]?=some (.deferred (some [])):=by
  rw [hW1,hD];exact (Below.heap_alloc _ _ _ (by simp)).trans (World.alloc_heap_new w _)
 have hI1:I 0 W1:=by rw [hW1];exact h0 _
 refine ⟨D+1,[{ target:=.collected D,args:=#[] }],W1,{ target:=.fn (.func gf) lb,args:=#[.func (.yield (D+1)) #[] #[]] },W1,gf,#[.func (.yield (D+1)) #[] #[]]++lb,W1,
  by rw [hW1,hrec,hD];exact run_enterLoop_outer _ _ _ _ _,by simp only [resolve,hg];simp [go_sem],fun f' hf=>by simp [Target.leads] at hf;subst hf;exact hFg,by simp [invoke,go_sem,eg],fun _=>h1,?_⟩
 refine (hseq (D+1) (fun k W=>I k W∧W.heap[D+1]?=some (.loop (rec .ready none))∧W.heap[D]?=some (.deferred (some [])))
  (fun _ W=>∃c,Ix c W∧W.heap[D+1]?=some (.loop (rec .done (some c)))∧W.heap[D]?=some (.deferred (some []))) W1 (hD ▸ hbel) ?_ ⟨hI1,hL1,hD1⟩).mono ?_
 ·rintro k W hk ⟨hi,hl,hd⟩
  have hy:=run_yield (P:=P) (args:=encs k) hl (by rw [hrec];exact hps k)
  rw [hrec] at hy
  refine ⟨fn,_,assign,body,hy,roundIn_of_wpIn hfn (wpIn_mono (hround (D+1) k W hk hi ⟨⟨_,hD ▸ hl⟩,hD ▸ hd⟩) fun e a' Wa h=>?_)⟩
  cases e with
  | normal =>
   obtain ⟨ha1,ha2,R,hR,hr1,hb⟩:=h
   have hl2:=ha1.same _ _ (by omega) hl rfl
   have hd2:=ha1.same _ _ (by omega) hd rfl
   refine ⟨_,run_beginRound hl2 (by rw [hrec]),?_⟩
   obtain ⟨W2,hW2⟩:∃W2,W2=Wa.putObj (D+1) (.loop { rec .ready none with state:=.busy }):=⟨_,rfl⟩
   have hl3:W2.heap[D+1]?=some (.loop { rec .ready none with state:=.busy }):=by rw [hW2];exact World.putObj_heap_same (c9g.1 hl2).1
   have hd3:W2.heap[D]?=some (.deferred (some [])):=by rw [hW2];exact (World.putObj_heap_other (by omega)).trans hd2
   have hk3:Kp Wa W2:=by rw [hW2];exact hKb _ _ _ _ (by omega) hl2 rfl rfl
   have hr2:R W2:=by rw [hW2];rw [hD] at hl2 ⊢;exact hR _ _ _ hr1 hl2
   rw [←hW2]
   refine wpIn_mono (hb W2 hr2) fun e a3 W3 hp=>?_
   have T1:∀jump:Option Code,KeepsFrom w.heap.size W2 W3→∃W4,W4=W3.putObj (D+1) (.loop (rec (if jump.isNone then .ready else .done) jump))∧(Instr.endRound (D+1) jump).run P W3=.ok (.bool jump.isNone) W4 ∧
     W3.heap[D+1]?=some (.loop { rec .ready none with state:=.busy })∧W4.heap[D+1]?=some (.loop (rec (if jump.isNone then .ready else .done) jump))∧W4.heap[D]?=some (.deferred (some [])):=fun jump hk=>by
    have h3:=hk.same _ _ (by omega) hl3 rfl
    refine ⟨_,rfl,?_,h3,World.putObj_heap_same (c9g.1 h3).1,(World.putObj_heap_other (by omega)).trans (hk.same _ _ (by omega) hd3 rfl)⟩
    have:=run_endRound (P:=P) jump h3
    rw [hrec] at this ⊢
    exact this
   cases e with
   | normal =>
    obtain ⟨h5,h6,h7⟩:=hp
    obtain ⟨W4,e4,hr4,hl4,hl5,hd5⟩:=T1 none h5
    exact ⟨_,W4,hr4,.inl ⟨rfl,⟨by rw [e4];rw [hD] at hl4 ⊢;exact hI _ _ _ _ h7 hl4,hl5,hd5⟩,hKt ha2 (hKt (hKt hk3 h6) (by rw [e4];exact hKb _ _ _ _ (by omega) hl4 rfl rfl))⟩⟩
   | ret =>
    obtain ⟨h5,h7⟩:=hp
    obtain ⟨W4,e4,hr4,hl4,hl5,hd5⟩:=T1 (some .ret) h5
    exact ⟨_,W4,hr4,.inr ⟨rfl,.ret,by rw [e4];rw [hD] at hl4 ⊢;exact hIx _ _ _ _ h7 hl4,hl5,hd5⟩⟩
   | exit i =>
    obtain ⟨h5,h7⟩:=hp
    obtain ⟨W4,e4,hr4,hl4,hl5,hd5⟩:=T1 (some (.exit i)) h5
    exact ⟨_,W4,hr4,.inr ⟨rfl,.exit i,by rw [e4];rw [hD] at hl4 ⊢;exact hIx _ _ _ _ h7 hl4,hl5,hd5⟩⟩
   | goto t=>exact hp.elim
   | panic ch=>exact hp.elim
   | outgrown=>exact hp.elim
  | _=>exact h.elim
 ·rintro e W2 ⟨⟨v,rfl⟩,⟨hi,hl,hd⟩|⟨c,hi,hl,hd⟩⟩
  ·exact ⟨none,_,by have:=run_endLoop (P:=P) hl (by rw [hrec];simp);rw [hrec] at this;exact this,hdone D _ hD (by rw [hD] at hl ⊢;exact hI _ _ _ _ hi hl) ((World.putObj_heap_other (by omega)).trans hd)⟩
  ·exact ⟨some c,_,by have:=run_endLoop (P:=P) hl (by rw [hrec];simp);rw [hrec] at this;exact this,hstop D c _ (by omega) (by rw [hD] at hl ⊢;exact hIx _ _ _ _ hi hl) ((World.putObj_heap_other (by omega)).trans hd)⟩
end
end Go.Proofs.Ytahpnackkmbmgaa.Vm
end
section
namespace Go.Proofs.Ytahpnackkmbmgaa.Vm
open Go.RowKit Go.Shelf Go.Proofs
attribute [local go_sem] Oper.semAt_some
def KpB (Bs b off m:Nat) (W W':World):Prop:=(∀v,W.cell? ⟨Bs,0,none⟩=some v→W'.cell? ⟨Bs,0,none⟩=some v)∧∀i,i<m→∀v,W.cell? ⟨b,off+i,none⟩=some v→W'.cell? ⟨b,off+i,none⟩=some v
theorem KpB.refl {Bs b off m:Nat} (W:World):KpB Bs b off m W W:=⟨fun _ h=>h,fun _ _ _ h=>h⟩
theorem KpB.trans {Bs b off m:Nat} {A B C:World} (h:KpB Bs b off m A B) (h':KpB Bs b off m B C):KpB Bs b off m A C:=⟨fun v hv=>h'.1 v (h.1 v hv),fun i hi v hv=>h'.2 i hi v (h.2 i hi v hv)⟩
theorem KpB.turn {Bs b off m:Nat} (W:World) (l:Nat) (o o':Obj) (hl:W.heap[l]?=some o) (ho:o.isCells=false):KpB Bs b off m W (W.putObj l o') :=
 ⟨fun v hv=>cell_kept hv (grownBy_putObj' W l o') (fun r e=>by cases e;exact ⟨o,hl,ho⟩),fun i hi v hv=>cell_kept hv (grownBy_putObj' W l o') (fun r e=>by cases e;exact ⟨o,hl,ho⟩)⟩
set_option maxRecDepth 100000 in
set_option maxHeartbeats 4000000 in
theorem b99 (e:Nat→Nat→Value) (F:Fence) (n:Nat) (hf:F.fn 145) (hro:F.round=none) (hn:1≤n) (l Bs b off len cap:Nat) (hreach:len * 80≤140737488351232) (J:Nat→World→Prop) (Jx:Unit→World→Prop)
  (hY:∀(k:Nat) (W:World),k<len→J k W→YieldAt F (n - 1) Try.prog l #[.int .i64 ((len - 1 - k:Nat):Int),.agg #[e (len - 1 - k) 0,e (len - 1 - k) 1,e (len - 1 - k) 2,e (len - 1 - k) 3,e (len - 1 - k) 4]] W fun r W' =>
   (r=.returned (.bool true)∧J (k+1) W'∧KpB Bs b off (len * 5) W W')∨(r=.returned (.bool false)∧Jx () W'))
  (W:World) (hBs:W.cell? ⟨Bs,0,none⟩=some (.slice (some ⟨b,off,none⟩) len cap)) (hc:∀j,j<len→∀i,i<5→W.cell? ⟨b,off+(j * 5+i),none⟩=some (e j i)) (h0:J 0 W) :
  CallsIn F n Try.prog 145 #[.func (.yield l) #[] #[],.pointer (some ⟨Bs,0,none⟩)] W fun r W'=>(∃v,r=.returned v)∧(J len W'∨Jx () W'):=by
 refine callsIn_of_wp Try.func145 rfl hf ?_ hro
 simp only [Try.ntmps145,d0n,c9a,c9n,Nat.reduceAdd,Nat.reduceSub,d0u,d0v,d05,d0y,c9I,c9G]
 gi_wp2
 gi_loopw [3] (fun i wr=>∃k r:Nat,k+r=len∧i=.int .i64 ((r:Int) - 1)∧J k wr∧KpB Bs b off (len * 5) W wr)
  (fun i _=>(intOf i+1).toNat)
 case atStart=>exact ⟨0,len,by omega,rfl,h0,KpB.refl W⟩
 case round =>
  obtain ⟨k,r,hk,rfl,hJs,hnx⟩:=hrel
  have hbx:=hnx.1 _ hBs
  cases r with
  | succ q =>
   have eq:(((q+1:Nat):Int) - 1)=(q:Int):=by omega
   have hq:len - 1 - k=q:=by omega
   rw [eq]
   have hy0:=hY k wr (by omega) hJs
   rw [hq] at hy0
   obtain ⟨fn,tmps,assign,body,hy,hR⟩:=hy0
   have h2:∀i,i<5→wr.cell? ⟨b,off+q * 5+i,none⟩=some (e q i):=fun i hi=>by rw [c9S];exact hnx.2 _ (by omega) _ (hc q (by omega) i hi)
   have c0:=h2 0 (by omega)
   have c1:=h2 1 (by omega)
   have c2:=h2 2 (by omega)
   have c3:=h2 3 (by omega)
   have c4:=h2 4 (by omega)
   clear h2 hc hY
   simp only [d0g] at c0
   have hqn:(0:Int)≤(q:Int):=by omega
   have hql:(q:Int)<(len:Int):=by omega
   have hqlt:q<len:=by omega
   gi_wp2
   refine hR.mono ?_
   rintro r W3 (⟨rfl,hJ3,hk3⟩|⟨rfl,hJx3⟩)
   ·gi_wp2
    go_roundw
    case rel=>exact ⟨k+1,q,by omega,by simp,hJ3,hnx.trans hk3⟩
    case measure=>simp [intOf]
   ·gi_wp2
    refine bodyPost_ret (results_none rfl _ _ _) rfl ?_
    exact ⟨⟨_,rfl⟩,.inr hJx3⟩
  | zero =>
   obtain rfl:k=len:=by omega
   clear hY
   gi_wp2
   go_end0
   exact ⟨⟨_,rfl⟩,.inl hJs⟩
set_option maxRecDepth 100000 in
set_option maxHeartbeats 2000000 in
theorem b6K (A:Option Addr) (cap:Nat) (F:Fence) (n:Nat) (hf:F.fn 145) (hro:F.round=none) (l Bs:Nat) (J:World→Prop) (W:World) (hBs:W.cell? ⟨Bs,0,none⟩=some (.slice A 0 cap)) (h0:J W) :
  CallsIn F n Try.prog 145 #[.func (.yield l) #[] #[],.pointer (some ⟨Bs,0,none⟩)] W fun e W'=>(∃v,e=.returned v)∧J W':=by
 refine callsIn_of_wp Try.func145 rfl hf ?_ hro
 simp only [Try.ntmps145,d0n,c9a,c9n,Nat.reduceAdd,Nat.reduceSub,d0u,d0v,d05,d0y,c9I,c9G]
 gi_wp2
 gi_loopw [3] (fun i wr=>i=.int .i64 (-1)∧J wr) (fun _ _=>0)
 case atStart=>exact ⟨rfl,h0⟩
 case round =>
  obtain ⟨rfl,hJs⟩:=hrel
  gi_wp2
  go_end0
  exact ⟨⟨_,rfl⟩,hJs⟩
theorem b6L {I:Nat→Nat→Prop} {w:World} {v:Value} {rows:List (List D)} {Bs:Nat} (hlt:∀b h,I b h→b<w.heap.size) (hv:AtD I w v (.sl 5 rows)) (hBl:Bs<w.heap.size) (hBs:w.cell? ⟨Bs,0,none⟩=some v) (hreach:rows.length * 80≤140737488351232) :
    ∃(b off:Nat) (us:List Value),us.length=rows.length * 5∧(rows≠[]→Up I b (off+rows.length * 5))∧B0 I w us rows.flatten∧(∀r∈rows,r.length=5) ∧
      ∀(F:Fence) (n:Nat),F.fn 145→F.round=none→1≤n→b3V F n Try.prog 145 #[.pointer (some ⟨Bs,0,none⟩)] (fun k=>#[.int .i64 ((rows.length - 1 - k:Nat):Int),.agg (((us.drop ((rows.length - 1 - k) * 5)).take 5).toArray)]) (KpB Bs b off (rows.length * 5)) rows.length w:=by
  obtain ⟨A,cap,rfl,hcap,h⟩:=hv.slice
  rcases h with rfl|⟨b,off,us,rfl,hI,hr,hl,hc,hd⟩
  · exact ⟨0,0,[],rfl,fun h=>absurd rfl h,.nil I w,fun r hr=>(by cases hr),fun F n hf hro hn l J Jx W hW hY h0 =>
      (b6K A cap F n hf hro l Bs (J 0) W ((hW.cell (p:=⟨Bs,0,none⟩) hBl).trans hBs) h0).mono fun e W' h=>⟨h.1,.inl h.2⟩⟩
  · refine ⟨b,off,us,hl,fun _=>hI,hd,hr,fun F n hf hro hn l J Jx W hW hY h0=>?_⟩
    have hbl:b<w.heap.size:=by obtain ⟨k,h1,h2⟩:=hI;exact hlt _ _ h2
    refine b99 (fun j i=>us.getD (j * 5+i) undef) F n hf hro hn l Bs b off rows.length cap hreach J Jx (fun k W1 hk hj=>?_) W ((hW.cell (p:=⟨Bs,0,none⟩) hBl).trans hBs) (fun j hj i hi=>?_) h0
    · have:=hY k W1 hk hj
      have hlen:(rows.length - 1 - k) * 5+5≤us.length:=by rw [hl,←c9M];exact c9C _ (by omega)
      have e:((us.drop ((rows.length - 1 - k) * 5)).take 5)=[us.getD ((rows.length - 1 - k) * 5+0) undef,us.getD ((rows.length - 1 - k) * 5+1) undef,us.getD ((rows.length - 1 - k) * 5+2) undef,us.getD ((rows.length - 1 - k) * 5+3) undef,us.getD ((rows.length - 1 - k) * 5+4) undef]:=by
        apply d0j
        intro i
        rw [c91]
        split
        · rename_i hi
          rw [c9x]
          have h3:(rows.length - 1 - k) * 5+i<us.length:=by omega
          have hu:∀j,(rows.length - 1 - k) * 5+j<us.length→us[(rows.length - 1 - k) * 5+j]?=some (us.getD ((rows.length - 1 - k) * 5+j) undef):=fun j hj=>by rw [c9k,c8T hj];rfl
          rw [hu i h3]
          match i,hi with
          | 0,_=>rfl
           | 1,_=>rfl
           | 2,_=>rfl
           | 3,_=>rfl
           | 4,_=>rfl
          
        · rename_i hi
          rw [c9H (by simp;omega)]
      dsimp only at this
      rw [e] at this
      exact this
    · refine (hW.cell (p:=⟨b,off+(j * 5+i),none⟩) hbl).trans ?_
      have h3:j * 5+i<us.length:=by
        have h4:j * 5+5≤rows.length * 5:=by rw [←c9M];exact c9C _ (by omega)
        omega
      have:=hc (j * 5+i) _ (c8T h3)
      rw [this,c9k,c8T h3]
      rfl
end Go.Proofs.Ytahpnackkmbmgaa.Vm
end
section
namespace Go.Proofs.Ytahpnackkmbmgaa.Vm
open Go.RowKit
set_option maxRecDepth 100000
set_option maxHeartbeats 4000000
section
section
variable {I0:Nat→Nat→Prop} {X:Nat→Prop} {w0:W0} {I:Nat→Nat→Prop} {g:Nat→Value} {s:S} {a:Act} {w:World}
def other:Obj→Bool
 | .cells _ _ _=>false
 | .map _ _=>false
 | _=>true
theorem a0m {L:Nat} {o:Obj} (hI:∀k,¬I L k):y9 I w (w.putObj L o):=fun b k hb i hi=>by
 have hne:b≠L:=fun e=>hI k (e ▸ hb)
 show (match (w.putObj L o).heap[b]? with|some (.cells c _ _)=>c[i]?|_=>none)=_
 rw [World.putObj_heap_other hne]
 rfl
theorem a1r {L:Nat} {y:Obj} (hl:w.heap[L]?=some y) (hy:other y=true) {k:Nat} {o:O} (h:a0b X w0 I w g k o) (hd:o≠.dead):¬gbl (g k) L:=fun hg=>by
 cases o with
 | dead=>exact hd rfl
 | box cs =>
  obtain ⟨b,us,t,h1,h2,_⟩:=h
  rw [h1] at hg
  obtain rfl:b=L:=hg
  rw [hl] at h2
  rw [Option.some.inj h2] at hy
  cases hy
 | row z e rows =>
  obtain ⟨us,h1,_⟩:=h
  rcases h1.2 with ⟨e0,_⟩|⟨g',cap,cur,e0,_,hh,_⟩
  ·rw [e0] at hg;exact hg.elim
  ·rw [e0] at hg
   have hg:g'=L:=hg
   subst hg
   rw [hl] at hh
   rw [Option.some.inj hh] at hy
   cases hy
 | ob T vs =>
  obtain ⟨b,h1,h2,_⟩:=h
  rw [h1] at hg
  obtain rfl:b=L:=hg
  rw [hl] at h2
  rw [Option.some.inj h2] at hy
  cases hy
 | mp kt es =>
  obtain ⟨b,l,c,h1,h2,_⟩:=h
  rw [h1] at hg
  obtain rfl:b=L:=hg
  rw [hl] at h2
  rw [Option.some.inj h2] at hy
  cases hy
 | it P =>
  obtain ⟨A,n,cap,F,h1,h2,h3,h4⟩:=h
  rw [h1,a1Q] at hg
  obtain ⟨c,t,h5⟩:=(h4 L hg).1
  rw [hl] at h5
  rw [Option.some.inj h5] at hy
  cases hy
 | kl ks =>
  obtain ⟨us,h1,_⟩:=h
  rw [h1] at hg
  exact hg.elim
theorem b2J {L:Nat} {y y':Obj} (hl:w.heap[L]?=some y) (hy:other y=true) (hI:∀k,¬I L k) {k:Nat} {o:O} (h:a0b X w0 I w g k o):a0b X w0 I (w.putObj L y') g k o:=by
 cases hd:o with
 | dead=>exact True.intro
 | _ =>
  rw [hd] at h
  exact h.keep (fun _ _ h=>h) (a0m hI) (fun b hb=>World.putObj_heap_other fun e=>a1r hl hy h (by simp) (e ▸ hb)) (fun b hb h' hh=>hh)
theorem RelI.turned (h:RelI I0 X w0 I g s a w) {L:Nat} {y y':Obj} (hl:w.heap[L]?=some y) (hy:other y=true) (h0:w0.w.heap.size≤L) (hI:∀k,¬I L k):RelI I0 X w0 I g s a (w.putObj L y'):=by
 have hk:=a0m (w:=w) (o:=y') hI
 refine ⟨h.im,fun b k hb=>⟨?_,(h.lt b k hb).2⟩,⟨h.fr.os,h.fr.tape,h.fr.output,?_,fun b hb hX=>(World.putObj_heap_other (by omega)).trans (h.fr.block b hb hX)⟩,h.kp.trans fun b k hb i hi=>hk b k (h.im b k hb) i hi,h.lo,h.st,fun k o ho=>b2J hl hy hI (h.obj k o ho),h.dis,h.out,h.tmp.mono (fun _ _ h=>h) hk,h.dfr⟩
 ·have:=(h.lt b k hb).1;simpa using this
 ·have:=h.fr.size;simpa using this
end
section
variable {I0:Nat→Nat→Prop} {X:Nat→Prop} {w0:W0} {I:Nat→Nat→Prop} {g:Nat→Value} {s:S} {a:Act} {w:World}
theorem RelI.turnBoth (h:RelI I0 X w0 I g s a w) {L:Nat} {y y0 y':Obj} (hl:w.heap[L]?=some y) (hy:other y=true) (hl0:w0.w.heap[L]?=some y0) (hI:∀k,¬I L k):RelI I0 X ⟨w0.w.putObj L y',w0.g,w0.n,w0.d⟩ I g s a (w.putObj L y'):=by
 have hk:=a0m (w:=w) (o:=y') hI
 have hk0:=a0m (w:=w0.w) (o:=y') (I:=I0) (fun k hk=>hI k (h.im L k hk))
 have hM:∀b,a2o X w0 b→a2o X ⟨w0.w.putObj L y',w0.g,w0.n,w0.d⟩ b:=fun b hb=>by
  rcases hb with hb|hb
  ·exact .inl (by simpa using hb)
  ·exact .inr hb
 refine ⟨h.im,fun b k hb=>⟨?_,fun hlt=>(h.lt b k hb).2 (by simpa using hlt)⟩,⟨h.fr.os,h.fr.tape,h.fr.output,?_,fun b hb hX=>?_⟩,?_,h.lo,h.st,fun k o ho=>?_,h.dis,h.out,h.tmp.mono (fun _ _ h=>h) hk,h.dfr.1,?_⟩
 ·have:=(h.lt b k hb).1;simpa using this
 ·have:=h.fr.size;simpa using this
 ·by_cases e:b=L
  ·subst e
   rw [World.putObj_heap_same (c9g.1 hl).1,World.putObj_heap_same (c9g.1 hl0).1]
  ·rw [World.putObj_heap_other e,World.putObj_heap_other e]
   exact h.fr.block b (by simpa using hb) hX
 ·intro b k hb i hi
  exact ((hk b k (h.im b k hb) i hi).trans (h.kp b k hb i hi)).trans (hk0 b k hb i hi).symm
 ·have:=b2J (y':=y') hl hy hI (h.obj k o ho)
  cases o with
  | dead=>exact True.intro
  | box cs=>obtain ⟨b,us,t,h1,h2,h3,h4,h5,h6⟩:=this;exact ⟨b,us,t,h1,h2,h3,h4,h5,hM b h6⟩
  | mp kt es=>obtain ⟨b,l,c,h1,h2,h3,h4,h6⟩:=this;exact ⟨b,l,c,h1,h2,h3,h4,hM b h6⟩
  | it P=>obtain ⟨A,n,cap,F,h1,h2,h3,h4⟩:=this;exact ⟨A,n,cap,F,h1,h2,h3,fun b hb=>⟨(h4 b hb).1,(h4 b hb).2.1,hM b (h4 b hb).2.2⟩⟩
  | kl ks=>exact this
  | ob T vs=>obtain ⟨b,h1,h2,h3,h4⟩:=this;exact ⟨b,h1,h2,h3,hM b h4⟩
  | row z e rows=>obtain ⟨us,h1,h2,h3,h4⟩:=this;exact ⟨us,h1,h2,h3,fun b hb=>⟨(h4 b hb).1,(h4 b hb).2.1,hM b (h4 b hb).2.2⟩⟩
 ·intro t ht
  obtain ⟨h1,h2⟩:=h.dfr.2 t ht
  obtain ⟨gl,ty,c,e1,e2,e3⟩:=b7Y h1
  have hne:gl≠L:=fun e=>by
   subst e
   have:=(h.fr.block gl e3 (h2 gl e1)).trans e2
   rw [hl] at this
   injection this with this
   subst this
   cases hy
  exact ⟨b7Z e1 ((World.putObj_heap_other hne).trans e2),h2⟩
theorem a5q {B:Nat} {g':Nat→Value} {os:List O} {nn:Nat} {d:List Deferred} {I2:Nat→Nat→Prop} {g2:Nat→Value} {s2:S} {a2:Act} {w2:World} (h:∀k o,os[k]?=some o→a0b X w0 I w g' k o) (hmp:∀j kt es b,os[j]?=some (.mp kt es)→gbl (g' j) b→b<B)
  (h2:RelI I (Xof g' os) ⟨w,g',nn,d⟩ I2 g2 s2 a2 w2):KeepsFrom B w w2:=by
 refine ⟨h2.fr.size,fun k o hk ho hc=>(h2.fr.block k (c9g.1 ho).1 fun ⟨j,x,hj,hd,hb⟩=>?_).trans ho⟩
 have hob:=h j x hj
 cases x with
 | dead=>exact hd rfl
 | box cs =>
  obtain ⟨b,us,t,h1,h2,_⟩:=hob
  rw [h1] at hb
  obtain rfl:b=k:=hb
  rw [ho] at h2
  injection h2 with h2
  rw [h2] at hc
  cases hc
 | row z e rows =>
  obtain ⟨us,h1,_⟩:=hob
  rcases h1.2 with ⟨e0,_⟩|⟨g3,cap,cur,e0,_,hh,_⟩
  ·rw [e0] at hb;exact hb.elim
  ·rw [e0] at hb
   have hb:g3=k:=hb
   subst hb
   rw [ho] at hh
   injection hh with hh
   rw [hh] at hc
   cases hc
 | mp kt es=>have:=hmp j kt es k hj hb;omega
 | ob T vs =>
  obtain ⟨b,h1,h2,_⟩:=hob
  rw [h1] at hb
  obtain rfl:b=k:=hb
  rw [ho] at h2
  injection h2 with h2
  rw [h2] at hc
  cases hc
 | it P =>
  obtain ⟨A,n,cap,F,h1,h2,h3,h4⟩:=hob
  rw [h1,a1Q] at hb
  obtain ⟨c,t,h5⟩:=(h4 k hb).1
  rw [ho] at h5
  injection h5 with h5
  rw [h5] at hc
  cases hc
 | kl ks =>
  obtain ⟨us,h1,_⟩:=hob
  rw [h1] at hb
  exact hb.elim
end
def b2K:O→Bool
 | .mp _ _=>true
 | _=>false
def a0O:List O→List O→Bool
 | _,[]=>true
 | [],o::l=>match b2K o with|true=>false|false=>a0O [] l
 | x::k,o::l=>match b2K o with|true=>(match b2K x with|true=>a0O k l|false=>false)|false=>a0O k l
theorem c2i {o:O} (h:b2K o=true):∃kt es,o=.mp kt es:=by
 cases o with
 | mp kt es=>exact ⟨kt,es,rfl⟩
 | _=>cases h
theorem a5r:∀ {k l:List O} {j:Nat} {kt:Nat} {es:List (R×R)},a0O k l=true→l[j]?=some (.mp kt es)→∃kt' es',k[j]?=some (.mp kt' es')
 | _,[],j,_,_,_,h=>by simp at h
 | [],o::l,j,kt,es,hs,h=>by
  simp only [a0O] at hs
  cases ho:b2K o with
  | true=>rw [ho] at hs;cases hs
  | false =>
   rw [ho] at hs
   cases j with
   | zero=>simp at h;subst h;cases ho
   | succ j =>
    obtain ⟨a,b,hx⟩:=a5r hs (show l[j]?=_ by simpa using h)
    simp at hx
 | x::k,o::l,j,kt,es,hs,h=>by
  simp only [a0O] at hs
  cases j with
  | zero =>
   simp at h
   subst h
   cases hx:b2K x with
   | true=>obtain ⟨a,b,rfl⟩:=c2i hx;exact ⟨a,b,rfl⟩
   | false=>rw [hx] at hs;cases hs
  | succ j =>
   have hs':a0O k l=true:=by
    cases ho:b2K o with
    | true =>
     rw [ho] at hs
     cases hx:b2K x with
     | true=>rw [hx] at hs;exact hs
     | false=>rw [hx] at hs;cases hs
    | false=>rw [ho] at hs;exact hs
   obtain ⟨a,b,hx⟩:=a5r hs' (show l[j]?=_ by simpa using h)
   exact ⟨a,b,by simpa using hx⟩
def a8A (ks1 ks2:List Nat) (n:Nat) (o o':List O) (m:Nat) (s2:S):Prop:=y6 s2.o m=.kl ks1∧y6 s2.o n=.kl ks2∧a3Y n s2.o=o'∧a1U n o'=true∧a0O o o'=true
def b9A (n:Nat) (o o':List O) (m:Nat) (s2:S):Prop:=y6 s2.o m=.kl []∧y6 s2.o n=.kl []∧a3Y n s2.o=o'∧a1U n o'=true∧a0O o o'=true
def b3W (ks1 ks2:List Nat) (asg bdy:Code) (tk:List V) (o o':List O):Prop :=
 B4 f7 asg ⟨tk,r9 o (.kl [])⟩ (fun x s1=>x=.normal∧a0O o s1.o=true∧B4 f7 bdy ⟨s1.t,r9 s1.o (.kl [])⟩ (fun x s2=>x=.normal∧a8A ks1 ks2 (m7 o) o o' (m7 s1.o) s2))
def c4Y (asg bdy:Code) (tk:List V) (o o':List O):Prop :=
 B4 f7 asg ⟨tk,r9 o (.kl [])⟩ (fun x s1=>x=.normal∧a0O o s1.o=true∧B4 f7 bdy ⟨s1.t,r9 s1.o (.kl [])⟩ (fun x s2=>x=.normal∧b9A (m7 o) o o' (m7 s1.o) s2))
section
variable {I0:Nat→Nat→Prop} {X:Nat→Prop} {w0:W0} {I:Nat→Nat→Prop} {g:Nat→Value} {t:List V} {o:List O} {a:Act} {W:World}
def a22 (I0:Nat→Nat→Prop) (X:Nat→Prop) (w0:W0) (I:Nat→Nat→Prop) (L B:Nat) (t:List V) (a:Act) (o:List O) (W:World):Prop :=
 ∃I' g',(∀b k,I b k→I' b k)∧(∀k,¬I' L k∧¬I' B k)∧RelI I0 X w0 I' g' ⟨t,o⟩ a W∧∀j kt es b,o[j]?=some (.mp kt es)→gbl (g' j) b→b<B
theorem b9B {asg bdy:Code} {ro:Option Nat} {n L B:Nat} {r:Loop} {us:List Value} {tk:List V} {o':List O} {ks1 ks2:List Nat} (hA:o4 Try.prog asg=true) (hB:o4 Try.prog bdy=true)
  (h:RelI I0 X w0 I g ⟨t,o⟩ a W) (hL:W.heap[L]?=some (.loop r)) {dd:Option (List Deferred)} (hD:W.heap[B]?=some (.deferred dd)) (hL0:w0.w.heap.size≤L) (hI2:∀k,¬I L k∧¬I B k) (hmp:∀j kt es b,o[j]?=some (.mp kt es)→gbl (g j) b→b<B) (hv:j8 I W g us tk) (ht:A2 ks2 t=t) (hx:b3W ks1 ks2 asg bdy tk o o') :
  asg.wpIn (FW ro) n Try.prog (Exit.then (fun a' W1=>KeepsFrom B W W1∧y9 I W W1∧∃R:World→Prop,b2I L R∧R W1∧∀W2,R W2→bdy.wpIn (FW ro) n Try.prog (b98 B (y9 I) (a22 I0 X w0 I L B t a o') (fun _ _=>False) W2) a' W2) (fun _ _ _=>False)) { tmps:=us.toArray,defers:=[] } W:=by
 obtain ⟨g',hg,hgn,h1⟩:=h.rebase hv
 have hLt:L<W.heap.size:=(c9g.1 hL).1
 have hDt:B<W.heap.size:=(c9g.1 hD).1
 have hIL:∀k,¬I L k:=fun k=>(hI2 k).1
 have hmp1:∀j kt es b,(r9 o (.kl []))[j]?=some (.mp kt es)→gbl (g' j) b→b<B:=fun j kt es b hj hb=>by
  rw [a01] at hj
  have hlt:j<o.length:=by
   have:=(c8S.1 hj).1
   rw [c8U,d00] at this
   rcases c9N j o.length with h|h
   ·exact h
   ·have:j=o.length:=by omega
    subst this
    simp at hj
  rw [c9l hlt] at hj
  rw [hg j hlt] at hb
  exact hmp j kt es b hj hb
 have hXL:¬Xof g' (r9 o (.kl [])) L:=fun ⟨j,x,hj,hd,hb⟩=>a1r hL rfl (h1.obj j x hj) hd hb
 have hXD:¬Xof g' (r9 o (.kl [])) B:=fun ⟨j,x,hj,hd,hb⟩=>a1r hD rfl (h1.obj j x hj) hd hb
 refine J2 asg _ _ _ _ _ hA ⟨I,g',h1⟩ hx fun e s1 a' W1 hr hk=>?_
 obtain ⟨he,hms,hx2⟩:=hk
 subst he
 obtain ⟨I1,g1,h1a⟩:=hr
 have hI1L:∀k,¬I1 L k:=fun k hk=>by
  rcases (h1a.lt L k hk).2 hLt with h2|h2
  ·exact hIL k h2
  ·exact hXL h2
 have hI1D:∀k,¬I1 B k:=fun k hk=>by
  rcases (h1a.lt B k hk).2 hDt with h2|h2
  ·exact (hI2 k).2 h2
  ·exact hXD h2
 have hmp2:∀j kt es b,s1.o[j]?=some (.mp kt es)→gbl (g1 j) b→b<B:=fun j kt es b hj hb=>by
  obtain ⟨kt',es',ho⟩:=a5r hms hj
  have hlt:=(c8S.1 ho).1
  obtain ⟨b0,l0,c0,e0,_⟩:=h.obj j _ ho
  have e1:=hg j hlt
  rw [e0] at e1
  have e2:=h1a.st j (Nat.lt_succ_of_lt hlt) (by show W7 (g' j)=true;rw [e1];rfl)
  have e2:g1 j=g' j:=e2
  rw [e2,e1] at hb
  exact hmp j kt' es' b ho (by rw [e0];exact hb)
 refine ⟨a5q h1.obj hmp1 h1a,h1a.kp,fun W2=>∃(Wb:World) (rb r2:Loop),RelI I0 X w0 I g ⟨t,o⟩ a Wb∧Wb.heap[L]?=some (.loop rb)∧W2.heap[L]?=some (.loop r2)∧(B≠L→W2.heap[B]?=some (.deferred dd))∧RelI I (Xof g' (r9 o (.kl []))) ⟨Wb,g',o.length+1,[]⟩ I1 g1 s1 a' W2,?_,?_,?_⟩
 ·rintro W2 r3 r' ⟨Wb,rb,r2,b1,b2,b3,bd,b4⟩ hl
  exact ⟨Wb.putObj L (.loop r'),r',r',b1.turned b2 rfl hL0 hIL,World.putObj_heap_same (c9g.1 b2).1,World.putObj_heap_same (c9g.1 b3).1,fun hne=>(World.putObj_heap_other hne).trans (bd hne),b4.turnBoth hl rfl b2 hI1L⟩
 ·exact ⟨W,r,r,h,hL,(h1a.fr.block L hLt hXL).trans hL,fun _=>(h1a.fr.block B hDt hXD).trans hD,h1a⟩
 ·rintro W2 ⟨Wb,rb,r2,b1,b2,b3,bd,b4⟩
  have hne:B≠L:=fun e=>by rw [e,hL] at hD;cases hD
  have bd:=bd hne
  obtain ⟨g3,hg3,hgn3,h5⟩:=b4.rebase b4.tmp
  have ea:({ tmps:=a'.tmps.toList.toArray,defers:=[] }:Act)=a':=by
   have:=b4.dfr.1
   cases a'
   simp only at this
   subst this
   rfl
  rw [ea] at h5
  have hmp3:∀j kt es b,(r9 s1.o (.kl []))[j]?=some (.mp kt es)→gbl (g3 j) b→b<B:=fun j kt es b hj hb=>by
   rw [a01] at hj
   have hlt:j<s1.o.length:=by
    have:=(c8S.1 hj).1
    rw [c8U,d00] at this
    rcases c9N j s1.o.length with h|h
    ·exact h
    ·have:j=s1.o.length:=by omega
     subst this
     simp at hj
   rw [c9l hlt] at hj
   rw [hg3 j hlt] at hb
   exact hmp2 j kt es b hj hb
  refine J2 bdy _ _ _ _ _ hB ⟨I1,g3,h5⟩ hx2 fun e s2 a3 W3 hr hk=>?_
  obtain ⟨he,k1,k2,k3,k4,k5⟩:=hk
  subst he
  obtain ⟨I2,g2,h6⟩:=hr
  have hlo:o.length+1≤s1.o.length:=h1a.lo
  have k1:=A6 k1 (by simp)
  have k2:=A6 k2 (by simp)
  rw [o9] at k1 k2 k3 k4
  rw [a5e] at k3
  obtain ⟨_,h7⟩:=b4.unbase hg3 hgn3 h6 k1
  obtain ⟨hcut,h8⟩:=b1.unbase hg hgn h7 (ks:=ks2) (by rw [c9p (by show s1.o.length≠o.length;omega)];exact k2)
  have e3:((s2.o.set s1.o.length .dead).set o.length .dead).take o.length=o':=by
   rw [d0M (c9c _),d0M (by omega),k3]
  have hl2:o.length<s2.o.length:=(c8S.1 k2).1
  have h9:=h8.trim (n:=o.length) h.lo (by show o.length≤((s2.o.set _ _).set _ _).length;rw [c9u,c9u];omega) hcut (by show a1U _ (((s2.o.set _ _).set _ _).take _)=true;rw [e3];exact k4)
  have e4:(⟨A2 ks2 t,((s2.o.set s1.o.length .dead).set o.length .dead).take o.length⟩:S)=⟨t,o'⟩:=by rw [e3,ht]
  have h9':RelI I0 X w0 I2 (a4T o.length g2) ⟨t,o'⟩ a W3:=by rw [←e4];exact h9
  refine ⟨a5q h5.obj hmp3 h6,fun b k hb=>h6.kp b k (h1a.im b k hb),I2,a4T o.length g2,h7.im,fun k=>?_,h9',fun j kt es b hj hb=>?_⟩
  ·constructor
   ·intro hk
    rcases (h6.lt L k hk).2 (c9g.1 b3).1 with h2|⟨j,x,hj,hd,hb⟩
    ·exact hI1L k h2
    ·exact a1r b3 rfl (h5.obj j x hj) hd hb
   ·intro hk
    rcases (h6.lt B k hk).2 (c9g.1 bd).1 with h2|⟨j,x,hj,hd,hb⟩
    ·exact hI1D k h2
    ·exact a1r bd rfl (h5.obj j x hj) hd hb
  ·obtain ⟨kt',es',ho⟩:=a5r k5 hj
   have hlt:=(c8S.1 ho).1
   obtain ⟨b0,l0,c0,e0,_⟩:=h.obj j _ ho
   have e1:=hg j hlt
   rw [e0] at e1
   have e2:g2 j=g' j:=h7.st j (Nat.lt_succ_of_lt hlt) (by show W7 (g' j)=true;rw [e1];rfl)
   rw [show a4T o.length g2 j=g2 j from c8Y hlt,e2,e1] at hb
   exact hmp j kt' es' b ho (by rw [e0];exact hb)
end
theorem b0e {s:S} {k i:Nat} (h:M5 ⟨s.t,s.o.set k .dead⟩ i):M5 s i:=by
 obtain ⟨o,ho,hd⟩:=h
 by_cases e:k=i
 ·subst e
  rw [List.getElem?_set] at ho
  split at ho
  ·split at ho
   ·exact absurd (Option.some.inj ho).symm hd
   ·cases ho
  ·exact absurd rfl ‹¬_›
 ·exact ⟨o,by simpa [c9p e] using ho,hd⟩
section
variable {I0:Nat→Nat→Prop} {X:Nat→Prop} {w0:W0} {I:Nat→Nat→Prop} {g:Nat→Value} {s:S} {a:Act} {w:World}
theorem RelI.frzBox (h:RelI I0 X w0 I g s a w) {k:Nat} {cs:List V} (hk:s.o[k]?=some (.box cs)):∃(b:Nat) (us:List Value) (t:TypeId×List Value),g k=.pointer (some ⟨b,0,none⟩)∧w.heap[b]?=some (.cells (us++t.2).toArray t.1 (0,0))∧j8 I w g us cs ∧
  RelI I0 X w0 (fun b' n=>I b' n∨(b'=b∧n≤us.length)) g ⟨s.t,s.o.set k .dead⟩ a w:=by
 obtain ⟨b,us,t,h1,h2,h3,h4,h5,h6⟩:=h.obj k _ hk
 have hlk:M5 s k:=⟨_,hk,by simp⟩
 have hgk:gbl (g k) b:=by rw [h1];rfl
 have hkp:y9 I w w:=y9.refl I w
 refine ⟨b,us,t,h1,h2,h3,fun b n hb=>.inl (h.im b n hb),fun b' n hb=>?_,h.fr,h.kp,by simpa using h.lo,h.st,fun j o hj=>?_,fun i j b hi hj=>h.dis i j b (b0e hi) (b0e hj),fun j hj=>h.out j (by simpa using hj),h.tmp.mono (fun _ _ h=>.inl h) hkp,h.dfr⟩
 ·rcases hb with hb|⟨rfl,_⟩
  ·exact h.lt b' n hb
  ·refine ⟨(c9g.1 h2).1,fun hlt=>.inr ?_⟩
   rcases h6 with hM|hM
   ·omega
   ·exact hM
 ·by_cases hjk:k=j
  ·subst hjk
   have hlt:k<s.o.length:=(c8S.1 hk).1
   simp only [c93 hlt] at hj
   injection hj with hj
   subst hj
   exact True.intro
  ·simp only [c9p hjk] at hj
   by_cases hd:o=.dead
   ·subst hd;exact True.intro
   refine (h.obj j o hj).keep (fun _ _ h=>.inl h) hkp (fun _ _=>rfl) fun b' hb n hn=>?_
   rcases hn with hn|⟨rfl,_⟩
   ·exact hn
   ·exact absurd (h.dis k j b' hlk ⟨o,hj,hd⟩ hgk hb) hjk
end
section
variable {I0:Nat→Nat→Prop} {X:Nat→Prop} {w0:W0} {I:Nat→Nat→Prop} {g:Nat→Value} {t:List V} {a:Act} {w:World}
theorem a22.turned {L B:Nat} {o:List O} (h0:w0.w.heap.size≤L):b2I L (a22 I0 X w0 I L B t a o):=by
 rintro W r r' ⟨I',g',h1,h2,h3,h4⟩ hl
 exact ⟨I',g',h1,h2,h3.turned hl rfl h0 (fun k=>(h2 k).1),h4⟩
theorem b2L {asg bdy:Code} {n:Nat} {g0:Operand} {p1 p2 gf N:Nat} {lb:Array Value} {u1 u2:Nat→Value} {Kp:World→World→Prop} {st:Nat→List O} {tk:Nat→List V} {Q:Exit→Act→World→Prop} {ks1 ks2:List Nat} (hA:o4 Try.prog asg=true) (hB:o4 Try.prog bdy=true)
  (h:RelI I0 X w0 I g ⟨t,st 0⟩ a w) (h1:1≤n) (hg:a.eval g0=.func (.func gf) #[] lb) (eg:∀args w,(callFunc gf args).run Try.prog w=.ok (.enter gf args) w)
  (hseq:b3V (FW none) (n - 1) Try.prog gf lb (fun k=>#[u1 k,u2 k]) Kp N w) (hKt:∀ {A B C:World},Kp A B→Kp B C→Kp A C) (hKb:∀(W:World) (l:Nat) (o o':Obj),w.heap.size≤l→W.heap[l]?=some o→o.isCells=false→o.isWalk=false→Kp W (W.putObj l o')) (hKp:∀W W',y9 I W W'→Kp W W')
  (hv:∀k W I' g',k<N→(∀b j,I b j→I' b j)→y9 I w W→j8 I' W g' a.tmps.toList t→j8 I' W g' ((a.tmps.setIfInBounds p1 (u1 k)).setIfInBounds p2 (u2 k)).toList (tk k))
  (ht:A2 ks2 t=t) (hx:∀k,k<N→b3W ks1 ks2 asg bdy (tk k) (st k) (st (k+1)))
  (hQ:∀(D:Nat) (W:World),D=w.heap.size→a22 I0 X w0 I (w.heap.size+1) w.heap.size t a (st N) W→W.heap[D]?=some (.deferred (some []))→Q .normal { a with defers:={ target:=.collected D,args:=#[] }::a.defers } W) :
  (Code.rangeFunc g0 #[p1,p2] asg bdy).wpIn (FW none) n Try.prog Q a w:=by
 obtain ⟨L,hL⟩:∃L,L=w.heap.size+1:=⟨_,rfl⟩
 have hL0:w0.w.heap.size≤L:=by have:=h.fr.size;omega
 have hIL:∀k,¬I L k∧¬I w.heap.size k:=fun k=>⟨fun hk=>by have:=(h.lt L k hk).1;omega,fun hk=>by have:=(h.lt _ k hk).1;omega⟩
 have hIL1:∀k,¬I L k:=fun k=>(hIL k).1
 refine c2h (F:=FW none) rfl h1 hg trivial eg hseq hKt hKb (fun _=>rfl) (fun k W=>a22 I0 X w0 I L w.heap.size t a (st k) W∧y9 I w W) (fun _ _=>False) (fun k W r r' hw hl=>?_) (fun _ _ _ _ hw _=>hw) (fun r=>?_) (fun l k W hk hw hl=>?_) (fun D W hD hw hd=>?_) (fun _ _ _ _ hw _=>hw.elim)
 ·rw [←hL] at hl ⊢
  exact ⟨a22.turned hL0 W r r' hw.1 hl,hw.2.trans (a0m hIL1)⟩
 ·have hbel:Below w.heap.size w ((w.alloc (.deferred (some []))).alloc (.loop r)):=((Below.refl _ w).alloc (c9c _) _).alloc (by simp) _
  refine ⟨⟨I,g,fun _ _ h=>h,hIL,h.grow hbel (fun _ _ h=>h) (fun _ _ h=>.inl h),fun j kt es b hj hb=>((h.obj j _ hj).blk (by simp) b hb).1⟩,fun b j hb i _=>hbel.cell (p:=⟨b,i,none⟩) (h.lt b j hb).1⟩
 ·obtain ⟨⟨I',g',h2,h3,h4,h5⟩,hk2⟩:=hw
  obtain ⟨⟨r,hl⟩,hdd⟩:=hl
  rw [←hL] at hl
  have key:=b9B (ro:=some l) (n:=n - 1 - 1) hA hB h4 hl hdd hL0 h3 h5 (hv k W I' g' hk h2 hk2 h4.tmp) ht (hx k hk)
  have ez:(#[p1,p2].zip #[u1 k,u2 k]).foldl (fun t (x:Tmp×Value)=>match x with|(p,v)=>t.setIfInBounds p v) a.tmps=(a.tmps.setIfInBounds p1 (u1 k)).setIfInBounds p2 (u2 k):=by simp
  rw [Array.toArray_toList,←ez] at key
  refine wpIn_mono key fun e a' W1 he=>?_
  cases e with
  | normal =>
   obtain ⟨e1,e2,R,e3,e4,e5⟩:=he
   have hkI:∀ {A B:World},y9 I' A B→y9 I A B:=fun h b j hb=>h b j (h2 b j hb)
   refine ⟨e1,hKp _ _ (hkI e2),fun W2=>R W2∧y9 I w W2,?_,⟨e4,hk2.trans (hkI e2)⟩,?_⟩
   ·rintro W2 r1 r2 ⟨f1,f2⟩ hl2
    rw [←hL] at hl2 ⊢
    exact ⟨e3 W2 r1 r2 f1 hl2,f2.trans (a0m hIL1)⟩
   ·rintro W2 ⟨f1,f2⟩
    refine wpIn_mono (e5 W2 f1) fun e a3 W3 he=>?_
    cases e with
    | normal =>
     obtain ⟨q1,q2,I2,g2,q3,q4,q5,q6⟩:=he
     exact ⟨q1,hKp _ _ (hkI q2),⟨I2,g2,fun b j hb=>q3 b j (h2 b j hb),q4,q5,q6⟩,f2.trans (hkI q2)⟩
    | ret=>exact he
    | exit i=>exact he
    | goto t=>exact he
    | panic c=>exact he
    | outgrown=>exact he
  | ret=>exact he.elim
  | exit i=>exact he.elim
  | goto t=>exact he.elim
  | panic c=>exact he.elim
  | outgrown=>exact he.elim
 ·rw [hL] at hw
  exact hQ D W hD hw.1 hd
theorem b9C {asg bdy:Code} {n:Nat} {g0:Operand} {p1 p2 gf N:Nat} {lb:Array Value} {u1 u2:Nat→Value} {Kp:World→World→Prop} {st:Nat→List O} {tk:Nat→List V} {Q:Exit→Act→World→Prop} (hA:o4 Try.prog asg=true) (hB:o4 Try.prog bdy=true)
  (h:RelI I0 X w0 I g ⟨t,st 0⟩ a w) (h1:1≤n) (hg:a.eval g0=.func (.func gf) #[] lb) (eg:∀args w,(callFunc gf args).run Try.prog w=.ok (.enter gf args) w)
  (hseq:b3V (FW none) (n - 1) Try.prog gf lb (fun k=>#[u1 k,u2 k]) Kp N w) (hKt:∀ {A B C:World},Kp A B→Kp B C→Kp A C) (hKb:∀(W:World) (l:Nat) (o o':Obj),w.heap.size≤l→W.heap[l]?=some o→o.isCells=false→o.isWalk=false→Kp W (W.putObj l o')) (hKp:∀W W',y9 I W W'→Kp W W')
  (hv:∀k W I' g',k<N→(∀b j,I b j→I' b j)→y9 I w W→j8 I' W g' a.tmps.toList t→j8 I' W g' ((a.tmps.setIfInBounds p1 (u1 k)).setIfInBounds p2 (u2 k)).toList (tk k))
  (hx:∀k,k<N→c4Y asg bdy (tk k) (st k) (st (k+1)))
  (hQ:∀(D:Nat) (W:World),D=w.heap.size→a22 I0 X w0 I (w.heap.size+1) w.heap.size t a (st N) W→W.heap[D]?=some (.deferred (some []))→Q .normal { a with defers:={ target:=.collected D,args:=#[] }::a.defers } W) :
  (Code.rangeFunc g0 #[p1,p2] asg bdy).wpIn (FW none) n Try.prog Q a w :=
 b2L (ks1:=[]) (ks2:=[]) hA hB h h1 hg eg hseq hKt hKb hKp hv rfl hx hQ
end
section
variable {I0:Nat→Nat→Prop} {X:Nat→Prop} {w0:W0} {I:Nat→Nat→Prop} {g:Nat→Value} {s:S} {a:Act} {w:World}
theorem RelI.mark (h:RelI I0 X w0 I g s a w) (d:List Deferred):RelI I0 X ⟨w0.w,w0.g,w0.n,d⟩ I g s { a with defers:=d } w :=
 ⟨h.im,h.lt,h.fr,h.kp,h.lo,h.st,h.obj,h.dis,h.out,h.tmp,rfl,h.dfr.2⟩
end
def c6A (l:List ResultVar) (q:List R) (m:Nat):Vm.X→S→Prop
 | .exit _,_=>False
 | _,s=>y6 s.o m=.kl []∧b0J f7 s l q
theorem b6M {c2:Code} {n D:Nat} {fn:Func} {q:List R} {w:World} {I IN:Nat→Nat→Prop} {gN:Nat→Value} {t:List V} {oN:List O} {a:Act} {W:World} (hc:o4 Try.prog c2=true) (hr:J9 fn.results.toList=true)
  (h:RelI I (fun _=>False) ⟨w,fun _=>.nilFunc,0,[]⟩ IN gN ⟨t,oN⟩ a W) (hID:∀k,¬IN D k) (hD0:w.heap.size≤D) (hD:W.heap[D]?=some (.deferred (some [])))
  (hx:B4 f7 c2 ⟨t,r9 oN (.kl [])⟩ (fun x s=>c6A fn.results.toList q (m7 oN) x s)) :
  c2.wpIn (FW none) n Try.prog (bodyPostM (FW none) n Try.prog fn (fun e w'=>∃v,e=.returned v∧a2C (nxt I w w') w' v q∧Below w.heap.size w w')) { a with defers:={ target:=.collected D,args:=#[] }::a.defers } W:=by
 obtain ⟨g',hg,hgn,h1⟩:=h.rebase h.tmp
 have hDt:D<W.heap.size:=(c9g.1 hD).1
 have hXD:¬Xof g' (r9 oN (.kl [])) D:=fun ⟨j,x,hj,hd,hb⟩=>a1r hD rfl (h1.obj j x hj) hd hb
 have h2:=h1.mark [{ target:=.collected D,args:=#[] }]
 have ea:({ ({ tmps:=a.tmps.toList.toArray,defers:=[] }:Act) with defers:=[{ target:=.collected D,args:=#[] }] }:Act)={ a with defers:={ target:=.collected D,args:=#[] }::a.defers }:=by
  have:=h.dfr.1
  cases a
  simp only at this
  subst this
  rfl
 rw [ea] at h2
 refine J2 c2 _ _ _ _ _ hc ⟨IN,g',h2⟩ hx fun e s2 a2 W2 hrel hk=>?_
 obtain ⟨I2,g2,h3⟩:=hrel
 have hD2:W2.heap[D]?=some (.deferred (some [])):=(h3.fr.block D hDt hXD).trans hD
 have hI2D:∀k,¬I2 D k:=fun k hk=>by
  rcases (h3.lt D k hk).2 hDt with h4|h4
  ·exact hID k h4
  ·exact hXD h4
 have key:y6 s2.o (m7 oN)=.kl []∧b0J f7 s2 fn.results.toList q→LeavesInM (FW none) n Try.prog fn a2.tmps (fun e w'=>∃v,e=.returned v∧a2C (nxt I w w') w' v q∧Below w.heap.size w w') a2.defers .returning W2:=fun ⟨hkl,hres⟩=>by
  rw [h3.dfr.1]
  have h4:=h3.turnBoth (y':=.deferred none) hD2 rfl hD hI2D
  have h5:=h.turned (y':=.deferred none) hD rfl hD0 hID
  have h6:=h4.mark []
  have hkl:=A6 hkl (by simp)
  rw [o9] at hkl
  obtain ⟨_,h7⟩:=h5.unbase hg hgn h6 hkl
  obtain ⟨v,r1,r2⟩:=a8b h4 hr hres
  refine ⟨by simp,.inl ⟨_,_,rfl,run_takeDeferred hD2,?_⟩⟩
  refine ⟨v,r1,v,rfl,?_,⟨h7.fr.os,h7.fr.tape,h7.fr.output,h7.fr.size,fun b hb=>h7.fr.block b hb (fun hx=>hx)⟩⟩
  have hnx:∀b k,I2 b k→nxt I w _ b k:=fun b k hbk=>by
   obtain ⟨h3,h4⟩:=h7.lt b k hbk
   rcases c9N b w.heap.size with hlt|hge
   ·exact .inl ((h4 hlt).resolve_right (fun hx=>hx))
   ·exact .inr ⟨hge,h3⟩
  match q,r2 with
  | [],⟨us,e,hu⟩=>exact ⟨us,e,hu.mono hnx (y9.refl _ _)⟩
  | [r],hu=>exact AtR.mono hnx (y9.refl _ _) hu
  | r::r'::q,⟨us,e,hu⟩=>exact ⟨us,e,hu.mono hnx (y9.refl _ _)⟩
 cases e with
 | normal=>exact key hk
 | exit i=>exact hk.elim
 | ret=>exact key hk
theorem b3X {f:Nat} {fn:Func} {c0 c1 cp c2 asg bdy:Code} {bi:Nat} {g0:Operand} {ps:Array Tmp} {rs q:List R} {Pre:S→Prop} (hf:Try.prog.funcs[f]?=some fn)
  (hb:fn.body=some (.seq c0 (.seq c1 (.seq (.seq cp (.block bi (.rangeFunc g0 ps asg bdy))) c2)))) (hn:(fn.name != "runtime.NumGoroutine")=true) (h0:o4 Try.prog c0=true) (h1:o4 Try.prog c1=true) (hp:o4 Try.prog cp=true)
  (hpre:B4 f7 (.seq c0 (.seq c1 cp)) (a3X rs (fn.ntmps - C4 rs)) (fun x s=>x=.normal∧Pre s))
  (hmid:∀(I I':Nat→Nat→Prop) (g:Nat→Value) (w W:World) (s:S) (a:Act),Pre s→RelI I (fun _=>False) ⟨w,fun _=>.nilFunc,0,[]⟩ I' g s a W →
   (Code.rangeFunc g0 ps asg bdy).wpIn (FW none) 3 Try.prog (Exit.inBlock bi (Exit.then (c2.wpIn (FW none) 3 Try.prog (bodyPostM (FW none) 3 Try.prog fn (fun e w'=>∃v,e=.returned v∧a2C (nxt I w w') w' v q∧Below w.heap.size w w')))
    (bodyPostM (FW none) 3 Try.prog fn (fun e w'=>∃v,e=.returned v∧a2C (nxt I w w') w' v q∧Below w.heap.size w w')))) a W):A0 f rs q:=by
 refine ⟨by unfold a2q;rw [hf];simp only [hn,hb];rfl,?_⟩
 intro I w args hI hat
 have hlen:=hat.len
 have hsz:args.toArray.size=C4 rs:=by rw [H4];simp [hlen]
 refine callsIn_wide.1 (callsIn_of_wp_marks (n:=3) hf hb trivial ?_)
 rw [hsz]
 have hst:=b2h hI hat (fn.ntmps - C4 rs)
 refine wpIn_seq (J2 (ro:=none) c0 _ _ _ _ _ h0 ⟨I,_,hst⟩ hpre fun e s1 a1 W1 hr1 hk1=>?_)
 cases e with
 | normal =>
  obtain ⟨F1,hg1,hk1⟩:=hk1
  obtain ⟨z1,hf1,hr1'⟩:=hg1 _ _ _ _ _ hr1
  refine wpIn_seq (J2 (ro:=none) c1 _ _ _ _ _ h1 hr1' (hk1 z1 hf1) fun e s2 a2 W2 hr2 hk2=>?_)
  cases e with
  | normal =>
   obtain ⟨F2,hg2,hk2⟩:=hk2
   obtain ⟨z2,hf2,hr2'⟩:=hg2 _ _ _ _ _ hr2
   refine wpIn_seq (wpIn_seq (J2 (ro:=none) cp _ _ _ _ _ hp hr2' (hk2 z2 hf2) fun e s3 a3 W3 hr3 hk3=>?_))
   obtain ⟨he,hP⟩:=hk3
   subst he
   obtain ⟨I',g',h3⟩:=hr3
   exact wpIn_block (hmid I I' g' w W3 s3 a3 hP h3)
  | exit i=>exact absurd hk2.1 (by simp)
  | ret=>exact absurd hk2.1 (by simp)
 | exit i=>exact absurd hk1.1 (by simp)
 | ret=>exact absurd hk1.1 (by simp)
end
section
def I7:Code→Code
 | .seq c _=>c
 | c=>c
def o5:Code→Code
 | .seq _ c=>c
 | c=>c
def jT (rows:List (List D)) (d0 d1 d2 d3:D):List V:=[.d (.sl 5 rows),.ag [.d d0,.d d1,.d d2,.d d3],.tu [],.ptr 0 0,.ptr 1 0,.ptr 2 0,.tu [],.tu [],.ag [.d d0,.d d1,.d d2,.d d3],.ag [.d d0,.d d1,.d d2,.d d3],.d (.sl 5 rows),
 .cl 145 [4],.tu [],.tu [],.tu [],.tu [],.tu [],.tu [],.tu [],.tu [],.tu [],.tu [],.tu []]
def jO (d0 d1 d2 d3:D) (acc:List V) (b:O):List O:=[.box [.d d0,.d d1,.d d2,.d d3],.box [.d (.sc (.int .u8 0)),.d (.sc (.string ⟨#[]⟩)),.d (.sc (.int .i64 0)),.em],.box acc,.dead,b]
set_option maxRecDepth 100000
set_option maxHeartbeats 4000000
theorem b9D (rows:List (List D)) (d0 d1 d2 d3:D) (hcp:A0 134 [.ag [d0,d1,d2,d3]] [.ag [d0,d1,d2,d3]]) (P:S→Prop) (hP:P ⟨jT rows d0 d1 d2 d3,jO d0 d1 d2 d3 [.d d0,.d d1,.d d2,.d d3] (.box [.d (.sl 5 rows)])⟩):∀qa qb qc qd qe qg qh qi qj qk ql qm qo qp qq qt qu qv qw qx qy qz va vc vd ve vf vg vh vj vk vl vm vn vo vp vq vr vt vu vv vw vx,Ar.mk qa qb qc qd qe qg qh qi qj qk ql qm qo qp qq qt qu qv qw qx qy qz va vc vd ve vf vg vh vj vk vl vm vn vo vp vq vr vt vu vv vw vx=f7→B4 (Ar.mk qa qb qc qd qe qg qh qi qj qk ql qm qo qp qq qt qu qv qw qx qy qz va vc vd ve vf vg vh vj vk vl vm vn vo vp vq vr vt vu vv vw vx) (.seq (I7 (Try.f127.body.getD .skip)) (.seq (I7 (o5 (Try.f127.body.getD .skip))) (I7 (I7 (o5 (o5 (Try.f127.body.getD .skip)))))))
  (a3X [.one (.sl 5 rows),.ag [d0,d1,d2,d3]] (Try.f127.ntmps - C4 [R.one (.sl 5 rows),.ag [d0,d1,d2,d3]])) (fun x s=>x=.normal∧P s):=by
 intro _ _ _ _ _ _ _ _ _ _ _ _ _ _ _ _ _ _ _ _ _ _ _ _ _ _ _ _ _ _ _ _ _ _ _ _ _ _ _ _ _ vw _ hA
 cbv
 repeat ((with_reducible apply f8 hA);cbv)
 refine i9 hA _ hcp ?_ ?_
 ·rfl
 cbv
 repeat ((with_reducible apply f8 hA);cbv)
 refine a8f hA Try.func135 rfl (by kernel_rfl) (by kernel_rfl) (by kernel_rfl) ?_
 cbv
 repeat ((with_reducible apply f8 hA);cbv)
 exact hP
def a1s:Code→Code
 | .block _ (.rangeFunc _ _ a _)=>a
 | c=>c
def a1t:Code→Code
 | .block _ (.rangeFunc _ _ _ b)=>b
 | c=>c
theorem b3Y (rows:List (List D)) (d0 d1 d2 d3 a0 a1 a2 a3 nm c0 c1 c2 c3:D) (i:Int) (hcp:A0 134 [.ag [c0,c1,c2,c3]] [.ag [c0,c1,c2,c3]]):∀qa qb qc qd qe qg qh qi qj qk ql qm qo qp qq qt qu qv qw qx qy qz va vc vd ve vf vg vh vj vk vl vm vn vo vp vq vr vt vu vv vw vx,Ar.mk qa qb qc qd qe qg qh qi qj qk ql qm qo qp qq qt qu qv qw qx qy qz va vc vd ve vf vg vh vj vk vl vm vn vo vp vq vr vt vu vv vw vx=f7 →
  B4 (Ar.mk qa qb qc qd qe qg qh qi qj qk ql qm qo qp qq qt qu qv qw qx qy qz va vc vd ve vf vg vh vj vk vl vm vn vo vp vq vr vt vu vv vw vx) (a1s (o5 (I7 (o5 (o5 (Try.f127.body.getD .skip)))))) ⟨E6 (E6 (jT rows d0 d1 d2 d3) 12 (vi .i64 i)) 13 (.ag [.d nm,.d c0,.d c1,.d c2,.d c3]),r9 (jO d0 d1 d2 d3 [.d a0,.d a1,.d a2,.d a3] .dead) (.kl [])⟩
   (fun x s1=>x=.normal∧a0O (jO d0 d1 d2 d3 [.d a0,.d a1,.d a2,.d a3] .dead) s1.o=true∧B4 (Ar.mk qa qb qc qd qe qg qh qi qj qk ql qm qo qp qq qt qu qv qw qx qy qz va vc vd ve vf vg vh vj vk vl vm vn vo vp vq vr vt vu vv vw vx) (a1t (o5 (I7 (o5 (o5 (Try.f127.body.getD .skip)))))) ⟨s1.t,r9 s1.o (.kl [])⟩ (fun x s2=>x=.normal ∧
    b9A 5 (jO d0 d1 d2 d3 [.d a0,.d a1,.d a2,.d a3] .dead) (jO d0 d1 d2 d3 [.d (.sc (.int .u8 11)),.d nm,.d (.sc (.int .i64 0)),.d (.sl 4 [[c0,c1,c2,c3],[a0,a1,a2,a3]])] .dead) (m7 s1.o) s2)):=by
 intro _ _ _ _ _ _ _ _ _ _ _ _ _ _ _ _ _ _ _ _ _ _ _ _ _ _ _ _ _ _ _ _ _ _ _ _ _ _ _ _ _ vw _ hA
 cbv
 repeat ((with_reducible apply f8 hA);cbv)
 refine j5 hA _ hcp ?_
 cbv
 repeat ((with_reducible first|apply f8 hA|apply C2 hA true);cbv)
 exact ⟨rfl,trivial⟩
def a5s:List (List D)→List D→List D
 | [],tl=>tl
 | r::rows,tl=>[.sc (.int .u8 11),r.headD (.sl 0 []),.sc (.int .i64 0),.sl 4 [r.tail,a5s rows tl]]
theorem a8B (rows:List (List D)) (d0 d1 d2 d3:D):∃a0 a1 a2 a3,a5s rows [d0,d1,d2,d3]=[a0,a1,a2,a3]:=by
 cases rows <;> exact ⟨_,_,_,_,rfl⟩
def a9n (rows:List (List D)) (tl:List D) (k:Nat):List D:=a5s (rows.drop (rows.length - k)) tl
theorem b6N {rows:List (List D)} {tl r:List D} {k:Nat} (hk:k<rows.length) (hr:rows[rows.length - 1 - k]?=some r):a9n rows tl (k+1)=a5s (r::rows.drop (rows.length - k)) tl:=by
 have h1:rows.length - (k+1)<rows.length:=by omega
 have h2:=c98 h1
 have e1:rows.length - 1 - k=rows.length - (k+1):=by omega
 rw [e1,c8T h1] at hr
 rw [a9n,h2,Option.some.inj hr,show rows.length - (k+1)+1=rows.length - k by omega]
theorem b3Z {W:World} {b:Nat} {us:Array Value} {t:TypeId} {m:Nat×Nat} {i:Nat} (h:W.heap[b]?=some (.cells us t m)):W.cell? ⟨b,i,none⟩=us[i]?:=by
 show (match W.heap[b]? with|some (.cells c _ _)=>c[i]?|_=>none)=_
 rw [h]
theorem b9E (rows:List (List D)) (d0 d1 d2 d3 a0 a1 a2 a3:D):∀qa qb qc qd qe qg qh qi qj qk ql qm qo qp qq qt qu qv qw qx qy qz va vc vd ve vf vg vh vj vk vl vm vn vo vp vq vr vt vu vv vw vx,Ar.mk qa qb qc qd qe qg qh qi qj qk ql qm qo qp qq qt qu qv qw qx qy qz va vc vd ve vf vg vh vj vk vl vm vn vo vp vq vr vt vu vv vw vx=f7→B4 (Ar.mk qa qb qc qd qe qg qh qi qj qk ql qm qo qp qq qt qu qv qw qx qy qz va vc vd ve vf vg vh vj vk vl vm vn vo vp vq vr vt vu vv vw vx) (o5 (o5 (o5 (Try.f127.body.getD .skip)))) ⟨jT rows d0 d1 d2 d3,r9 (jO d0 d1 d2 d3 [.d a0,.d a1,.d a2,.d a3] .dead) (.kl [])⟩
  (fun x s=>c6A Try.f127.results.toList [.ag [a0,a1,a2,a3]] 5 x s):=by
 intro _ _ _ _ _ _ _ _ _ _ _ _ _ _ _ _ _ _ _ _ _ _ _ _ _ _ _ _ _ _ _ _ _ _ _ _ _ _ _ _ _ vw _ hA
 cbv
 repeat ((with_reducible apply f8 hA);cbv)
end
theorem c2j:Try.f127.body=some (.seq (I7 (Try.f127.body.getD .skip)) (.seq (I7 (o5 (Try.f127.body.getD .skip))) (.seq (.seq (I7 (I7 (o5 (o5 (Try.f127.body.getD .skip))))) (.block 0 (.rangeFunc (.tmp 11) #[12,13] (a1s (o5 (I7 (o5 (o5 (Try.f127.body.getD .skip)))))) (a1t (o5 (I7 (o5 (o5 (Try.f127.body.getD .skip))))))))) (o5 (o5 (o5 (Try.f127.body.getD .skip))))))):=by kernel_rfl
theorem c2k:(Try.f127.name != "runtime.NumGoroutine")=true:=by kernel_rfl
theorem c2l:o4 Try.prog (I7 (Try.f127.body.getD .skip))=true:=by kernel_rfl
theorem c2m:o4 Try.prog (I7 (o5 (Try.f127.body.getD .skip)))=true:=by kernel_rfl
theorem c2n:o4 Try.prog (I7 (I7 (o5 (o5 (Try.f127.body.getD .skip)))))=true:=by kernel_rfl
theorem c2o:o4 Try.prog (o5 (o5 (o5 (Try.f127.body.getD .skip))))=true:=by kernel_rfl
theorem c2p:J9 Try.f127.results.toList=true:=by kernel_rfl
theorem c2q:o4 Try.prog (a1s (o5 (I7 (o5 (o5 (Try.f127.body.getD .skip))))))=true:=by kernel_rfl
theorem c2r:o4 Try.prog (a1t (o5 (I7 (o5 (o5 (Try.f127.body.getD .skip))))))=true:=by kernel_rfl
theorem b6O (rows:List (List D)) (d0 d1 d2 d3:D) (hcp:A0 134 [.ag [d0,d1,d2,d3]] [.ag [d0,d1,d2,d3]]) (P:S→Prop) (hP:P ⟨jT rows d0 d1 d2 d3,jO d0 d1 d2 d3 [.d d0,.d d1,.d d2,.d d3] (.box [.d (.sl 5 rows)])⟩) :
  B4 f7 (.seq (I7 (Try.f127.body.getD .skip)) (.seq (I7 (o5 (Try.f127.body.getD .skip))) (I7 (I7 (o5 (o5 (Try.f127.body.getD .skip))))))) (a3X [.one (.sl 5 rows),.ag [d0,d1,d2,d3]] (Try.f127.ntmps - C4 [R.one (.sl 5 rows),.ag [d0,d1,d2,d3]])) (fun x s=>x=.normal∧P s) :=
 b9D rows d0 d1 d2 d3 hcp P hP _ _ _ _ _ _ _ _ _ _ _ _ _ _ _ _ _ _ _ _ _ _ _ _ _ _ _ _ _ _ _ _ _ _ _ _ _ _ _ _ _ _ _ rfl
theorem b9F (rows:List (List D)) (d0 d1 d2 d3:D) (hlen:rows.length * 80≤140737488351232) (htl:A0 134 [.ag [d0,d1,d2,d3]] [.ag [d0,d1,d2,d3]]) (hrows:∀r∈rows,∃nm c0 c1 c2 c3,r=[nm,c0,c1,c2,c3]∧A0 134 [.ag [c0,c1,c2,c3]] [.ag [c0,c1,c2,c3]]) :
  A0 127 [.one (.sl 5 rows),.ag [d0,d1,d2,d3]] [.ag (a5s rows [d0,d1,d2,d3])]:=by
 refine b3X (Pre:=fun s=>s=⟨jT rows d0 d1 d2 d3,jO d0 d1 d2 d3 [.d d0,.d d1,.d d2,.d d3] (.box [.d (.sl 5 rows)])⟩) Try.func127 c2j c2k c2l c2m c2n ?_ ?_
 ·exact b6O rows d0 d1 d2 d3 htl _ rfl
 intro I I' g w W s a hs h
 subst hs
 obtain ⟨b,us,ty,h1,h2,h3,h4⟩:=h.frzBox (k:=4) rfl
 obtain ⟨v,us',rfl,hv,hn⟩:=h3.uncons
 obtain rfl:=hn.unnil
 have hvD:AtD I' W v (.sl 5 rows):=by cases hv with|d h=>exact h
 have hBs:W.cell? ⟨b,0,none⟩=some v:=b3Z h2
 have hbl:b<W.heap.size:=(c9g.1 h2).1
 obtain ⟨bb,off,vs,hl,hup,hds,hr5,hseq⟩:=b6L (fun b k hb=>(h.lt b k hb).1) hvD hbl hBs hlen
 have hcl:a.eval (.tmp 11)=.func (.func 145) #[] #[.pointer (some ⟨b,0,none⟩)]:=by
  have h5:=h4.get (.tmp 11)
  have h5:AtV _ W g (a.eval (.tmp 11)) (.cl 145 [4]):=h5
  generalize a.eval (.tmp 11)=ax at h5 ⊢
  cases h5 with
  | cl f us ks hl hh =>
   match us,hl with
   | [u],_=>rw [(hh 0 u 4 rfl rfl).1,h1]
 have hst0:RelI I (fun _=>False) ⟨w,fun _=>.nilFunc,0,[]⟩ (fun b' n=>I' b' n∨(b'=b∧n≤1)) g ⟨jT rows d0 d1 d2 d3,jO d0 d1 d2 d3 (y5 (a9n rows [d0,d1,d2,d3] 0)) .dead⟩ a W:=by
  have e:a9n rows [d0,d1,d2,d3] 0=[d0,d1,d2,d3]:=by rw [a9n,c9R (by omega)];rfl
  rw [e]
  exact h4
 refine b9C (t:=jT rows d0 d1 d2 d3) (p1:=12) (p2:=13) (gf:=145) (N:=rows.length) (lb:=#[.pointer (some ⟨b,0,none⟩)])
  (u1:=fun k=>.int .i64 ((rows.length - 1 - k:Nat):Int)) (u2:=fun k=>.agg (((vs.drop ((rows.length - 1 - k) * 5)).take 5).toArray)) (Kp:=KpB b bb off (rows.length * 5)) (st:=fun k=>jO d0 d1 d2 d3 (y5 (a9n rows [d0,d1,d2,d3] k)) .dead)
  (tk:=fun k=>E6 (E6 (jT rows d0 d1 d2 d3) 12 (vi .i64 ((rows.length - 1 - k:Nat):Int))) 13 (.ag (y5 (rows.getD (rows.length - 1 - k) []))))
  c2q c2r hst0 (by decide) hcl (enters_of Try.func145 (by kernel_rfl) rfl) (hseq (FW none) 2 trivial rfl (by decide)) KpB.trans (fun W l o o' _ hl ho _=>KpB.turn W l o o' hl ho) ?_ ?_ ?_ ?_
 ·intro W1 W2 hk
  refine ⟨fun v hv=>?_,fun i hi v hv=>?_⟩
  ·rw [hk b 1 (.inr ⟨rfl,c9c _⟩) 0 (by decide)]
   exact hv
  ·obtain ⟨n,hn1,hn2⟩:=hup (fun e=>by rw [e] at hi;simp at hi)
   rw [hk bb n (.inl hn2) (off+i) (by omega)]
   exact hv
 ·intro k W1 I1 g1 hk hI1 hk1 hvs
  have hlt:rows.length - 1 - k<rows.length:=by omega
  have e1:∀(ts:Array Value) (i:Nat) (u:Value),(ts.setIfInBounds i u).toList=ts.toList.set i u:=fun ts i u=>by simp
  rw [e1,e1,a0q,a0q]
  refine (hvs.set (.d (.sc _ rfl)) 12).set (M7 ?_) 13
  refine B0.toV g1 ?_
  have h5:=(hds.drop ((rows.length - 1 - k) * 5)).take 5
  have e2:(rows.flatten.drop ((rows.length - 1 - k) * 5)).take 5=rows.getD (rows.length - 1 - k) []:=by
   have hg:rows[rows.length - 1 - k]?=some (rows.getD (rows.length - 1 - k) []):=by rw [c9k,c8T hlt];rfl
   apply d0j
   intro i
   rw [c91]
   have h6:(rows.getD (rows.length - 1 - k) []).length=5:=hr5 _ (c9h hg)
   split
   ·rename_i hi
    rw [c9x,a00 hr5 hg hi]
   ·rename_i hi
    rw [c9H (by omega)]
  rw [e2] at h5
  exact h5.mono (fun b j hb=>hI1 b j (.inl hb)) (fun b j hb=>hk1 b j (.inl hb))
 ·intro k hk
  have hlt:rows.length - 1 - k<rows.length:=by omega
  have hg:rows[rows.length - 1 - k]?=some (rows.getD (rows.length - 1 - k) []):=by rw [c9k,c8T hlt];rfl
  have ea:=b6N (tl:=[d0,d1,d2,d3]) hk hg
  obtain ⟨nm,c0,c1,c2,c3,er,hsp⟩:=hrows _ (c9h hg)
  obtain ⟨a0,a1,a2,a3,e4⟩:=a8B (rows.drop (rows.length - k)) d0 d1 d2 d3
  have e5:a9n rows [d0,d1,d2,d3] k=[a0,a1,a2,a3]:=e4
  have e6:a9n rows [d0,d1,d2,d3] (k+1)=[.sc (.int .u8 11),nm,.sc (.int .i64 0),.sl 4 [[c0,c1,c2,c3],[a0,a1,a2,a3]]]:=by rw [ea,er];show [_,_,_,D.sl 4 [_,a5s _ _]]=_;rw [e4];rfl
  try dsimp only
  rw [e5,e6,er]
  exact b3Y rows d0 d1 d2 d3 a0 a1 a2 a3 nm c0 c1 c2 c3 _ hsp _ _ _ _ _ _ _ _ _ _ _ _ _ _ _ _ _ _ _ _ _ _ _ _ _ _ _ _ _ _ _ _ _ _ _ _ _ _ _ _ _ _ _ rfl
 ·rintro D W1 hD ⟨I1,g1,q1,q2,q3,q4⟩ hd
  obtain ⟨a0,a1,a2,a3,e4⟩:=a8B rows d0 d1 d2 d3
  have e5:a9n rows [d0,d1,d2,d3] rows.length=[a0,a1,a2,a3]:=by rw [a9n,d0h];exact e4
  rw [e4]
  try dsimp only at q3
  rw [e5] at q3
  have hID:∀k,¬I1 D k:=fun k=>by rw [hD];exact (q2 k).2
  have hD0:w.heap.size≤D:=by rw [hD];exact h.fr.size
  refine b6M c2o c2p q3 hID hD0 hd ?_
  exact b9E rows d0 d1 d2 d3 a0 a1 a2 a3 _ _ _ _ _ _ _ _ _ _ _ _ _ _ _ _ _ _ _ _ _ _ _ _ _ _ _ _ _ _ _ _ _ _ _ _ _ _ _ _ _ _ _ rfl
theorem a8C (tl:Ty):∀fs:List (ByteArray×Ty),a5s (rF fs) (cT tl)=cT (a2i fs tl)
 | []=>rfl
 | f::fs=>by
  rw [a42,cT]
  have ih:=a8C tl fs
  show a5s ((.sc (.string f.1)::cT f.2)::rF fs) (cT tl)=_
  rw [a5s,ih]
  rfl
theorem b9G:∀(m:Nat) (t:Ty),t.parts.length≤m→m≤1048576→(∀x∈t.parts,a1B x)→A0 122 [.ag (cT t)] [.ag (cT (C6 t))]:=by
 intro m
 induction m with
 | zero=>intro t h;have:=G1 t;omega
 | succ m ih =>
  intro t hm hm2 hsp
  have hself:t∈t.parts:=by rw [Y8];exact c8V ..
  have hkl:=Q0 t
  obtain ⟨op,nm,n,ks⟩:=t
  generalize ht:Ty.mk op nm n ks=t at *
  have hc:cT t=[.sc (.int .u8 op),.sc (.string nm),.sc (.int .i64 n),.sl 4 (rT ks)]:=by rw [←ht,cT]
  have hks:t.kids=ks:=by rw [←ht];rfl
  rw [hks] at hkl
  by_cases hop:op=11
  ·have hF:=c4X t (hsp t hself) (by omega)
   have hcr:=a9X (t:=t) (by rw [←ht];exact hop)
   have hfs:∀f∈o8 ltF (A1 t),f.2.parts.length≤m∧B9 f.2:=fun f hf=>by
    have h1:=a0k hf
    have h2:=a1C _ t (c9c _) f h1
    have h3:=a84 _ t (c9c _) f h1
    exact ⟨by omega,fun x hx=>hsp x (a65 hx h3)⟩
   have hih:∀f∈o8 ltF (A1 t),A0 122 [.ag (cT f.2)] [.ag (cT (C6 f.2))]:=fun f hf=>ih f.2 (hfs f hf).1 (by omega) (hfs f hf).2
   have hlen:(o8 ltF (A1 t)).length≤1048576:=by
    rw [a6g]
    have:=a67 _ t (c9c _)
    omega
   have htl:(a0c t).parts.length≤1048576:=by
    have h1:=a66 _ t (c9c _) (hsp t hself)
    omega
   rw [hc] at hF ⊢
   obtain ⟨K0,hK0⟩:∃K,K=rT ks:=⟨_,rfl⟩
   rw [←hK0] at hF ⊢
   generalize o8 ltF (A1 t)=L at *
   have hj:=a8C (a0c t) (L.map cfS)
   rw [show a2i (L.map cfS) (a0c t)=C6 t from hcr.symm] at hj
   have hct:=a0D (a0c t) htl
   have hcf:∀r∈rF (L.map cfS),∃nm c0 c1 c2 c3,r=[nm,c0,c1,c2,c3]∧A0 134 [.ag [c0,c1,c2,c3]] [.ag [c0,c1,c2,c3]]:=fun r hr=>by
    obtain ⟨f,hf,rfl⟩:=d0o.1 hr
    obtain ⟨f0,hf0,rfl⟩:=d0o.1 hf
    have h1:=hfs f0 hf0
    have h2:=a9Z _ f0.2 (c9c _) h1.2
    have h3:=a0D (C6 f0.2) (by omega)
    obtain ⟨c0,c1,c2,c3,hcc⟩:=w8 (C6 f0.2)
    rw [hcc] at h3
    exact ⟨_,c0,c1,c2,c3,by show D.sc _::cT (C6 f0.2)=_;rw [hcc],h3⟩
   obtain ⟨y0,y1,y2,y3,hy⟩:=w8 (C6 t)
   obtain ⟨q0,q1,q2,q3,hq⟩:=w8 (a0c t)
   rw [hq] at hF hct hj
   rw [hy] at hj ⊢
   have hJ:=b9F (rF (L.map cfS)) q0 q1 q2 q3 (by rw [a6f,c9r];omega) hct hcf
   rw [hj] at hJ
   obtain ⟨M0,hM0⟩:∃M,M=rF L:=⟨_,rfl⟩
   rw [←hM0] at hF
   refine sp9 Try.func122 rfl fun qa qb qc qd qe qg qh qi qj qk ql qm qo qp qq qt qu qv qw qx qy qz va vc vd ve vf vg vh vj vk vl vm vn vo vp vq vr vt vu vv vw vx hA=>?_
   cbv;refine gn ?_
   have h11:qk op 11=decide (op=11):=by have e:=m6 hA;exact e.2.2.2.2.2.2.2.2 _ _
   rw [c9j hop] at h11
   rw [h11]
   cbv;refine gn ?_
   refine o6 hA [] hF ⟨rfl,rfl,rfl,rfl,rfl,rfl,rfl⟩ ?_
   rintro res os2 ⟨rfl,rfl⟩
   cbv;refine gn ?_
   obtain ⟨e1,e2,e3,e4,e5,e6,e7,e8,e9⟩:=m6 hA
   obtain ⟨r1,r2,r3,r4⟩:=C7 hA
   obtain ⟨m1,m2,m3,m4⟩:=a0J hA
   refine o7 hA (γ:=Int×List (List D)) (fun x=>[(19,vi .i64 x.1),(12,.jk),(14,.jk)]) (fun x=>[(2,.row false 163 x.2)]) (fun x=>∃k:Nat,x.1=(k:Int)∧k≤L.length∧x.2=rF ((L.take k).map cfS++L.drop k)) (fun x=>L.length - x.1.toNat) (0,M0) ?_ ?_ ?_
   ·exact ⟨0,rfl,c95 _,hM0⟩
   ·cbv
   ·intro x hinv
    obtain ⟨z,M⟩:=x
    cbv;refine gn ?_;try simp only [nc] at *
    obtain ⟨k,hz,hk,hM⟩:=hinv
    have hll:va M0=((L.length:Nat):Int):=by rw [r1,hM0,a6f]
    have hlt:qi z (va M0)=decide (k<L.length):=by rw [e7,hll,hz];exact c9w.2 (by omega)
    by_cases h9:k<L.length
    ·rw [c9j h9] at hlt
     obtain ⟨x,hx⟩:∃x,L[k]?=some x:=⟨_,c8T h9⟩
     have hspx:=hih x (c9h hx)
     have hxe:((L.take k).map cfS++L.drop k)[k]?=some x:=by
      rw [c9b (by simp;omega)]
      simp
      rw [d1j (by omega),d0h,d0g]
      exact hx
     have hset:((L.take k).map cfS++L.drop k).set k (cfS x)=(L.take (k+1)).map cfS++L.drop (k+1):=by
      obtain ⟨hi,e⟩:=c8S.1 hx
      have e0:k - ((L.take k).map cfS).length=0:=by rw [c9r,c92];omega
      rw [d01 _ _ (by rw [c9r,c92];omega),List.take_add_one,hx,c9Y,c90,c98 hi,e0]
      rfl
     obtain ⟨xn,xt⟩:=x
     obtain ⟨x0,x1,x2,x3,hxx⟩:=w8 xt
     obtain ⟨v0,v1,v2,v3,hvv⟩:=w8 (C6 xt)
     simp only at hspx
     rw [hxx,hvv] at hspx
     have gx:vc M z=some [.sc (.string xn),x0,x1,x2,x3]:=by rw [r2,hz,c8Y (by omega),hM,show ((k:Int)).toNat=k by omega,c4N hxe,hxx]
     have hz1:qa .i64 (qb z 1)=((k+1:Nat):Int):=by rw [e1,e2,hz,IntWalk.i64_in _ (by omega)];omega
     have hmu:L.length - (qa .i64 (qb z 1)).toNat<L.length - z.toNat:=by rw [hz1,hz];omega
     have hnew:vf M z [.sc (.string xn),v0,v1,v2,v3]=rF ((L.take (k+1)).map cfS++L.drop (k+1)):=by
      rw [m4,←hset,hM,hz,show ((k:Int)).toNat=k by omega]
      unfold rF
      rw [List.map_set]
      show _=List.set _ k (.sc (.string xn)::cT (C6 xt))
      rw [hvv]
     rw [hlt]
     iterate 2 (try cbv;repeat ((first|with_reducible apply f8 hA|rw [gx]|refine i9 hA _ hspx rfl ?_);cbv))
     try simp (maxSteps:=4000000) only [nc] at *
     refine ⟨(qa .i64 (qb z 1),vf M z [.sc (.string xn),v0,v1,v2,v3]),⟨k+1,hz1,h9,hnew⟩,hmu,?_⟩
     cbv
    ·rw [c9d h9] at hlt
     have hM2:M=rF (L.map cfS):=by rw [hM,c9J (by omega),List.drop_of_length_le (by omega),c9i]
     rw [←hM2] at hJ
     rw [hlt]
     cbv
     refine c4y hA [2] ?_
     cbv
     repeat (first|(with_reducible apply f8 hA;cbv)|(refine i9 hA _ hJ rfl ?_;cbv))
  ·have hcn:=a83 (t:=t) (by rw [←ht];exact hop)
   rw [hks,show t.op=op by rw [←ht];rfl,show t.name=nm by rw [←ht];rfl,show t.n=n by rw [←ht];rfl] at hcn
   have hih:∀x∈ks,A0 122 [.ag (cT x)] [.ag (cT (C6 x))]:=fun x hx=>by
    have h2:=hkl.2 x hx
    exact ih x (by omega) (by omega) fun y hy=>hsp y (by rw [A9,hks];exact c8X _ (c9K.2 ⟨x,hx,hy⟩))
   rw [hcn,cT,hc]
   obtain ⟨K,hK⟩:∃K,K=rT ks:=⟨_,rfl⟩
   obtain ⟨Q,hQ⟩:∃Q,Q=rT (ks.map C6):=⟨_,rfl⟩
   rw [←hK,←hQ]
   refine sp9 Try.func122 rfl fun qa qb qc qd qe qg qh qi qj qk ql qm qo qp qq qt qu qv qw qx qy qz va vc vd ve vf vg vh vj vk vl vm vn vo vp vq vr vt vu vv vw vx hA=>?_
   cbv;refine gn ?_
   obtain ⟨e1,e2,e3,e4,e5,e6,e7,e8,e9⟩:=m6 hA
   obtain ⟨r1,r2,r3,r4⟩:=C7 hA
   have h11:qk op 11=decide (op=11):=e9 _ _
   rw [c9d hop] at h11
   rw [h11]
   cbv
   repeat (first|(refine a3j hA 6 25 true rfl ?_;cbv)|(with_reducible apply f8 hA;cbv))
   refine o7 hA (γ:=Int×List (List D)) (fun x=>[(39,vi .i64 x.1),(6,.own 2)]) (fun x=>[(2,.row true 25 x.2)]) (fun x=>∃k:Nat,x.1=(k:Int)∧k≤ks.length∧x.2=rT ((ks.map C6).take k)) (fun x=>ks.length - x.1.toNat) (0,[]) ?_ ?_ ?_
   ·exact ⟨0,rfl,c95 _,rfl⟩
   ·cbv
   ·intro x hinv
    obtain ⟨z,M⟩:=x
    cbv;refine gn ?_;try simp only [nc] at *
    obtain ⟨k,hz,hk,hM⟩:=hinv
    have hll:va K=((ks.length:Nat):Int):=by rw [r1,hK,a3m]
    have hlt:qi z (va K)=decide (k<ks.length):=by rw [e7,hll,hz];exact c9w.2 (by omega)
    by_cases h9:k<ks.length
    ·rw [c9j h9] at hlt
     obtain ⟨x,hx⟩:∃x,ks[k]?=some x:=⟨_,c8T h9⟩
     have hspx:=hih x (c9h hx)
     have hx2:(ks.map C6)[k]?=some (C6 x):=by rw [c9v,hx];rfl
     have hsn:=b1i hx2
     obtain ⟨x0,x1,x2,x3,hxx⟩:=w8 x
     obtain ⟨v0,v1,v2,v3,hvv⟩:=w8 (C6 x)
     rw [hxx,hvv] at hspx
     rw [hvv] at hsn
     have gx:vc K z=some [x0,x1,x2,x3]:=by rw [r2,hz,c8Y (by omega),hK,show ((k:Int)).toNat=k by omega,b0Y hx,hxx]
     have hz1:qa .i64 (qb z 1)=((k+1:Nat):Int):=by rw [e1,e2,hz,IntWalk.i64_in _ (by omega)];omega
     have hmu:ks.length - (qa .i64 (qb z 1)).toNat<ks.length - z.toNat:=by rw [hz1,hz];omega
     have hnew:ve M [[v0,v1,v2,v3]]=rT ((ks.map C6).take (k+1)):=by rw [r4,hsn,hM]
     have hMl:M.length≤1048576:=by rw [hM,a3m,c92];omega
     rw [hlt]
     iterate 2 (try cbv;repeat ((first|with_reducible apply f8 hA|rw [gx]|refine j5 hA _ hspx ?_|refine i9 hA _ hspx rfl ?_|refine C2 hA true ?_|(refine E2 hA (by simp only [r4,c8U,c9a,c9n];omega) ?_));cbv))
     try simp (maxSteps:=4000000) only [nc] at *
     refine ⟨(qa .i64 (qb z 1),ve M [[v0,v1,v2,v3]]),⟨k+1,hz1,h9,hnew⟩,hmu,?_⟩
     cbv
    ·rw [c9d h9] at hlt
     have hM2:M=Q:=by rw [hM,hQ,c9J (by rw [c9r];omega)]
     rw [hlt]
     cbv;refine gn ?_
     exact ⟨by rw [hM2],trivial⟩
theorem b9H {t:Ty} (h:∀x∈t.parts,∀y∈t.parts,a6e x y=false):a63 t=true:=by
 unfold a63
 rw [c9s]
 intro x hx
 rw [c9s]
 intro y hy
 rw [h x hx y hy];rfl
def vbl (t:Ty):Option (Int×Bool):=if t.op=7 then some (t.n,false) else if t.op=10 then some (t.n,true) else none
def b1j {α:Type} (s:Int→Option α) (n:Int) (r:α):Int→Option α:=fun x=>if x=n then some r else s x
def G6:List Ty→(Int→Option Bool)→Option (Int→Option Bool)
 | [],s=>some s
 | t::ts,s=>match vbl t with
  | none=>G6 ts s
  | some p=>if s p.1=some (!p.2) then none else G6 ts (b1j s p.1 p.2)
theorem a3t:∀(a b:List Ty) (s:Int→Option Bool),G6 (a++b) s=(G6 a s).bind (G6 b)
 | [],b,s=>rfl
 | t::ts,b,s=>by
  rw [c9G,G6,G6]
  cases vbl t with
  | none=>exact a3t ts b s
  | some p =>
   simp only
   split
   ·rfl
   ·exact a3t ts b _
theorem b1k:∀(ts:List Ty) (s:Int→Option Bool),(G6 ts s).isSome=true↔(∀x∈ts,∀p,vbl x=some p→s p.1≠some (!p.2))∧∀x∈ts,∀y∈ts,∀p q,vbl x=some p→vbl y=some q→p.1=q.1→p.2=q.2
 | [],s=>by simp [G6]
 | t::ts,s=>by
  rw [G6]
  cases hv:vbl t with
  | none =>
   simp only
   rw [b1k ts s]
   constructor
   ·rintro ⟨h1,h2⟩
    refine ⟨fun x hx p hp=>?_,fun x hx y hy p q hp hq e=>?_⟩
    ·rcases c9e.1 hx with rfl|hx
     ·rw [hv] at hp;cases hp
     ·exact h1 x hx p hp
    ·rcases c9e.1 hx with rfl|hx
     ·rw [hv] at hp;cases hp
     ·rcases c9e.1 hy with rfl|hy
      ·rw [hv] at hq;cases hq
      ·exact h2 x hx y hy p q hp hq e
   ·rintro ⟨h1,h2⟩
    exact ⟨fun x hx=>h1 x (c8X _ hx),fun x hx y hy=>h2 x (c8X _ hx) y (c8X _ hy)⟩
  | some p =>
   obtain ⟨n,r⟩:=p
   simp only
   by_cases hs:s n=some (!r)
   ·rw [c8Y hs]
    constructor
    ·intro h;cases h
    ·rintro ⟨h1,_⟩
     exact absurd hs (h1 t (c8V ..) _ hv)
   ·rw [c8W hs,b1k ts]
    constructor
    ·rintro ⟨h1,h2⟩
     have h3:∀x∈ts,∀p,vbl x=some p→p.1=n→p.2=r:=fun x hx p hp e=>by
      have:=h1 x hx p hp
      unfold b1j at this
      rw [c8Y e] at this
      cases r <;> cases hp2:p.2 <;> simp_all
     refine ⟨fun x hx p hp=>?_,fun x hx y hy p q hp hq e=>?_⟩
     ·rcases c9e.1 hx with rfl|hx
      ·rw [hv] at hp
       cases hp
       exact hs
      ·by_cases e:p.1=n
       ·rw [h3 x hx p hp e,e];exact hs
       ·have:=h1 x hx p hp
        unfold b1j at this
        rw [c8W e] at this
        exact this
     ·rcases c9e.1 hx with rfl|hx
      ·rw [hv] at hp
       cases hp
       rcases c9e.1 hy with rfl|hy
       ·rw [hv] at hq
        cases hq
        rfl
       ·exact (h3 y hy q hq e.symm).symm
      ·rcases c9e.1 hy with rfl|hy
       ·rw [hv] at hq
        cases hq
        exact h3 x (by assumption) p hp e
       ·exact h2 x (by assumption) y hy p q hp hq e
    ·rintro ⟨h1,h2⟩
     refine ⟨fun x hx p hp=>?_,fun x hx y hy=>h2 x (c8X _ hx) y (c8X _ hy)⟩
     unfold b1j
     by_cases e:p.1=n
     ·rw [c8Y e,←h2 t (c8V ..) x (c8X _ hx) (n,r) p hv hp e.symm]
      cases r <;> simp
     ·rw [c8W e]
      exact h1 x (c8X _ hx) p hp
theorem b6P (t:Ty):(G6 t.parts fun _=>none).isSome=a63 t:=by
 rw [d09,b1k]
 constructor
 ·rintro ⟨_,h⟩
  refine b9H fun x hx y hy=>?_
  cases hc:a6e x y with
  | false=>rfl
  | true =>
   unfold a6e at hc
   simp only [c8Z,d0c] at hc
   have:=h x hx y hy (x.n,false) (y.n,true) (by unfold vbl;rw [c8Y hc.1]) (by unfold vbl;rw [c8W (by rw [hc.2.1];decide),c8Y hc.2.1]) hc.2.2
   cases this
 ·intro h
  refine ⟨by simp,fun x hx y hy p q hp hq e=>?_⟩
  unfold a63 at h
  rw [c9s] at h
  have hxy:=h x hx
  have hyx:=h y hy
  rw [c9s] at hxy hyx
  have h1:=hxy y hy
  have h2:=hyx x hx
  unfold a6e at h1 h2
  unfold vbl at hp hq
  split at hp
  ·rename_i ex
   cases hp
   split at hq
   ·cases hq;rfl
   ·split at hq
    ·rename_i ey
     cases hq
     simp only at e
     simp [ex,ey,e] at h1
    ·cases hq
  ·split at hp
   ·rename_i ex
    cases hp
    split at hq
    ·rename_i ey
     cases hq
     simp only at e
     simp [ex,ey,e] at h2
    ·split at hq
     ·cases hq;rfl
     ·cases hq
   ·cases hp


end Go.Proofs.Ytahpnackkmbmgaa.Vm
end

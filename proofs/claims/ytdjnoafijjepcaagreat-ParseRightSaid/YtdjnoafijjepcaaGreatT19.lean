/- Part 19 of the proof. Conditions: none. -/
import Derived.Test.YtdjnoafijjepcaaGreatT4
import Derived.Test.YtdjnoafijjepcaaGreatT18
import Derived.Test.YtdjnoafijjepcaaGreatT0
set_option linter.all false
set_option linter.unusedVariables false
set_option linter.unusedSimpArgs false
section
namespace Go.Proofs.YtdjnoafijjepcaaGreat.Vm
open Go.RowKit
set_option maxRecDepth 100000
set_option maxHeartbeats 4000000
theorem c3T (t:Tm) (hN:(m7 t).length<=1048576) (hS:∀x∈m7 t,SmT x) (h:rtM GA false t=true):o8 6 [.ag (cM t)] [.one (.sc (.bool true))]:=by
 have h0:=c3S t hN hS false h;obtain⟨d0,d1,d2,d3,d4,d5,d6,d7,d8,d9,hd⟩:=a3e t;rw[hd] at h0 ⊢;refine Q5 Tryz.func6 rfl ?_;intros;rename_i hA;cbv;exact fr
def a7c (l:List UInt8) (c:Int):Bool:=l.any λx=>(x.toNat:Int) == c
theorem d1X (s:ByteArray) (c:Int) (hs:s.size<=1048576):o8 39 [.one (.sc (.string s)),.one (.sc (.int .u8 c))] [.one (.sc (.bool (a7c (btl s) c)))]:=by
 generalize hb:a7c (btl s) c=b;obtain⟨inv,hv⟩:∃inv:Int->Prop,inv=λz=>∃k:Nat,z=(k:Int)/\k<=s.size/\a7c ((btl s).drop k) c=b:=⟨_,rfl⟩
 have hi0:inv 0:=by rw[hv];exact⟨0,rfl,d4o _,hb⟩
 refine Q5 Tryz.func39 rfl ?_;intro qa qb _ _ _ _ _ qi _ qk _ _ _ _ _ _ qu qv;intros;rename_i hA;obtain⟨e1,e2,e3,e4,e5,e6,e7,e8,e9⟩:=m6 hA;obtain⟨s1,s2,s3,s4,s5,s6,-⟩:=G1 hA;replace s5:qu s=((s.size:Nat):Int):=s5 s;cbv;refine gn ?_;refine n9 hA (γ:=Int) (λz=>[(5,vi .i64 z)]) (λ_=>[]) inv (λz=>s.size - z.toNat) 0 hi0 ?_ ?_
 ·cbv
 ·intro z hinv;cbv;refine gn ?_;try simp only[nc] at *
  rw[hv] at hinv;obtain⟨k,hz,hk,hE⟩:=hinv;have hlt:qi z (qu s)=decide (k<s.size):=by rw[e7,s5,hz];exact d3X.2 (by omega)
  by_cases h9:k<s.size
  ·rw[d3S h9] at hlt;obtain⟨x,hx⟩:∃x,(btl s)[k]?=some x:=⟨_,d3H (by rw[P3];exact h9)⟩;have g1:qv s z=some (x.toNat:Int):=by rw[s6,hz];exact a5b hx
   have hdr:a7c ((btl s).drop k) c=(((x.toNat:Int) == c) || a7c ((btl s).drop (k+1)) c):=by
    obtain⟨hi,e⟩:=d3J.1 hx;rw[d4c hi,e];rfl
   rw[hdr] at hE;have u1:qa .i64 (qb z 1)=((k+1:Nat):Int):=by rw[e1,e2,hz,IntWalk.i64_in _ (by omega)];omega
   have hm:s.size - ((k+1:Nat):Int).toNat<s.size - z.toNat:=by rw[hz];omega
   have hi:a7c ((btl s).drop (k+1)) c=b->inv ((k+1:Nat):Int):=λe=>by
    rw[hv];exact⟨k+1,rfl,h9,e⟩
   have q0:qk (x.toNat:Int) c=((x.toNat:Int) == c):=e9 _ _;generalize ((k+1:Nat):Int)=z1 at *;generalize (x.toNat:Int)=y at *;generalize (y == c)=q at *;generalize a7c ((btl s).drop (k+1)) c=r at *;clear hdr hv;rw[hlt];cases q
   ·try cbv;refine gr ?_;try simp only[nc] at *
    refine⟨z1,hi hE,hm,?_⟩;cbv
   ·have hE:b=true:=hE.symm;rw[hE]
    try cbv;exact fr
  ·rw[d3P h9] at hlt
   have hE:b=false:=by
    rw[<-hE,d5w (by rw[P3];omega)];rfl
   rw[hlt,hE]
   try cbv;exact fr
def c3U:List ByteArray:=[⟨#[110]⟩,⟨#[105]⟩,⟨#[98]⟩,⟨#[97,116,101]⟩,⟨#[110,97,116,101]⟩,⟨#[101,101]⟩,⟨#[110,101,101]⟩,⟨#[101,101,101]⟩,⟨#[111,101,101]⟩,⟨#[46]⟩,⟨#[110,101,101]⟩,⟨#[110,101]⟩,⟨#[110,101]⟩,⟨#[110,101,101]⟩,⟨#[110,101]⟩,⟨#[110,101]⟩,⟨#[99]⟩,⟨#[110,97,101]⟩,⟨#[97,101]⟩,⟨#[84,101]⟩]
theorem c0q (op:Int) (k:Nat) (s:ByteArray) (ho:op=32+(k:Int)) (hk:c3U[k]?=some s):o8 18 [.one (.sc (.int .u8 op))] [.one (.sc (.string s))]:=by
 have hlt:k<20:=by obtain⟨h,_⟩:=d3J.1 hk;exact h
 obtain⟨L,hL⟩:∃L,L=rS c3U:=⟨_,rfl⟩;have hget:L[k]?=some [.sc (.string s)]:=by rw[hL];exact c1Y hk
 have hlen:L.length=20:=by rw[hL];rfl
 have hL:L=[[.sc (.string ⟨#[110]⟩)],[.sc (.string ⟨#[105]⟩)],[.sc (.string ⟨#[98]⟩)],[.sc (.string ⟨#[97,116,101]⟩)],[.sc (.string ⟨#[110,97,116,101]⟩)],[.sc (.string ⟨#[101,101]⟩)],[.sc (.string ⟨#[110,101,101]⟩)],[.sc (.string ⟨#[101,101,101]⟩)],[.sc (.string ⟨#[111,101,101]⟩)],[.sc (.string ⟨#[46]⟩)],[.sc (.string ⟨#[110,101,101]⟩)],[.sc (.string ⟨#[110,101]⟩)],[.sc (.string ⟨#[110,101]⟩)],[.sc (.string ⟨#[110,101,101]⟩)],[.sc (.string ⟨#[110,101]⟩)],[.sc (.string ⟨#[110,101]⟩)],[.sc (.string ⟨#[99]⟩)],[.sc (.string ⟨#[110,97,101]⟩)],[.sc (.string ⟨#[97,101]⟩)],[.sc (.string ⟨#[84,101]⟩)]]:=hL;refine Q5 Tryz.func18 rfl ?_;intro qa qb qc _ _ _ _ qi qj _ _ _ _ _ _ _ _ _ _ _ _ _ va vc;intros;rename_i hA;obtain⟨e1,e2,e3,e4,e5,e6,e7,e8,e9⟩:=m6 hA;obtain⟨r1,r2,r3,r4⟩:=B3 hA;have q0:qi op 32=false:=by rw[e7,ho];exact d3P (by omega)
 have q1:va L=20:=by rw[r1,hlen];rfl
 have q2:qa .i64 (qb 32 20)=52:=by rw[e1,e2];rfl
 have q3:qa .i64 op=op:=by rw[e1,ho,IntWalk.i64_in _ (by omega)]
 have q4:qj 52 op=false:=by rw[e8,ho];exact d3P (by omega)
 have q5:vc L (qa .u8 (qc op 32))=some [.sc (.string s)]:=by
  rw[r2,e1,e3,ho]
  have e:IntKind.u8.wrap (32+(k:Int) - 32)=(k:Int):=by
   rw[show 32+(k:Int) - 32=(k:Int) by omega];unfold IntKind.wrap
   simp[IntKind.bits,IntKind.signed]
   omega
  rw[e,d3I (by omega),show ((k:Int)).toNat=k by omega,hget]
 cbv
 repeat ((first|with_reducible apply j6 hA|refine E2 hA true ?_);cbv)
 rw[<-hL];cbv;exact fr
def b8I (a:Ar) (all:List Oper) (i:Nat) (s:S) (dst:Option Nat) (K:S->Prop):Op->Prop
 | .call ⟨.value x,args,ts⟩=>match a4g true s x args.toList with
  | none=>match a4g false s x args.toList with
   | none=>H6 a false s dst K (.call ⟨.value x,args,ts⟩)
   | some _=>U5 a all i s dst K (.call ⟨.value x,args,ts⟩)
  | some _=>U5 a all i s dst K (.call ⟨.value x,args,ts⟩)
 | op=>U5 a all i s dst K op
theorem b5s (a:Ar) (all:List Oper) (i:Nat) (s:S) (dst:Option Nat) (K:S->Prop) (op:Op):b8I a all i s dst K op=U5 a all i s dst K op:=by
 unfold b8I
 split
 ·rename_i x args ts
  split
  ·rename_i h1
   split
   ·rename_i h2;show _=U5 a all i s dst K (.call ⟨.value x,args,ts⟩);unfold U5
    have h3:a4g (a8g all i) s x args.toList=none:=by
     cases a8g all i
     ·exact h2
     ·exact h1
    try dsimp only
    rw[h3]
   ·rfl
  ·rfl
 ·rfl
def c3V (a:Ar) (dsts:List (Option Nat)) (all:List Oper) (i:Nat):Oper->S->(S->Prop)->Prop
 | ⟨dst,op,_,_,_,none⟩,s,K=>b8I a all i s dst K op
 | ⟨dst,op,_,_,_,some (j,b)⟩,s,K=>guard s dsts j fun
  | some c=>match bEq c b with
   | true=>b8I a all i s dst K op
   | false=>K (s.put dst vun)
  | none=>K (s.put dst vun)
theorem c3W (a:Ar) (dsts:List (Option Nat)) (all:List Oper) (i:Nat) (o:Oper) (s:S) (K:S->Prop):c3V a dsts all i o s K=a0y a dsts all i o s K:=by
 obtain⟨dst,op,x,y,z,g⟩:=o;cases g with
 | none=>exact b5s ..
 | some jb =>
  obtain⟨j,b⟩:=jb;simp only[c3V,a0y,b5s];refine congrArg (Vm.guard s dsts j) (funext λc=>?_);cases c with
  | none=>rfl
  | some c =>
   try dsimp only
   cases bEq c b <;> rfl
def c6K (a:Ar) (dsts:List (Option Nat)) (all:List Oper):Nat->List Oper->S->(S->Prop)->Prop
 | _,[],s,K=>K s
 | i,o::l,s,K=>c3V a dsts all i o s (λs=>c6K a dsts all (i+1) l s K)
theorem b8J (a:Ar) (dsts:List (Option Nat)) (all:List Oper):∀(l:List Oper) (i:Nat) (s:S) (K:S->Prop),c6K a dsts all i l s K=b5O a dsts all i l s K
 | [],_,_,_=>rfl
 | o::l,i,s,K=>by
  rw[c6K,b5O,c3W]
  congr 1
  funext s
  exact b8J a dsts all l (i+1) s K
theorem d1Y {a:Ar} {id:Nat} {ops:Array Oper} {d1 d2:Code} {s:S} {K:X->S->Prop} (h1:c0V s.o=false) (h2:c18 ops.toList=false) (h3:b1y (a0o ops.toList) s.t=true) (h:c6K a (v6 ops.toList) ops.toList 0 ops.toList s (λs=>a.next (λs=>E9 a d1 s (λx s=>c0X (λs=>a.next (λs=>E9 a d2 s K) s) K x s)) s)):E9 a (.seq (.seq (.region id ops true) d1) d2) s K:=by
 rw[E9,E9,E9];rw[h1,h2,h3];rw[b8J] at h;exact h
theorem frq {P:Prop} (h:P:=by
  iterate 2 (try cbv;repeat ((first|(with_reducible apply j6 hA;refine d1Y rfl rfl rfl ?_)|with_reducible apply j6 hA|rw[q0]|rw[q1]|rw[q2]|rw[q3]|rw[q4]|rw[q5]|rw[q6]|rw[q7]|rw[q8]|rw[p0]|rw[p1]|rw[p2]|rw[p3]|refine j8 hA _ k0 rfl ?_|refine l9 hA _ k0 ?_|refine j8 hA _ k1 rfl ?_|refine l9 hA _ k1 ?_|refine j8 hA _ k2 rfl ?_|refine l9 hA _ k2 ?_|refine j8 hA _ k3 rfl ?_|refine l9 hA _ k3 ?_|refine j8 hA _ k4 rfl ?_|refine l9 hA _ k4 ?_|refine j8 hA _ k5 rfl ?_|refine l9 hA _ k5 ?_|refine j8 hA _ k6 rfl ?_|refine l9 hA _ k6 ?_|refine j8 hA _ k7 rfl ?_|refine l9 hA _ k7 ?_|refine j8 hA _ k8 rfl ?_|refine l9 hA _ k8 ?_|refine j8 hA _ k9 rfl ?_|refine l9 hA _ k9 ?_|refine j8 hA _ c0 rfl ?_|refine l9 hA _ c0 ?_|refine j8 hA _ c1 rfl ?_|refine l9 hA _ c1 ?_);cbv))):P:=h
end Go.Proofs.YtdjnoafijjepcaaGreat.Vm
end

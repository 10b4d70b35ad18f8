/- Part 11 of the proof. Conditions: none. -/
import Derived.Test.YtdjnoafijjepcaaGreatT4
import Derived.Test.YtdjnoafijjepcaaGreatT10
import Derived.Test.YtdjnoafijjepcaaGreatT0
set_option linter.all false
set_option linter.unusedVariables false
set_option linter.unusedSimpArgs false
section
namespace Go.Proofs.YtdjnoafijjepcaaGreat.Vm
open Go.RowKit
set_option maxRecDepth 100000
set_option maxHeartbeats 4000000
def a1v (op:Int):ByteArray:=if op=4 then ⟨#[116,116]⟩ else if op=5\/op=6 then ⟨#[114]⟩ else if op=11 then ⟨#[116,114]⟩ else ⟨#[]⟩
theorem c8Y:o8 83 [.one (.sc (.int .u8 1))] [.one (.sc (.string ⟨#[]⟩)),.one (.sc (.bool true))]:=by
 refine Q5 Tryz.func83 rfl ?_;intros;rename_i hA;have q0:=(m6 hA).2.2.2.2.2.2.2.2;cbv;exact fr
theorem c8Z:o8 83 [.one (.sc (.int .u8 2))] [.one (.sc (.string ⟨#[]⟩)),.one (.sc (.bool true))]:=by
 refine Q5 Tryz.func83 rfl ?_;intros;rename_i hA;have q0:=(m6 hA).2.2.2.2.2.2.2.2;cbv;exact fr
theorem c9a:o8 83 [.one (.sc (.int .u8 3))] [.one (.sc (.string ⟨#[]⟩)),.one (.sc (.bool true))]:=by
 refine Q5 Tryz.func83 rfl ?_;intros;rename_i hA;have q0:=(m6 hA).2.2.2.2.2.2.2.2;cbv;exact fr
theorem c9b:o8 83 [.one (.sc (.int .u8 4))] [.one (.sc (.string ⟨#[116,116]⟩)),.one (.sc (.bool true))]:=by
 refine Q5 Tryz.func83 rfl ?_;intros;rename_i hA;have q0:=(m6 hA).2.2.2.2.2.2.2.2;cbv;exact fr
theorem c9c:o8 83 [.one (.sc (.int .u8 5))] [.one (.sc (.string ⟨#[114]⟩)),.one (.sc (.bool true))]:=by
 refine Q5 Tryz.func83 rfl ?_;intros;rename_i hA;have q0:=(m6 hA).2.2.2.2.2.2.2.2;cbv;exact fr
theorem c9d:o8 83 [.one (.sc (.int .u8 6))] [.one (.sc (.string ⟨#[114]⟩)),.one (.sc (.bool true))]:=by
 refine Q5 Tryz.func83 rfl ?_;intros;rename_i hA;have q0:=(m6 hA).2.2.2.2.2.2.2.2;cbv;exact fr
theorem c9e:o8 83 [.one (.sc (.int .u8 7))] [.one (.sc (.string ⟨#[]⟩)),.one (.sc (.bool true))]:=by
 refine Q5 Tryz.func83 rfl ?_;intros;rename_i hA;have q0:=(m6 hA).2.2.2.2.2.2.2.2;cbv;exact fr
theorem c9f:o8 83 [.one (.sc (.int .u8 8))] [.one (.sc (.string ⟨#[]⟩)),.one (.sc (.bool true))]:=by
 refine Q5 Tryz.func83 rfl ?_;intros;rename_i hA;have q0:=(m6 hA).2.2.2.2.2.2.2.2;cbv;exact fr
theorem c9g:o8 83 [.one (.sc (.int .u8 9))] [.one (.sc (.string ⟨#[]⟩)),.one (.sc (.bool true))]:=by
 refine Q5 Tryz.func83 rfl ?_;intros;rename_i hA;have q0:=(m6 hA).2.2.2.2.2.2.2.2;cbv;exact fr
theorem c5W:o8 83 [.one (.sc (.int .u8 10))] [.one (.sc (.string ⟨#[]⟩)),.one (.sc (.bool true))]:=by
 refine Q5 Tryz.func83 rfl ?_;intros;rename_i hA;have q0:=(m6 hA).2.2.2.2.2.2.2.2;cbv;exact fr
theorem c5X:o8 83 [.one (.sc (.int .u8 11))] [.one (.sc (.string ⟨#[116,114]⟩)),.one (.sc (.bool true))]:=by
 refine Q5 Tryz.func83 rfl ?_;intros;rename_i hA;have q0:=(m6 hA).2.2.2.2.2.2.2.2;cbv;exact fr
theorem c5Y (op:Int) (h1:op≠1) (h2:op≠2) (h3:op≠3) (h4:op≠4) (h5:op≠5) (h6:op≠6) (h7:op≠7) (h8:op≠8) (h9:op≠9) (h10:op≠10) (h11:op≠11):o8 83 [.one (.sc (.int .u8 op))] [.one (.sc (.string ⟨#[]⟩)),.one (.sc (.bool false))]:=by
 refine Q5 Tryz.func83 rfl ?_;intro _ _ _ _ _ _ _ _ _ qk;intros;rename_i hA;cbv
 repeat ((with_reducible apply j6 hA);cbv)
 obtain⟨e1,e2,e3,e4,e5,e6,e7,e8,e9⟩:=m6 hA;have k:∀n,op≠n->qk op n=false:=λn hn=>by rw[e9];exact d4x.2 hn
 rw[k 1 h1];cbv;refine gn ?_;rw[k 2 h2];cbv;refine gn ?_;rw[k 3 h3];cbv;refine gn ?_;rw[k 7 h7];cbv;refine gn ?_;rw[k 8 h8];cbv;refine gn ?_;rw[k 9 h9];cbv;refine gn ?_;rw[k 10 h10];cbv;refine gn ?_;rw[k 4 h4];cbv;refine gn ?_;rw[k 5 h5];cbv;refine gn ?_;rw[k 6 h6];cbv;refine gn ?_;rw[k 11 h11];cbv
 repeat ((with_reducible apply j6 hA);cbv)
theorem c9h (op:Int):o8 83 [.one (.sc (.int .u8 op))] [.one (.sc (.string (a1v op))),.one (.sc (.bool (I9 op).isSome))]:=by
 by_cases h1:op=1
 ·subst h1;exact c8Y
 by_cases h2:op=2
 ·subst h2;exact c8Z
 by_cases h3:op=3
 ·subst h3;exact c9a
 by_cases h4:op=4
 ·subst h4;exact c9b
 by_cases h5:op=5
 ·subst h5;exact c9c
 by_cases h6:op=6
 ·subst h6;exact c9d
 by_cases h7:op=7
 ·subst h7;exact c9e
 by_cases h8:op=8
 ·subst h8;exact c9f
 by_cases h9:op=9
 ·subst h9;exact c9g
 by_cases h10:op=10
 ·subst h10;exact c5W
 by_cases h11:op=11
 ·subst h11;exact c5X
 have e1:a1v op=⟨#[]⟩:=by unfold a1v;simp[h4,h5,h6,h11]
 have e2:(I9 op).isSome=false:=by unfold I9;simp[h1,h2,h3,h4,h5,h6,h7,h8,h9,h10,h11]
 rw[e1,e2];exact c5Y op h1 h2 h3 h4 h5 h6 h7 h8 h9 h10 h11
theorem a7M {op:Int} {kk:List Int} (h:I9 op=some kk):kk=(btl (a1v op)).map λc=>(c.toNat:Int):=by
 unfold I9 at h
 repeat' split at h
 all_goals first|(cases h;done)|skip
 all_goals
  cases h;rename_i h
  rcases h with h
  first
  | (rcases h with h|h|h|h|h|h|h <;> subst h <;> rfl)
  | (rcases h with h|h <;> subst h <;> rfl)
  | (subst h;rfl)
def hdF (ok a8 e114 hl e11 w em nlt e7 e10 n0:Bool):Bool:=ok && ((a8 == e114) && (hl && ((match e11 with|true=>w|false=>em) && (!nlt && (e7 || (e10 || n0))))))
theorem b8o (op:Int) (nm:ByteArray) (n:Int) (ks:List Ty) (s:Int):a6I A3 (.mk op nm n ks) s=hdF (I9 op).isSome (decide (8<=op)) (s == 114) (decide (ks.length=(a1v op).size)) (op == 11) (A3 nm) (decide (nm.toList=[])) (decide (n<0)) (op == 7) (op == 10) (n == 0):=by
 show (match I9 op with|none=>false|some k=>(decide (8<=op) == (s == 114)) && (decide (ks.length=k.length) && ((if op=11 then A3 nm else decide (nm.toList=[])) && (decide (0<=n) && (decide (op=7\/op=10) || decide (n=0))))))=_;unfold hdF;cases h:I9 op with
 | none=>rfl
 | some kk =>
  show ((decide (8<=op) == (s == 114)) && (decide (ks.length=kk.length) && ((if op=11 then A3 nm else decide (nm.toList=[])) && (decide (0<=n) && (decide (op=7\/op=10) || decide (n=0))))))=_;have hk:=a7M h;have hl:kk.length=(a1v op).size:=by rw[hk,d4g,P3]
  rw[hl]
  have e11:(if op=11 then A3 nm else decide (nm.toList=[]))=(match op == 11 with|true=>A3 nm|false=>decide (nm.toList=[])):=by
   by_cases h:op=11
   ·subst h;rfl
   ·rw[d3G h,d4x.2 h]
  have en:decide (0<=n)=!decide (n<0):=by by_cases h:n<0 <;> simp[h] <;> omega
  have eo:decide (op=7\/op=10)=((op == 7) || (op == 10)):=by by_cases h:op=7 <;> by_cases h':op=10 <;> simp[h,h']
  have e0:decide (n=0)=(n == 0):=by by_cases h:n=0 <;> simp[h]
  rw[e11,en,eo,e0];simp only[Option.isSome_some,d59,Bool.or_assoc]
theorem c5Z:∀(t:Ty) (s:Int),t.parts.length<=1048576->(∀x∈t.parts,x.name.size<=1048576)->o8 63 [.ag (cT t),.one (.sc (.int .u8 s))] [.one (.sc (.bool (B6 A3 t s)))]:=by
 intro t
 induction t using Ty.ind with
 | h t ih =>
  intro s hN hnm;have hkl:=J7 t;have hself:=hnm t (by rw[J4];exact d3L ..);have hkn:∀x∈t.kids,∀y∈x.parts,y.name.size<=1048576:=λx hx y hy=>hnm y (by rw[B5];exact d3M _ (d40.2 ⟨x,hx,hy⟩))
  obtain⟨op,nm,n,ks⟩:=t;simp only[Ty.kids] at hkl ih hkn;have hself:nm.size<=1048576:=hself;have hb:=a6J A3 (.mk op nm n ks) s;rw[b8o] at hb;simp only[Ty.kids,Ty.op] at hb;generalize B6 A3 (.mk op nm n ks) s=b at hb ⊢;replace hb:=hb.symm;have hK2:=c9h op;have hW:=a4K nm (by omega);have hks:∀kk,I9 op=some kk->(I9 op).getD []=(btl (a1v op)).map λc=>(c.toNat:Int):=λkk h=>by rw[<-a7M h,h];rfl
  have hsome:(I9 op).isSome=true->(I9 op).getD []=(btl (a1v op)).map λc=>(c.toNat:Int):=λh=>by
   cases h':I9 op with
   | none=>rw[h'] at h;cases h
   | some kk=>rw[<-h'];exact hks kk h'
  generalize (I9 op).getD []=kk at *;generalize (I9 op).isSome=ok at *
  have htx:(a1v op).size<=2:=by
   unfold a1v
   repeat' split
   all_goals decide
  generalize a1v op=tx at *;rw[cT];obtain⟨K,hK⟩:∃K,K=rT ks:=⟨_,rfl⟩;rw[<-hK];refine Q5 Tryz.func63 rfl ?_;intro qa qb _ _ _ _ _ qi qj qk _ qm _ qp _ _ qu qv _ _ _ _ va vc;intros;rename_i hA;cbv;refine gn ?_;obtain⟨e1,e2,e3,e4,e5,e6,e7,e8,e9⟩:=m6 hA;obtain⟨s1,s2,s3,s4,s5,s6,-⟩:=G1 hA;obtain⟨r1,r2,-⟩:=B3 hA;have h8:qj 8 op=decide (8<=op):=e8 _ _;have h114:qk s 114=(s == 114):=e9 _ _
  have hl:qk (va K) (qu tx)=decide (ks.length=tx.size):=by
   rw[e9,r1,s5,hK,M4]
   by_cases h:ks.length=tx.size
   ·rw[h];simp
   ·rw[d3P h];exact d4x.2 (by omega)
  have h11:qk op 11=(op == 11):=e9 _ _
  have hem:qm (qp nm) (qp ⟨⟨[]⟩⟩)=decide (nm.toList=[]):=by
   rw[s1,s3,s3,a3Q ⟨⟨[]⟩⟩,show btl ⟨⟨[]⟩⟩=[] from rfl];cases nm.toList <;> rfl
  have hnl:qi n 0=decide (n<0):=e7 _ _;have h7:qk op 7=(op == 7):=e9 _ _;have h10:qk op 10=(op == 10):=e9 _ _;have hn0:qk n 0=(n == 0):=e9 _ _;generalize decide (8<=op)=b8 at *;generalize (s == 114)=b114 at *;generalize hbl:decide (ks.length=tx.size)=bl at *;generalize (op == 11)=b11 at *;generalize A3 nm=bw at *;generalize decide (nm.toList=[])=bem at *;generalize decide (n<0)=bnl at *;generalize (op == 7)=b7 at *;generalize (op == 10)=b10 at *;generalize (n == 0)=bn0 at *;refine j8 hA _ hK2 ?_ ?_
  ·rfl
  cases ok
  ·cbv;refine gn ?_;exact L3 hb
  cbv;refine gn ?_;rw[h8,h114];unfold hdF at hb;cases b8 <;> cases b114
  all_goals
   cbv;refine gn ?_
   first
   | (exact L3 hb;done)
   | skip
  all_goals rw[hl]
  all_goals cases bl
  all_goals
   cbv;refine gn ?_
   first
   | (exact L3 hb;done)
   | skip
  all_goals rw[h11]
  all_goals cases b11
  all_goals
   cbv;refine gn ?_
   try (rw[h11];cbv)
   repeat ((with_reducible apply j6 hA);cbv)
  all_goals first|(rw[hem];cases bem)|(refine j8 hA _ hW ?_ ?_;rfl;cases bw)
  all_goals
   cbv;refine gn ?_
   try (rw[h11];cbv)
   repeat ((with_reducible apply j6 hA);cbv)
   first
   | (exact L3 hb;done)
   | skip
  all_goals first|(rw[hnl];cases bnl)|skip
  all_goals
   cbv;refine gn ?_
   first
   | (exact L3 hb;done)
   | skip
  all_goals first|(rw[h7];cases b7)|skip
  all_goals
   cbv;refine gn ?_
   first
   | (exact L3 hb;done)
   | skip
  all_goals first|(rw[h10];cases b10)|skip
  all_goals
   cbv;refine gn ?_
   first
   | (exact L3 hb;done)
   | skip
  all_goals first|(rw[hn0];cases bn0)|skip
  all_goals
   cbv;refine gn ?_
   first
   | (exact L3 hb;done)
   | skip
  all_goals
   have hb2:C5 A3 ks kk=b:=hb;have hlen:ks.length=tx.size:=d4u hbl;have hkk:=hsome rfl;refine n9 hA (γ:=Int) (λz=>[(7,vi .i64 z),(8,.jk),(11,.jk)]) (λ_=>[]) (λz=>∃k:Nat,z=(k:Int)/\k<=tx.size/\C5 A3 (ks.drop k) (kk.drop k)=b) (λz=>tx.size - z.toNat) 0 ?_ ?_ ?_
   ·exact⟨0,rfl,d4o _,hb2⟩
   ·cbv
   ·intro z hinv;cbv;refine gn ?_;obtain⟨k,hz,hk,hE⟩:=hinv;replace hz:z=(k:Int):=hz;replace s5:qu tx=((tx.size:Nat):Int):=s5 tx;have hlt:qi z (qu tx)=decide (k<tx.size):=by rw[e7,s5,hz];exact d3X.2 (by omega)
    by_cases h9:k<tx.size
    ·rw[d3S h9] at hlt;obtain⟨c,hc⟩:∃c,(btl tx)[k]?=some c:=⟨_,d3H (by rw[P3];exact h9)⟩;obtain⟨x,hx⟩:∃x,ks[k]?=some x:=⟨_,d3H (by omega)⟩;have hkc:kk[k]?=some (c.toNat:Int):=by rw[hkk,d4p,hc];rfl
     have d1:ks.drop k=x::ks.drop (k+1):=by obtain⟨hi,e⟩:=d3J.1 hx;rw[d4c hi,e]
     have d2:kk.drop k=(c.toNat:Int)::kk.drop (k+1):=by obtain⟨hi,e⟩:=d3J.1 hkc;rw[d4c hi,e]
     rw[d1,d2,C5] at hE;have g1:vc K z=some (cT x):=by rw[r2,hz,d3I (by omega),hK];exact a1q hx
     have g2:qv tx z=some (c.toNat:Int):=by rw[s6,hz];exact a5b hc
     have hsp:=ih x (d3U hx) (c.toNat:Int) (by have:=hkl.2 x (d3U hx);omega) (hkn x (d3U hx));have hz1:qa .i64 (qb z 1)=((k+1:Nat):Int):=by rw[e1,e2,hz,IntWalk.i64_in _ (by omega)];omega
     have hm:tx.size - (qa .i64 (qb z 1)).toNat<tx.size - z.toNat:=by rw[hz1,hz];omega
     generalize B6 A3 x (c.toNat:Int)=q at *;generalize (c.toNat:Int)=cc at *;obtain⟨o1,m1,n1,l1⟩:=x;rw[cT] at g1 hsp;generalize rT l1=L1 at *;rw[hlt];cbv;refine gn ?_;rw[g1];cbv;rw[g2];cbv;refine l9 hA _ hsp ?_;cases q
     ·cbv;refine gn ?_;exact L3 hE
     ·cbv;refine gn ?_;exact⟨_,⟨k+1,hz1,h9,hE⟩,hm,by cbv⟩
    ·rw[d3P h9] at hlt;rw[d4w (by omega),C5] at hE;rw[hlt];cbv;refine gn ?_;exact L3 hE
end Go.Proofs.YtdjnoafijjepcaaGreat.Vm
end

/- Part 5 of the proof. Conditions: none. -/
import Derived.Test.YtlofmibkljoapaaDoorO4
import Derived.Test.YtlofmibkljoapaaDoorO0
set_option linter.all false
set_option linter.unusedVariables false
set_option linter.unusedSimpArgs false
section
namespace Go.Proofs.YtlofmibkljoapaaDoor.Vm
open Go.RowKit
set_option maxRecDepth 100000
set_option maxHeartbeats 4000000
def Z0 (op:Int):ByteArray:=if op=4 then ⟨#[116,116]⟩ else if op=5\/op=6 then ⟨#[114]⟩ else if op=11 then ⟨#[116,114]⟩ else ⟨#[]⟩
theorem c0x:m6 36 [.one (.sc (.int .u8 1))] [.one (.sc (.string ⟨#[]⟩)),.one (.sc (.bool true))]:=by
 refine Y8 Tryd.func36 rfl ?_;intros;rename_i hA;have q0:=(j8 hA).2.2.2.2.2.2.2.2;cbv;exact fr
theorem c0y:m6 36 [.one (.sc (.int .u8 2))] [.one (.sc (.string ⟨#[]⟩)),.one (.sc (.bool true))]:=by
 refine Y8 Tryd.func36 rfl ?_;intros;rename_i hA;have q0:=(j8 hA).2.2.2.2.2.2.2.2;cbv;exact fr
theorem c0z:m6 36 [.one (.sc (.int .u8 3))] [.one (.sc (.string ⟨#[]⟩)),.one (.sc (.bool true))]:=by
 refine Y8 Tryd.func36 rfl ?_;intros;rename_i hA;have q0:=(j8 hA).2.2.2.2.2.2.2.2;cbv;exact fr
theorem c00:m6 36 [.one (.sc (.int .u8 4))] [.one (.sc (.string ⟨#[116,116]⟩)),.one (.sc (.bool true))]:=by
 refine Y8 Tryd.func36 rfl ?_;intros;rename_i hA;have q0:=(j8 hA).2.2.2.2.2.2.2.2;cbv;exact fr
theorem c01:m6 36 [.one (.sc (.int .u8 5))] [.one (.sc (.string ⟨#[114]⟩)),.one (.sc (.bool true))]:=by
 refine Y8 Tryd.func36 rfl ?_;intros;rename_i hA;have q0:=(j8 hA).2.2.2.2.2.2.2.2;cbv;exact fr
theorem c02:m6 36 [.one (.sc (.int .u8 6))] [.one (.sc (.string ⟨#[114]⟩)),.one (.sc (.bool true))]:=by
 refine Y8 Tryd.func36 rfl ?_;intros;rename_i hA;have q0:=(j8 hA).2.2.2.2.2.2.2.2;cbv;exact fr
theorem c03:m6 36 [.one (.sc (.int .u8 7))] [.one (.sc (.string ⟨#[]⟩)),.one (.sc (.bool true))]:=by
 refine Y8 Tryd.func36 rfl ?_;intros;rename_i hA;have q0:=(j8 hA).2.2.2.2.2.2.2.2;cbv;exact fr
theorem c04:m6 36 [.one (.sc (.int .u8 8))] [.one (.sc (.string ⟨#[]⟩)),.one (.sc (.bool true))]:=by
 refine Y8 Tryd.func36 rfl ?_;intros;rename_i hA;have q0:=(j8 hA).2.2.2.2.2.2.2.2;cbv;exact fr
theorem c05:m6 36 [.one (.sc (.int .u8 9))] [.one (.sc (.string ⟨#[]⟩)),.one (.sc (.bool true))]:=by
 refine Y8 Tryd.func36 rfl ?_;intros;rename_i hA;have q0:=(j8 hA).2.2.2.2.2.2.2.2;cbv;exact fr
theorem b8J:m6 36 [.one (.sc (.int .u8 10))] [.one (.sc (.string ⟨#[]⟩)),.one (.sc (.bool true))]:=by
 refine Y8 Tryd.func36 rfl ?_;intros;rename_i hA;have q0:=(j8 hA).2.2.2.2.2.2.2.2;cbv;exact fr
theorem b8K:m6 36 [.one (.sc (.int .u8 11))] [.one (.sc (.string ⟨#[116,114]⟩)),.one (.sc (.bool true))]:=by
 refine Y8 Tryd.func36 rfl ?_;intros;rename_i hA;have q0:=(j8 hA).2.2.2.2.2.2.2.2;cbv;exact fr
theorem b8L (op:Int) (h1:op≠1) (h2:op≠2) (h3:op≠3) (h4:op≠4) (h5:op≠5) (h6:op≠6) (h7:op≠7) (h8:op≠8) (h9:op≠9) (h10:op≠10) (h11:op≠11):m6 36 [.one (.sc (.int .u8 op))] [.one (.sc (.string ⟨#[]⟩)),.one (.sc (.bool false))]:=by
 refine Y8 Tryd.func36 rfl ?_;intro _ _ _ _ _ _ _ _ _ qj;intros;rename_i hA;cbv
 repeat ((with_reducible apply b5 hA);cbv)
 obtain⟨e1,e2,e3,e4,e5,e6,e7,e8,e9⟩:=j8 hA;have k:∀n,op≠n->qj op n=false:=λn hn=>by rw[e9];exact c2O.2 hn
 rw[k 1 h1];cbv;refine gn ?_;rw[k 2 h2];cbv;refine gn ?_;rw[k 3 h3];cbv;refine gn ?_;rw[k 7 h7];cbv;refine gn ?_;rw[k 8 h8];cbv;refine gn ?_;rw[k 9 h9];cbv;refine gn ?_;rw[k 10 h10];cbv;refine gn ?_;rw[k 4 h4];cbv;refine gn ?_;rw[k 5 h5];cbv;refine gn ?_;rw[k 6 h6];cbv;refine gn ?_;rw[k 11 h11];cbv
 repeat ((with_reducible apply b5 hA);cbv)
theorem c06 (op:Int):m6 36 [.one (.sc (.int .u8 op))] [.one (.sc (.string (Z0 op))),.one (.sc (.bool (x6 op).isSome))]:=by
 by_cases h1:op=1
 ·subst h1;exact c0x
 by_cases h2:op=2
 ·subst h2;exact c0y
 by_cases h3:op=3
 ·subst h3;exact c0z
 by_cases h4:op=4
 ·subst h4;exact c00
 by_cases h5:op=5
 ·subst h5;exact c01
 by_cases h6:op=6
 ·subst h6;exact c02
 by_cases h7:op=7
 ·subst h7;exact c03
 by_cases h8:op=8
 ·subst h8;exact c04
 by_cases h9:op=9
 ·subst h9;exact c05
 by_cases h10:op=10
 ·subst h10;exact b8J
 by_cases h11:op=11
 ·subst h11;exact b8K
 have e1:Z0 op=⟨#[]⟩:=by unfold Z0;simp[h4,h5,h6,h11]
 have e2:(x6 op).isSome=false:=by unfold x6;simp[h1,h2,h3,h4,h5,h6,h7,h8,h9,h10,h11]
 rw[e1,e2];exact b8L op h1 h2 h3 h4 h5 h6 h7 h8 h9 h10 h11
theorem a57 {op:Int} {kk:List Int} (h:x6 op=some kk):kk=(P0 (Z0 op)).map λc=>(c.toNat:Int):=by
 unfold x6 at h
 repeat' split at h
 all_goals first|(cases h;done)|skip
 all_goals
  cases h;rename_i h
  rcases h with h
  first
  | (rcases h with h|h|h|h|h|h|h <;> subst h <;> rfl)
  | (rcases h with h|h <;> subst h <;> rfl)
  | (subst h;rfl)
def hdF (ok a8 e114 hl e11 w em nlt e7 e10 n0:Bool):Bool:=ok && ((a8 == e114) && (hl && ((match e11 with|true=>w|false=>em) && (!nlt && (e7 || (e10 || n0))))))
theorem b3V (op:Int) (nm:ByteArray) (n:Int) (ks:List Ty) (s:Int):a2Q j4 (.mk op nm n ks) s=hdF (x6 op).isSome (decide (8<=op)) (s == 114) (decide (ks.length=(Z0 op).size)) (op == 11) (j4 nm) (decide (nm.toList=[])) (decide (n<0)) (op == 7) (op == 10) (n == 0):=by
 show (match x6 op with|none=>false|some k=>(decide (8<=op) == (s == 114)) && (decide (ks.length=k.length) && ((if op=11 then j4 nm else decide (nm.toList=[])) && (decide (0<=n) && (decide (op=7\/op=10) || decide (n=0))))))=_;unfold hdF;cases h:x6 op with
 | none=>rfl
 | some kk =>
  show ((decide (8<=op) == (s == 114)) && (decide (ks.length=kk.length) && ((if op=11 then j4 nm else decide (nm.toList=[])) && (decide (0<=n) && (decide (op=7\/op=10) || decide (n=0))))))=_;have hk:=a57 h;have hl:kk.length=(Z0 op).size:=by rw[hk,c3f,B3]
  rw[hl]
  have e11:(if op=11 then j4 nm else decide (nm.toList=[]))=(match op == 11 with|true=>j4 nm|false=>decide (nm.toList=[])):=by
   by_cases h:op=11
   ·subst h;rfl
   ·rw[c2H h,c2O.2 h]
  have en:decide (0<=n)=!decide (n<0):=by by_cases h:n<0 <;> simp[h] <;> omega
  have eo:decide (op=7\/op=10)=((op == 7) || (op == 10)):=by by_cases h:op=7 <;> by_cases h':op=10 <;> simp[h,h']
  have e0:decide (n=0)=(n == 0):=by by_cases h:n=0 <;> simp[h]
  rw[e11,en,eo,e0];simp only[c43,c3R,Bool.or_assoc]
theorem b8M:∀(t:Ty) (s:Int),t.parts.length<=1048576->(∀x∈t.parts,x.name.size<=1048576)->m6 21 [.ag (cT t),.one (.sc (.int .u8 s))] [.one (.sc (.bool (c9 j4 t s)))]:=by
 intro t
 induction t using Ty.ind with
 | h t ih =>
  intro s hN hnm;have hkl:=o7 t;have hself:=hnm t (by rw[r6];exact c27 ..);have hkn:∀x∈t.kids,∀y∈x.parts,y.name.size<=1048576:=λx hx y hy=>hnm y (by rw[d5];exact c26 _ (c2U.2 ⟨x,hx,hy⟩))
  obtain⟨op,nm,n,ks⟩:=t;simp only[Ty.kids] at hkl ih hkn;have hself:nm.size<=1048576:=hself;have hb:=a2R j4 (.mk op nm n ks) s;rw[b3V] at hb;simp only[Ty.kids,Ty.op] at hb;generalize c9 j4 (.mk op nm n ks) s=b at hb ⊢;replace hb:=hb.symm;have hK2:=c06 op;have hW:=b0Z nm (by omega);have hks:∀kk,x6 op=some kk->(x6 op).getD []=(P0 (Z0 op)).map λc=>(c.toNat:Int):=λkk h=>by rw[<-a57 h,h];rfl
  have hsome:(x6 op).isSome=true->(x6 op).getD []=(P0 (Z0 op)).map λc=>(c.toNat:Int):=λh=>by
   cases h':x6 op with
   | none=>rw[h'] at h;cases h
   | some kk=>rw[<-h'];exact hks kk h'
  generalize (x6 op).getD []=kk at *;generalize (x6 op).isSome=ok at *
  have htx:(Z0 op).size<=2:=by
   unfold Z0
   repeat' split
   all_goals decide
  generalize Z0 op=tx at *;rw[cT];obtain⟨K,hK⟩:∃K,K=rT ks:=⟨_,rfl⟩;rw[<-hK];refine Y8 Tryd.func21 rfl ?_;intro qa qb _ _ _ _ _ qh qi qj _ ql _ qo _ _ qs qt _ _ _ _ qy qz;intros;rename_i hA;cbv;refine gn ?_;obtain⟨e1,e2,e3,e4,e5,e6,e7,e8,e9⟩:=j8 hA;obtain⟨s1,s2,s3,s4,s5,s6,-⟩:=A3 hA;obtain⟨r1,r2,-⟩:=n9 hA;have h8:qi 8 op=decide (8<=op):=e8 _ _;have h114:qj s 114=(s == 114):=e9 _ _
  have hl:qj (qy K) (qs tx)=decide (ks.length=tx.size):=by
   rw[e9,r1,s5,hK,E8]
   by_cases h:ks.length=tx.size
   ·rw[h];simp
   ·rw[c2G h];exact c2O.2 (by omega)
  have h11:qj op 11=(op == 11):=e9 _ _
  have hem:ql (qo nm) (qo ⟨⟨[]⟩⟩)=decide (nm.toList=[]):=by
   rw[s1,s3,s3,a2b ⟨⟨[]⟩⟩,show P0 ⟨⟨[]⟩⟩=[] from rfl];cases nm.toList <;> rfl
  have hnl:qh n 0=decide (n<0):=e7 _ _;have h7:qj op 7=(op == 7):=e9 _ _;have h10:qj op 10=(op == 10):=e9 _ _;have hn0:qj n 0=(n == 0):=e9 _ _;generalize decide (8<=op)=b8 at *;generalize (s == 114)=b114 at *;generalize hbl:decide (ks.length=tx.size)=bl at *;generalize (op == 11)=b11 at *;generalize j4 nm=bw at *;generalize decide (nm.toList=[])=bem at *;generalize decide (n<0)=bnl at *;generalize (op == 7)=b7 at *;generalize (op == 10)=b10 at *;generalize (n == 0)=bn0 at *;refine b9 hA _ hK2 ?_ ?_
  ·rfl
  cases ok
  ·cbv;refine gn ?_;exact C5 hb
  cbv;refine gn ?_;rw[h8,h114];unfold hdF at hb;cases b8 <;> cases b114
  all_goals
   cbv;refine gn ?_
   first
   | (exact C5 hb;done)
   | skip
  all_goals rw[hl]
  all_goals cases bl
  all_goals
   cbv;refine gn ?_
   first
   | (exact C5 hb;done)
   | skip
  all_goals rw[h11]
  all_goals cases b11
  all_goals
   cbv;refine gn ?_
   try (rw[h11];cbv)
   repeat ((with_reducible apply b5 hA);cbv)
  all_goals first|(rw[hem];cases bem)|(refine b9 hA _ hW ?_ ?_;rfl;cases bw)
  all_goals
   cbv;refine gn ?_
   try (rw[h11];cbv)
   repeat ((with_reducible apply b5 hA);cbv)
   first
   | (exact C5 hb;done)
   | skip
  all_goals first|(rw[hnl];cases bnl)|skip
  all_goals
   cbv;refine gn ?_
   first
   | (exact C5 hb;done)
   | skip
  all_goals first|(rw[h7];cases b7)|skip
  all_goals
   cbv;refine gn ?_
   first
   | (exact C5 hb;done)
   | skip
  all_goals first|(rw[h10];cases b10)|skip
  all_goals
   cbv;refine gn ?_
   first
   | (exact C5 hb;done)
   | skip
  all_goals first|(rw[hn0];cases bn0)|skip
  all_goals
   cbv;refine gn ?_
   first
   | (exact C5 hb;done)
   | skip
  all_goals
   have hb2:n6 j4 ks kk=b:=hb;have hlen:ks.length=tx.size:=c3c hbl;have hkk:=hsome rfl;refine l9 hA (γ:=Int) (λz=>[(7,vi .i64 z),(8,.jk),(11,.jk)]) (λ_=>[]) (λz=>∃k:Nat,z=(k:Int)/\k<=tx.size/\n6 j4 (ks.drop k) (kk.drop k)=b) (λz=>tx.size - z.toNat) 0 ?_ ?_ ?_
   ·exact⟨0,rfl,c3d _,hb2⟩
   ·cbv
   ·intro z hinv;cbv;refine gn ?_;obtain⟨k,hz,hk,hE⟩:=hinv;replace hz:z=(k:Int):=hz;replace s5:qs tx=((tx.size:Nat):Int):=s5 tx;have hlt:qh z (qs tx)=decide (k<tx.size):=by rw[e7,s5,hz];exact c2Q.2 (by omega)
    by_cases h9:k<tx.size
    ·rw[c2J h9] at hlt;obtain⟨c,hc⟩:∃c,(P0 tx)[k]?=some c:=⟨_,c28 (by rw[B3];exact h9)⟩;obtain⟨x,hx⟩:∃x,ks[k]?=some x:=⟨_,c28 (by omega)⟩;have hkc:kk[k]?=some (c.toNat:Int):=by rw[hkk,c3i,hc];rfl
     have d1:ks.drop k=x::ks.drop (k+1):=by obtain⟨hi,e⟩:=c25.1 hx;rw[c2X hi,e]
     have d2:kk.drop k=(c.toNat:Int)::kk.drop (k+1):=by obtain⟨hi,e⟩:=c25.1 hkc;rw[c2X hi,e]
     rw[d1,d2,n6] at hE;have g1:qz K z=some (cT x):=by rw[r2,hz,c2E (by omega),hK];exact a04 hx
     have g2:qt tx z=some (c.toNat:Int):=by rw[s6,hz];exact a6r hc
     have hsp:=ih x (c2F hx) (c.toNat:Int) (by have:=hkl.2 x (c2F hx);omega) (hkn x (c2F hx));have hz1:qa .i64 (qb z 1)=((k+1:Nat):Int):=by rw[e1,e2,hz,IntWalk.i64_in _ (by omega)];omega
     have hm:tx.size - (qa .i64 (qb z 1)).toNat<tx.size - z.toNat:=by rw[hz1,hz];omega
     generalize c9 j4 x (c.toNat:Int)=q at *;generalize (c.toNat:Int)=cc at *;obtain⟨o1,m1,n1,l1⟩:=x;rw[cT] at g1 hsp;generalize rT l1=L1 at *;rw[hlt];cbv;refine gn ?_;rw[g1];cbv;rw[g2];cbv;refine c5 hA _ hsp ?_;cases q
     ·cbv;refine gn ?_;exact C5 hE
     ·cbv;refine gn ?_;exact⟨_,⟨k+1,hz1,h9,hE⟩,hm,by cbv⟩
    ·rw[c2G h9] at hlt;rw[c3j (by omega),n6] at hE;rw[hlt];cbv;refine gn ?_;exact C5 hE
end Go.Proofs.YtlofmibkljoapaaDoor.Vm
end

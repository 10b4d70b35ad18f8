/- Part 5 of the proof. Conditions: none. -/
import Derived.Test.YtlofmibkljoapaaDoorN4
import Derived.Test.YtlofmibkljoapaaDoorN0
set_option linter.all false
set_option linter.unusedVariables false
set_option linter.unusedSimpArgs false
section
namespace Go.Proofs.YtlofmibkljoapaaDoor.Vm
open Go.RowKit
set_option maxRecDepth 100000
set_option maxHeartbeats 4000000
def a0c (op:Int):ByteArray:=if op=4 then ⟨#[116,116]⟩ else if op=5\/op=6 then ⟨#[114]⟩ else if op=11 then ⟨#[116,114]⟩ else ⟨#[]⟩
theorem c1n:l6 36 [.one (.sc (.int .u8 1))] [.one (.sc (.string ⟨#[]⟩)),.one (.sc (.bool true))]:=by
 refine K7 Tryd.func36 rfl ?_;intros;rename_i hA;have q0:=(j3 hA).2.2.2.2.2.2.2.2;cbv;exact fr
theorem c1o:l6 36 [.one (.sc (.int .u8 2))] [.one (.sc (.string ⟨#[]⟩)),.one (.sc (.bool true))]:=by
 refine K7 Tryd.func36 rfl ?_;intros;rename_i hA;have q0:=(j3 hA).2.2.2.2.2.2.2.2;cbv;exact fr
theorem c1p:l6 36 [.one (.sc (.int .u8 3))] [.one (.sc (.string ⟨#[]⟩)),.one (.sc (.bool true))]:=by
 refine K7 Tryd.func36 rfl ?_;intros;rename_i hA;have q0:=(j3 hA).2.2.2.2.2.2.2.2;cbv;exact fr
theorem c1q:l6 36 [.one (.sc (.int .u8 4))] [.one (.sc (.string ⟨#[116,116]⟩)),.one (.sc (.bool true))]:=by
 refine K7 Tryd.func36 rfl ?_;intros;rename_i hA;have q0:=(j3 hA).2.2.2.2.2.2.2.2;cbv;exact fr
theorem c1r:l6 36 [.one (.sc (.int .u8 5))] [.one (.sc (.string ⟨#[114]⟩)),.one (.sc (.bool true))]:=by
 refine K7 Tryd.func36 rfl ?_;intros;rename_i hA;have q0:=(j3 hA).2.2.2.2.2.2.2.2;cbv;exact fr
theorem c1s:l6 36 [.one (.sc (.int .u8 6))] [.one (.sc (.string ⟨#[114]⟩)),.one (.sc (.bool true))]:=by
 refine K7 Tryd.func36 rfl ?_;intros;rename_i hA;have q0:=(j3 hA).2.2.2.2.2.2.2.2;cbv;exact fr
theorem c1t:l6 36 [.one (.sc (.int .u8 7))] [.one (.sc (.string ⟨#[]⟩)),.one (.sc (.bool true))]:=by
 refine K7 Tryd.func36 rfl ?_;intros;rename_i hA;have q0:=(j3 hA).2.2.2.2.2.2.2.2;cbv;exact fr
theorem c1u:l6 36 [.one (.sc (.int .u8 8))] [.one (.sc (.string ⟨#[]⟩)),.one (.sc (.bool true))]:=by
 refine K7 Tryd.func36 rfl ?_;intros;rename_i hA;have q0:=(j3 hA).2.2.2.2.2.2.2.2;cbv;exact fr
theorem c1v:l6 36 [.one (.sc (.int .u8 9))] [.one (.sc (.string ⟨#[]⟩)),.one (.sc (.bool true))]:=by
 refine K7 Tryd.func36 rfl ?_;intros;rename_i hA;have q0:=(j3 hA).2.2.2.2.2.2.2.2;cbv;exact fr
theorem b95:l6 36 [.one (.sc (.int .u8 10))] [.one (.sc (.string ⟨#[]⟩)),.one (.sc (.bool true))]:=by
 refine K7 Tryd.func36 rfl ?_;intros;rename_i hA;have q0:=(j3 hA).2.2.2.2.2.2.2.2;cbv;exact fr
theorem b96:l6 36 [.one (.sc (.int .u8 11))] [.one (.sc (.string ⟨#[116,114]⟩)),.one (.sc (.bool true))]:=by
 refine K7 Tryd.func36 rfl ?_;intros;rename_i hA;have q0:=(j3 hA).2.2.2.2.2.2.2.2;cbv;exact fr
theorem b97 (op:Int) (h1:op≠1) (h2:op≠2) (h3:op≠3) (h4:op≠4) (h5:op≠5) (h6:op≠6) (h7:op≠7) (h8:op≠8) (h9:op≠9) (h10:op≠10) (h11:op≠11):l6 36 [.one (.sc (.int .u8 op))] [.one (.sc (.string ⟨#[]⟩)),.one (.sc (.bool false))]:=by
 refine K7 Tryd.func36 rfl ?_;intro _ _ _ _ _ _ _ _ _ qj;intros;rename_i hA;cbv
 repeat ((with_reducible apply b6 hA);cbv)
 obtain⟨e1,e2,e3,e4,e5,e6,e7,e8,e9⟩:=j3 hA;have k:∀n,op≠n->qj op n=false:=λn hn=>by rw[e9];exact c3R.2 hn
 rw[k 1 h1];cbv;refine gn ?_;rw[k 2 h2];cbv;refine gn ?_;rw[k 3 h3];cbv;refine gn ?_;rw[k 7 h7];cbv;refine gn ?_;rw[k 8 h8];cbv;refine gn ?_;rw[k 9 h9];cbv;refine gn ?_;rw[k 10 h10];cbv;refine gn ?_;rw[k 4 h4];cbv;refine gn ?_;rw[k 5 h5];cbv;refine gn ?_;rw[k 6 h6];cbv;refine gn ?_;rw[k 11 h11];cbv
 repeat ((with_reducible apply b6 hA);cbv)
theorem c1w (op:Int):l6 36 [.one (.sc (.int .u8 op))] [.one (.sc (.string (a0c op))),.one (.sc (.bool (y6 op).isSome))]:=by
 by_cases h1:op=1
 ·subst h1;exact c1n
 by_cases h2:op=2
 ·subst h2;exact c1o
 by_cases h3:op=3
 ·subst h3;exact c1p
 by_cases h4:op=4
 ·subst h4;exact c1q
 by_cases h5:op=5
 ·subst h5;exact c1r
 by_cases h6:op=6
 ·subst h6;exact c1s
 by_cases h7:op=7
 ·subst h7;exact c1t
 by_cases h8:op=8
 ·subst h8;exact c1u
 by_cases h9:op=9
 ·subst h9;exact c1v
 by_cases h10:op=10
 ·subst h10;exact b95
 by_cases h11:op=11
 ·subst h11;exact b96
 have e1:a0c op=⟨#[]⟩:=by unfold a0c;simp[h4,h5,h6,h11]
 have e2:(y6 op).isSome=false:=by unfold y6;simp[h1,h2,h3,h4,h5,h6,h7,h8,h9,h10,h11]
 rw[e1,e2];exact b97 op h1 h2 h3 h4 h5 h6 h7 h8 h9 h10 h11
theorem a5N {op:Int} {kk:List Int} (h:y6 op=some kk):kk=(I5 (a0c op)).map λc=>(c.toNat:Int):=by
 unfold y6 at h
 repeat' split at h
 all_goals first|(cases h;done)|skip
 all_goals
  cases h;rename_i h
  rcases h with h
  first
  | (rcases h with h|h|h|h|h|h|h <;> subst h <;> rfl)
  | (rcases h with h|h <;> subst h <;> rfl)
  | (subst h;rfl)
def hdF (ok a8 e114 hl e11 w em nlt e7 e10 n0:Bool):Bool:=ok && ((a8 == e114) && (hl && ((match e11 with|true=>w|false=>em) && (!nlt && (e7 || (e10 || n0))))))
theorem b4v (op:Int) (nm:ByteArray) (n:Int) (ks:List Ty) (s:Int):a2V f8 (.mk op nm n ks) s=hdF (y6 op).isSome (decide (8<=op)) (s == 114) (decide (ks.length=(a0c op).size)) (op == 11) (f8 nm) (decide (nm.toList=[])) (decide (n<0)) (op == 7) (op == 10) (n == 0):=by
 show (match y6 op with|none=>false|some k=>(decide (8<=op) == (s == 114)) && (decide (ks.length=k.length) && ((if op=11 then f8 nm else decide (nm.toList=[])) && (decide (0<=n) && (decide (op=7\/op=10) || decide (n=0))))))=_;unfold hdF;cases h:y6 op with
 | none=>rfl
 | some kk =>
  show ((decide (8<=op) == (s == 114)) && (decide (ks.length=kk.length) && ((if op=11 then f8 nm else decide (nm.toList=[])) && (decide (0<=n) && (decide (op=7\/op=10) || decide (n=0))))))=_;have hk:=a5N h;have hl:kk.length=(a0c op).size:=by rw[hk,c4h,B3]
  rw[hl]
  have e11:(if op=11 then f8 nm else decide (nm.toList=[]))=(match op == 11 with|true=>f8 nm|false=>decide (nm.toList=[])):=by
   by_cases h:op=11
   ·subst h;rfl
   ·rw[c3G h,c3R.2 h]
  have en:decide (0<=n)=!decide (n<0):=by by_cases h:n<0 <;> simp[h] <;> omega
  have eo:decide (op=7\/op=10)=((op == 7) || (op == 10)):=by by_cases h:op=7 <;> by_cases h':op=10 <;> simp[h,h']
  have e0:decide (n=0)=(n == 0):=by by_cases h:n=0 <;> simp[h]
  rw[e11,en,eo,e0];simp only[c5A,c4O,Bool.or_assoc]
theorem b98:∀(t:Ty) (s:Int),t.parts.length<=1048576->(∀x∈t.parts,x.name.size<=1048576)->l6 21 [.ag (cT t),.one (.sc (.int .u8 s))] [.one (.sc (.bool (c8 f8 t s)))]:=by
 intro t
 induction t using Ty.ind with
 | h t ih =>
  intro s hN hnm;have hkl:=m9 t;have hself:=hnm t (by rw[r7];exact c38 ..);have hkn:∀x∈t.kids,∀y∈x.parts,y.name.size<=1048576:=λx hx y hy=>hnm y (by rw[d9];exact c36 _ (c4a.2 ⟨x,hx,hy⟩))
  obtain⟨op,nm,n,ks⟩:=t;simp only[Ty.kids] at hkl ih hkn;have hself:nm.size<=1048576:=hself;have hb:=a2W f8 (.mk op nm n ks) s;rw[b4v] at hb;simp only[Ty.kids,Ty.op] at hb;generalize c8 f8 (.mk op nm n ks) s=b at hb ⊢;replace hb:=hb.symm;have hK2:=c1w op;have hW:=b1t nm (by omega);have hks:∀kk,y6 op=some kk->(y6 op).getD []=(I5 (a0c op)).map λc=>(c.toNat:Int):=λkk h=>by rw[<-a5N h,h];rfl
  have hsome:(y6 op).isSome=true->(y6 op).getD []=(I5 (a0c op)).map λc=>(c.toNat:Int):=λh=>by
   cases h':y6 op with
   | none=>rw[h'] at h;cases h
   | some kk=>rw[<-h'];exact hks kk h'
  generalize (y6 op).getD []=kk at *;generalize (y6 op).isSome=ok at *
  have htx:(a0c op).size<=2:=by
   unfold a0c
   repeat' split
   all_goals decide
  generalize a0c op=tx at *;rw[cT];obtain⟨K,hK⟩:∃K,K=rT ks:=⟨_,rfl⟩;rw[<-hK];refine K7 Tryd.func21 rfl ?_;intro qa qb _ _ _ _ _ qh qi qj _ ql _ qo _ _ qs qt _ _ _ _ qy qz;intros;rename_i hA;cbv;refine gn ?_;obtain⟨e1,e2,e3,e4,e5,e6,e7,e8,e9⟩:=j3 hA;obtain⟨s1,s2,s3,s4,s5,s6,-⟩:=w7 hA;obtain⟨r1,r2,-⟩:=m8 hA;have h8:qi 8 op=decide (8<=op):=e8 _ _;have h114:qj s 114=(s == 114):=e9 _ _
  have hl:qj (qy K) (qs tx)=decide (ks.length=tx.size):=by
   rw[e9,r1,s5,hK,B7]
   by_cases h:ks.length=tx.size
   ·rw[h];simp
   ·rw[c3I h];exact c3R.2 (by omega)
  have h11:qj op 11=(op == 11):=e9 _ _
  have hem:ql (qo nm) (qo ⟨⟨[]⟩⟩)=decide (nm.toList=[]):=by
   rw[s1,s3,s3,a2h ⟨⟨[]⟩⟩,show I5 ⟨⟨[]⟩⟩=[] from rfl];cases nm.toList <;> rfl
  have hnl:qh n 0=decide (n<0):=e7 _ _;have h7:qj op 7=(op == 7):=e9 _ _;have h10:qj op 10=(op == 10):=e9 _ _;have hn0:qj n 0=(n == 0):=e9 _ _;generalize decide (8<=op)=b8 at *;generalize (s == 114)=b114 at *;generalize hbl:decide (ks.length=tx.size)=bl at *;generalize (op == 11)=b11 at *;generalize f8 nm=bw at *;generalize decide (nm.toList=[])=bem at *;generalize decide (n<0)=bnl at *;generalize (op == 7)=b7 at *;generalize (op == 10)=b10 at *;generalize (n == 0)=bn0 at *;refine c5 hA _ hK2 ?_ ?_
  ·rfl
  cases ok
  ·cbv;refine gn ?_;exact E4 hb
  cbv;refine gn ?_;rw[h8,h114];unfold hdF at hb;cases b8 <;> cases b114
  all_goals
   cbv;refine gn ?_
   first
   | (exact E4 hb;done)
   | skip
  all_goals rw[hl]
  all_goals cases bl
  all_goals
   cbv;refine gn ?_
   first
   | (exact E4 hb;done)
   | skip
  all_goals rw[h11]
  all_goals cases b11
  all_goals
   cbv;refine gn ?_
   try (rw[h11];cbv)
   repeat ((with_reducible apply b6 hA);cbv)
  all_goals first|(rw[hem];cases bem)|(refine c5 hA _ hW ?_ ?_;rfl;cases bw)
  all_goals
   cbv;refine gn ?_
   try (rw[h11];cbv)
   repeat ((with_reducible apply b6 hA);cbv)
   first
   | (exact E4 hb;done)
   | skip
  all_goals first|(rw[hnl];cases bnl)|skip
  all_goals
   cbv;refine gn ?_
   first
   | (exact E4 hb;done)
   | skip
  all_goals first|(rw[h7];cases b7)|skip
  all_goals
   cbv;refine gn ?_
   first
   | (exact E4 hb;done)
   | skip
  all_goals first|(rw[h10];cases b10)|skip
  all_goals
   cbv;refine gn ?_
   first
   | (exact E4 hb;done)
   | skip
  all_goals first|(rw[hn0];cases bn0)|skip
  all_goals
   cbv;refine gn ?_
   first
   | (exact E4 hb;done)
   | skip
  all_goals
   have hb2:n6 f8 ks kk=b:=hb;have hlen:ks.length=tx.size:=c4d hbl;have hkk:=hsome rfl;refine l7 hA (γ:=Int) (λz=>[(7,vi .i64 z),(8,.jk),(11,.jk)]) (λ_=>[]) (λz=>∃k:Nat,z=(k:Int)/\k<=tx.size/\n6 f8 (ks.drop k) (kk.drop k)=b) (λz=>tx.size - z.toNat) 0 ?_ ?_ ?_
   ·exact⟨0,rfl,c4e _,hb2⟩
   ·cbv
   ·intro z hinv;cbv;refine gn ?_;obtain⟨k,hz,hk,hE⟩:=hinv;replace hz:z=(k:Int):=hz;replace s5:qs tx=((tx.size:Nat):Int):=s5 tx;have hlt:qh z (qs tx)=decide (k<tx.size):=by rw[e7,s5,hz];exact c3M.2 (by omega)
    by_cases h9:k<tx.size
    ·rw[c3K h9] at hlt;obtain⟨c,hc⟩:∃c,(I5 tx)[k]?=some c:=⟨_,c39 (by rw[B3];exact h9)⟩;obtain⟨x,hx⟩:∃x,ks[k]?=some x:=⟨_,c39 (by omega)⟩;have hkc:kk[k]?=some (c.toNat:Int):=by rw[hkk,c4j,hc];rfl
     have d1:ks.drop k=x::ks.drop (k+1):=by obtain⟨hi,e⟩:=c35.1 hx;rw[c3U hi,e]
     have d2:kk.drop k=(c.toNat:Int)::kk.drop (k+1):=by obtain⟨hi,e⟩:=c35.1 hkc;rw[c3U hi,e]
     rw[d1,d2,n6] at hE;have g1:qz K z=some (cT x):=by rw[r2,hz,c3E (by omega),hK];exact T3 hx
     have g2:qt tx z=some (c.toNat:Int):=by rw[s6,hz];exact a4T hc
     have hsp:=ih x (c3J hx) (c.toNat:Int) (by have:=hkl.2 x (c3J hx);omega) (hkn x (c3J hx));have hz1:qa .i64 (qb z 1)=((k+1:Nat):Int):=by rw[e1,e2,hz,IntWalk.i64_in _ (by omega)];omega
     have hm:tx.size - (qa .i64 (qb z 1)).toNat<tx.size - z.toNat:=by rw[hz1,hz];omega
     generalize c8 f8 x (c.toNat:Int)=q at *;generalize (c.toNat:Int)=cc at *;obtain⟨o1,m1,n1,l1⟩:=x;rw[cT] at g1 hsp;generalize rT l1=L1 at *;rw[hlt];cbv;refine gn ?_;rw[g1];cbv;rw[g2];cbv;refine c7 hA _ hsp ?_;cases q
     ·cbv;refine gn ?_;exact E4 hE
     ·cbv;refine gn ?_;exact⟨_,⟨k+1,hz1,h9,hE⟩,hm,by cbv⟩
    ·rw[c3I h9] at hlt;rw[c4m (by omega),n6] at hE;rw[hlt];cbv;refine gn ?_;exact E4 hE
end Go.Proofs.YtlofmibkljoapaaDoor.Vm
end

/- Part 5 of the proof. Conditions: none. -/
import Derived.Test.YtncijebklnbhlaaGreatDoorQ4
set_option linter.all false
set_option linter.unusedVariables false
set_option linter.unusedSimpArgs false
section
namespace Go.Proofs.YtncijebklnbhlaaGreatDoor.Vm
open Go.RowKit
set_option maxRecDepth 100000
set_option maxHeartbeats 4000000
def W7 (op:Int):ByteArray:=if op=4 then ⟨#[116,116]⟩ else if op=5\/op=6 then ⟨#[114]⟩ else if op=11 then ⟨#[116,114]⟩ else ⟨#[]⟩
theorem b8V:j5 67 [.one (.sc (.int .u8 1))] [.one (.sc (.string ⟨#[]⟩)),.one (.sc (.bool true))]:=by
 refine C2 Tryz.func67 rfl ?_;intros;rename_i hA;have q0:=(l7 hA).2.2.2.2.2.2.2.2;cbv;exact fr
theorem b8W:j5 67 [.one (.sc (.int .u8 2))] [.one (.sc (.string ⟨#[]⟩)),.one (.sc (.bool true))]:=by
 refine C2 Tryz.func67 rfl ?_;intros;rename_i hA;have q0:=(l7 hA).2.2.2.2.2.2.2.2;cbv;exact fr
theorem b8X:j5 67 [.one (.sc (.int .u8 3))] [.one (.sc (.string ⟨#[]⟩)),.one (.sc (.bool true))]:=by
 refine C2 Tryz.func67 rfl ?_;intros;rename_i hA;have q0:=(l7 hA).2.2.2.2.2.2.2.2;cbv;exact fr
theorem b8Y:j5 67 [.one (.sc (.int .u8 4))] [.one (.sc (.string ⟨#[116,116]⟩)),.one (.sc (.bool true))]:=by
 refine C2 Tryz.func67 rfl ?_;intros;rename_i hA;have q0:=(l7 hA).2.2.2.2.2.2.2.2;cbv;exact fr
theorem b8Z:j5 67 [.one (.sc (.int .u8 5))] [.one (.sc (.string ⟨#[114]⟩)),.one (.sc (.bool true))]:=by
 refine C2 Tryz.func67 rfl ?_;intros;rename_i hA;have q0:=(l7 hA).2.2.2.2.2.2.2.2;cbv;exact fr
theorem b9a:j5 67 [.one (.sc (.int .u8 6))] [.one (.sc (.string ⟨#[114]⟩)),.one (.sc (.bool true))]:=by
 refine C2 Tryz.func67 rfl ?_;intros;rename_i hA;have q0:=(l7 hA).2.2.2.2.2.2.2.2;cbv;exact fr
theorem b9b:j5 67 [.one (.sc (.int .u8 7))] [.one (.sc (.string ⟨#[]⟩)),.one (.sc (.bool true))]:=by
 refine C2 Tryz.func67 rfl ?_;intros;rename_i hA;have q0:=(l7 hA).2.2.2.2.2.2.2.2;cbv;exact fr
theorem b9c:j5 67 [.one (.sc (.int .u8 8))] [.one (.sc (.string ⟨#[]⟩)),.one (.sc (.bool true))]:=by
 refine C2 Tryz.func67 rfl ?_;intros;rename_i hA;have q0:=(l7 hA).2.2.2.2.2.2.2.2;cbv;exact fr
theorem b9d:j5 67 [.one (.sc (.int .u8 9))] [.one (.sc (.string ⟨#[]⟩)),.one (.sc (.bool true))]:=by
 refine C2 Tryz.func67 rfl ?_;intros;rename_i hA;have q0:=(l7 hA).2.2.2.2.2.2.2.2;cbv;exact fr
theorem b7e:j5 67 [.one (.sc (.int .u8 10))] [.one (.sc (.string ⟨#[]⟩)),.one (.sc (.bool true))]:=by
 refine C2 Tryz.func67 rfl ?_;intros;rename_i hA;have q0:=(l7 hA).2.2.2.2.2.2.2.2;cbv;exact fr
theorem b7f:j5 67 [.one (.sc (.int .u8 11))] [.one (.sc (.string ⟨#[116,114]⟩)),.one (.sc (.bool true))]:=by
 refine C2 Tryz.func67 rfl ?_;intros;rename_i hA;have q0:=(l7 hA).2.2.2.2.2.2.2.2;cbv;exact fr
theorem b7g (op:Int) (h1:op≠1) (h2:op≠2) (h3:op≠3) (h4:op≠4) (h5:op≠5) (h6:op≠6) (h7:op≠7) (h8:op≠8) (h9:op≠9) (h10:op≠10) (h11:op≠11):j5 67 [.one (.sc (.int .u8 op))] [.one (.sc (.string ⟨#[]⟩)),.one (.sc (.bool false))]:=by
 refine C2 Tryz.func67 rfl ?_;intro _ _ _ _ _ _ _ _ _ qj;intros;rename_i hA;cbv
 repeat ((with_reducible apply j2 hA);cbv)
 obtain⟨e1,e2,e3,e4,e5,e6,e7,e8,e9⟩:=l7 hA;have k:∀n,op≠n->qj op n=false:=λn hn=>by rw[e9];exact beq_eq_false_iff_ne.2 hn
 rw[k 1 h1];cbv;refine gn ?_;rw[k 2 h2];cbv;refine gn ?_;rw[k 3 h3];cbv;refine gn ?_;rw[k 7 h7];cbv;refine gn ?_;rw[k 8 h8];cbv;refine gn ?_;rw[k 9 h9];cbv;refine gn ?_;rw[k 10 h10];cbv;refine gn ?_;rw[k 4 h4];cbv;refine gn ?_;rw[k 5 h5];cbv;refine gn ?_;rw[k 6 h6];cbv;refine gn ?_;rw[k 11 h11];cbv
 repeat ((with_reducible apply j2 hA);cbv)
theorem b9e (op:Int):j5 67 [.one (.sc (.int .u8 op))] [.one (.sc (.string (W7 op))),.one (.sc (.bool (C3 op).isSome))]:=by
 by_cases h1:op=1
 ·subst h1;exact b8V
 by_cases h2:op=2
 ·subst h2;exact b8W
 by_cases h3:op=3
 ·subst h3;exact b8X
 by_cases h4:op=4
 ·subst h4;exact b8Y
 by_cases h5:op=5
 ·subst h5;exact b8Z
 by_cases h6:op=6
 ·subst h6;exact b9a
 by_cases h7:op=7
 ·subst h7;exact b9b
 by_cases h8:op=8
 ·subst h8;exact b9c
 by_cases h9:op=9
 ·subst h9;exact b9d
 by_cases h10:op=10
 ·subst h10;exact b7e
 by_cases h11:op=11
 ·subst h11;exact b7f
 have e1:W7 op=⟨#[]⟩:=by unfold W7;simp[h4,h5,h6,h11]
 have e2:(C3 op).isSome=false:=by unfold C3;simp[h1,h2,h3,h4,h5,h6,h7,h8,h9,h10,h11]
 rw[e1,e2];exact b7g op h1 h2 h3 h4 h5 h6 h7 h8 h9 h10 h11
theorem a43 {op:Int} {kk:List Int} (h:C3 op=some kk):kk=(H3 (W7 op)).map λc=>(c.toNat:Int):=by
 unfold C3 at h
 repeat' split at h
 all_goals first|(cases h;done)|skip
 all_goals
  cases h;rename_i h
  rcases h with h
  first
  | (rcases h with h|h|h|h|h|h|h <;> subst h <;> rfl)
  | (rcases h with h|h <;> subst h <;> rfl)
  | (subst h;rfl)
def hdF (ok a8 e114 hl e11 w em nlt e7 e10 n0:Bool):Bool:=ok && ((a8 == e114) && (hl && ((match e11 with|true=>w|false=>em) && (!nlt && (e7 || (e10 || n0))))))
theorem b24 (op:Int) (nm:ByteArray) (n:Int) (ks:List Ty) (s:Int):a2b r5 (.mk op nm n ks) s=hdF (C3 op).isSome (decide (8<=op)) (s == 114) (decide (ks.length=(W7 op).size)) (op == 11) (r5 nm) (decide (nm.toList=[])) (decide (n<0)) (op == 7) (op == 10) (n == 0):=by
 show (match C3 op with|none=>false|some k=>(decide (8<=op) == (s == 114)) && (decide (ks.length=k.length) && ((if op=11 then r5 nm else decide (nm.toList=[])) && (decide (0<=n) && (decide (op=7\/op=10) || decide (n=0))))))=_;unfold hdF;cases h:C3 op with
 | none=>rfl
 | some kk =>
  show ((decide (8<=op) == (s == 114)) && (decide (ks.length=kk.length) && ((if op=11 then r5 nm else decide (nm.toList=[])) && (decide (0<=n) && (decide (op=7\/op=10) || decide (n=0))))))=_;have hk:=a43 h;have hl:kk.length=(W7 op).size:=by rw[hk,List.length_map,B8]
  rw[hl]
  have e11:(if op=11 then r5 nm else decide (nm.toList=[]))=(match op == 11 with|true=>r5 nm|false=>decide (nm.toList=[])):=by
   by_cases h:op=11
   ·subst h;rfl
   ·rw[if_neg h,beq_eq_false_iff_ne.2 h]
  have en:decide (0<=n)=!decide (n<0):=by by_cases h:n<0 <;> simp[h] <;> omega
  have eo:decide (op=7\/op=10)=((op == 7) || (op == 10)):=by by_cases h:op=7 <;> by_cases h':op=10 <;> simp[h,h']
  have e0:decide (n=0)=(n == 0):=by by_cases h:n=0 <;> simp[h]
  rw[e11,en,eo,e0];simp only[Option.isSome_some,Bool.true_and,Bool.or_assoc]
theorem b7h:∀(t:Ty) (s:Int),t.parts.length<=1048576->(∀x∈t.parts,x.name.size<=1048576)->j5 51 [.ag (cT t),.one (.sc (.int .u8 s))] [.one (.sc (.bool (m8 r5 t s)))]:=by
 intro t
 induction t using Ty.ind with
 | h t ih =>
  intro s hN hnm;have hkl:=A4 t;have hself:=hnm t (by rw[A3];exact List.mem_cons_self ..);have hkn:∀x∈t.kids,∀y∈x.parts,y.name.size<=1048576:=λx hx y hy=>hnm y (by rw[o9];exact List.mem_cons_of_mem _ (List.mem_flatMap.2 ⟨x,hx,hy⟩))
  obtain⟨op,nm,n,ks⟩:=t;simp only[Ty.kids] at hkl ih hkn;have hself:nm.size<=1048576:=hself;have hb:=a2c r5 (.mk op nm n ks) s;rw[b24] at hb;simp only[Ty.kids,Ty.op] at hb;generalize m8 r5 (.mk op nm n ks) s=b at hb ⊢;replace hb:=hb.symm;have hK2:=b9e op;have hW:=a2e nm (by omega);have hks:∀kk,C3 op=some kk->(C3 op).getD []=(H3 (W7 op)).map λc=>(c.toNat:Int):=λkk h=>by rw[<-a43 h,h];rfl
  have hsome:(C3 op).isSome=true->(C3 op).getD []=(H3 (W7 op)).map λc=>(c.toNat:Int):=λh=>by
   cases h':C3 op with
   | none=>rw[h'] at h;cases h
   | some kk=>rw[<-h'];exact hks kk h'
  generalize (C3 op).getD []=kk at *;generalize (C3 op).isSome=ok at *
  have htx:(W7 op).size<=2:=by
   unfold W7
   repeat' split
   all_goals decide
  generalize W7 op=tx at *;rw[cT];obtain⟨K,hK⟩:∃K,K=rT ks:=⟨_,rfl⟩;rw[<-hK];refine C2 Tryz.func51 rfl ?_;intro qa qb _ _ _ _ _ qh qi qj _ ql _ qo _ _ qt qu _ _ _ _ qz va;intros;rename_i hA;cbv;refine gn ?_;obtain⟨e1,e2,e3,e4,e5,e6,e7,e8,e9⟩:=l7 hA;obtain⟨s1,s2,s3,s4,s5,s6,-⟩:=o8 hA;obtain⟨r1,r2,-⟩:=n8 hA;have h8:qi 8 op=decide (8<=op):=e8 _ _;have h114:qj s 114=(s == 114):=e9 _ _
  have hl:qj (qz K) (qt tx)=decide (ks.length=tx.size):=by
   rw[e9,r1,s5,hK,L4]
   by_cases h:ks.length=tx.size
   ·rw[h];simp
   ·rw[decide_eq_false h];exact beq_eq_false_iff_ne.2 (by omega)
  have h11:qj op 11=(op == 11):=e9 _ _
  have hem:ql (qo nm) (qo ⟨⟨[]⟩⟩)=decide (nm.toList=[]):=by
   rw[s1,s3,s3,a1w ⟨⟨[]⟩⟩,show H3 ⟨⟨[]⟩⟩=[] from rfl];cases nm.toList <;> rfl
  have hnl:qh n 0=decide (n<0):=e7 _ _;have h7:qj op 7=(op == 7):=e9 _ _;have h10:qj op 10=(op == 10):=e9 _ _;have hn0:qj n 0=(n == 0):=e9 _ _;generalize decide (8<=op)=b8 at *;generalize (s == 114)=b114 at *;generalize hbl:decide (ks.length=tx.size)=bl at *;generalize (op == 11)=b11 at *;generalize r5 nm=bw at *;generalize decide (nm.toList=[])=bem at *;generalize decide (n<0)=bnl at *;generalize (op == 7)=b7 at *;generalize (op == 10)=b10 at *;generalize (n == 0)=bn0 at *;refine j3 hA _ hK2 ?_ ?_
  ·rfl
  cases ok
  ·cbv;refine gn ?_;exact F0 hb
  cbv;refine gn ?_;rw[h8,h114];unfold hdF at hb;cases b8 <;> cases b114
  all_goals
   cbv;refine gn ?_
   first
   | (exact F0 hb;done)
   | skip
  all_goals rw[hl]
  all_goals cases bl
  all_goals
   cbv;refine gn ?_
   first
   | (exact F0 hb;done)
   | skip
  all_goals rw[h11]
  all_goals cases b11
  all_goals
   cbv;refine gn ?_
   try (rw[h11];cbv)
   repeat ((with_reducible apply j2 hA);cbv)
  all_goals first|(rw[hem];cases bem)|(refine j3 hA _ hW ?_ ?_;rfl;cases bw)
  all_goals
   cbv;refine gn ?_
   try (rw[h11];cbv)
   repeat ((with_reducible apply j2 hA);cbv)
   first
   | (exact F0 hb;done)
   | skip
  all_goals first|(rw[hnl];cases bnl)|skip
  all_goals
   cbv;refine gn ?_
   first
   | (exact F0 hb;done)
   | skip
  all_goals first|(rw[h7];cases b7)|skip
  all_goals
   cbv;refine gn ?_
   first
   | (exact F0 hb;done)
   | skip
  all_goals first|(rw[h10];cases b10)|skip
  all_goals
   cbv;refine gn ?_
   first
   | (exact F0 hb;done)
   | skip
  all_goals first|(rw[hn0];cases bn0)|skip
  all_goals
   cbv;refine gn ?_
   first
   | (exact F0 hb;done)
   | skip
  all_goals
   have hb2:v7 r5 ks kk=b:=hb;have hlen:ks.length=tx.size:=of_decide_eq_true hbl;have hkk:=hsome rfl;refine o5 hA (γ:=Int) (λz=>[(7,vi .i64 z),(8,.jk),(11,.jk)]) (λ_=>[]) (λz=>∃k:Nat,z=(k:Int)/\k<=tx.size/\v7 r5 (ks.drop k) (kk.drop k)=b) (λz=>tx.size - z.toNat) 0 ?_ ?_ ?_
   ·exact⟨0,rfl,Nat.zero_le _,hb2⟩
   ·cbv
   ·intro z hinv;cbv;refine gn ?_;obtain⟨k,hz,hk,hE⟩:=hinv;replace hz:z=(k:Int):=hz;replace s5:qt tx=((tx.size:Nat):Int):=s5 tx;have hlt:qh z (qt tx)=decide (k<tx.size):=by rw[e7,s5,hz];exact decide_eq_decide.2 (by omega)
    by_cases h9:k<tx.size
    ·rw[decide_eq_true h9] at hlt;obtain⟨c,hc⟩:∃c,(H3 tx)[k]?=some c:=⟨_,List.getElem?_eq_getElem (by rw[B8];exact h9)⟩;obtain⟨x,hx⟩:∃x,ks[k]?=some x:=⟨_,List.getElem?_eq_getElem (by omega)⟩;have hkc:kk[k]?=some (c.toNat:Int):=by rw[hkk,List.getElem?_map,hc];rfl
     have d1:ks.drop k=x::ks.drop (k+1):=by obtain⟨hi,e⟩:=List.getElem?_eq_some_iff.1 hx;rw[List.drop_eq_getElem_cons hi,e]
     have d2:kk.drop k=(c.toNat:Int)::kk.drop (k+1):=by obtain⟨hi,e⟩:=List.getElem?_eq_some_iff.1 hkc;rw[List.drop_eq_getElem_cons hi,e]
     rw[d1,d2,v7] at hE;have g1:va K z=some (cT x):=by rw[r2,hz,if_pos (by omega),hK];exact a0L hx
     have g2:qu tx z=some (c.toNat:Int):=by rw[s6,hz];exact a3L hc
     have hsp:=ih x (List.mem_of_getElem? hx) (c.toNat:Int) (by have:=hkl.2 x (List.mem_of_getElem? hx);omega) (hkn x (List.mem_of_getElem? hx));have hz1:qa .i64 (qb z 1)=((k+1:Nat):Int):=by rw[e1,e2,hz,IntWalk.i64_in _ (by omega)];omega
     have hm:tx.size - (qa .i64 (qb z 1)).toNat<tx.size - z.toNat:=by rw[hz1,hz];omega
     generalize m8 r5 x (c.toNat:Int)=q at *;generalize (c.toNat:Int)=cc at *;obtain⟨o1,m1,n1,l1⟩:=x;rw[cT] at g1 hsp;generalize rT l1=L1 at *;rw[hlt];cbv;refine gn ?_;rw[g1];cbv;rw[g2];cbv;refine j4 hA _ hsp ?_;cases q
     ·cbv;refine gn ?_;exact F0 hE
     ·cbv;refine gn ?_;exact⟨_,⟨k+1,hz1,h9,hE⟩,hm,by cbv⟩
    ·rw[decide_eq_false h9] at hlt;rw[List.drop_eq_nil_of_le (by omega),v7] at hE;rw[hlt];cbv;refine gn ?_;exact F0 hE
end Go.Proofs.YtncijebklnbhlaaGreatDoor.Vm
end

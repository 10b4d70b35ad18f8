/- Part 18 of the proof. Conditions: none. -/
import Derived.Test.YtncijebklnbhlaaGreatDoorQ4
import Derived.Test.YtncijebklnbhlaaGreatDoorQ13
import Derived.Test.YtncijebklnbhlaaGreatDoorQ17
set_option linter.all false
set_option linter.unusedVariables false
set_option linter.unusedSimpArgs false
section
namespace Go.Proofs.YtncijebklnbhlaaGreatDoor.Vm
open Go.RowKit
set_option maxRecDepth 100000
set_option maxHeartbeats 4000000
theorem a9i (nm:ByteArray) (n:Int) (ks:List Ty) (op:Int) (h:op=1\/op=2\/op=3):j5 20 [.ag (cT (.mk op nm n ks))] [.one (.sc (.string (bx (if op=1 then [73,110,116] else if op=2 then [66,111,111,108] else [63]))))]:=by
 rw[cT];generalize rT ks=K
 rcases h with rfl|rfl|rfl
 ·rw[if_pos rfl];show j5 _ _ [.one (.sc (.string ⟨#[73,110,116]⟩))];refine C2 Tryz.func20 rfl λqa qb qc qd qe qf qg qh qi qj qk ql qm qo qp qq qt qu qv qw qx qy qz va vc vd ve vf vg vh vj vk vl vm vn vo vp vq vr vt vu vv vw hA=>?_
  obtain⟨e1,e2,e3,e4,e5,e6,e7,e8,e9⟩:=l7 hA;have h1:qj 1 1=true:=e9 _ _
  iterate 2 (try cbv;repeat ((first|with_reducible apply j2 hA|rw[h1]);cbv))
 ·rw[if_neg (by decide),if_pos rfl];show j5 _ _ [.one (.sc (.string ⟨#[66,111,111,108]⟩))];refine C2 Tryz.func20 rfl λqa qb qc qd qe qf qg qh qi qj qk ql qm qo qp qq qt qu qv qw qx qy qz va vc vd ve vf vg vh vj vk vl vm vn vo vp vq vr vt vu vv vw hA=>?_
  obtain⟨e1,e2,e3,e4,e5,e6,e7,e8,e9⟩:=l7 hA;have h1:qj 2 1=false:=e9 _ _;have h2:qj 2 2=true:=e9 _ _
  iterate 2 (try cbv;repeat ((first|with_reducible apply j2 hA|rw[h1]|rw[h2]);cbv))
 ·rw[if_neg (by decide),if_neg (by decide)];show j5 _ _ [.one (.sc (.string ⟨#[63]⟩))];refine C2 Tryz.func20 rfl λqa qb qc qd qe qf qg qh qi qj qk ql qm qo qp qq qt qu qv qw qx qy qz va vc vd ve vf vg vh vj vk vl vm vn vo vp vq vr vt vu vv vw hA=>?_
  obtain⟨e1,e2,e3,e4,e5,e6,e7,e8,e9⟩:=l7 hA;have h1:qj 3 1=false:=e9 _ _;have h2:qj 3 2=false:=e9 _ _;have h3:qj 3 3=true:=e9 _ _
  iterate 2 (try cbv;repeat ((first|with_reducible apply j2 hA|rw[h1]|rw[h2]|rw[h3]);cbv))
theorem b9E (nm:ByteArray) (n:Int) (ks:List Ty) (h0:0<=n) (h1:n<=9223372036854775807):j5 20 [.ag (cT (.mk 7 nm n ks))] [.one (.sc (.string (bx (39::Lib.itoa n))))]:=by
 have hi:=b8u n.toNat n (Nat.le_refl _) h0 h1;have hl:=Lib.itoa_length_le n (by omega) h1;rw[cT];generalize rT ks=K;obtain⟨RES,hRES⟩:∃S,S=bx (39::Lib.itoa n):=⟨_,rfl⟩;rw[<-hRES];have z1:(⟨#[39]⟩:ByteArray).size+(bx (Lib.itoa n)).size<=4611686018427387904:=by rw[s8,show (⟨#[39]⟩:ByteArray).size=1 from rfl];omega
 refine C2 Tryz.func20 rfl ?_;intro _ _ _ _ _ _ _ _ _ qj _ _ _ _ qp;intros;rename_i hA;obtain⟨e1,e2,e3,e4,e5,e6,e7,e8,e9⟩:=l7 hA;obtain⟨s1,s2,s3,s4,s5,s6,s7⟩:=o8 hA;have h1:qj 7 1=false:=e9 _ _;have h2:qj 7 2=false:=e9 _ _;have h3:qj 7 3=false:=e9 _ _;have h5:qj 7 5=false:=e9 _ _;have h6:qj 7 6=false:=e9 _ _;have h7:qj 7 7=true:=e9 _ _;have k1:qp ⟨#[39]⟩ (bx (Lib.itoa n))=RES:=by rw[s4,show (⟨#[39]⟩:ByteArray)=bx [39] from rfl,a13,hRES];rfl
 generalize bx (Lib.itoa n)=NT at *
 iterate 2 (try cbv;repeat ((first|with_reducible apply j2 hA|rw[h1]|rw[h2]|rw[h3]|rw[h5]|rw[h6]|rw[h7]|rw[k1]|refine j3 hA _ hi rfl ?_|refine j4 hA _ hi ?_|refine n9 hA z1 ?_);cbv))
theorem b9F (nm:ByteArray) (n:Int) (a:Ty) (h:j5 34 [.ag (cT a)] [.one (.sc (.string (b3T a)))]) (hl:(B1 l8 (j7 a)).length<=67108864):j5 20 [.ag (cT (.mk 5 nm n [a]))] [.one (.sc (.string (bx (123::(B1 l8 (j7 a)++[125])))))]:=by
 unfold b3T at h;rw[cT,rT,rT];obtain⟨a0,a1,a2,a3,ha⟩:=l6 a;rw[ha] at h ⊢;obtain⟨RES,hRES⟩:∃S,S=bx (123::(B1 l8 (j7 a)++[125])):=⟨_,rfl⟩;rw[<-hRES];obtain⟨M,hM⟩:∃S,S=bx (123::B1 l8 (j7 a)):=⟨_,rfl⟩;have z1:(⟨#[123]⟩:ByteArray).size+(bx (B1 l8 (j7 a))).size<=4611686018427387904:=by rw[s8,show (⟨#[123]⟩:ByteArray).size=1 from rfl];omega
 have z2:M.size+(⟨#[125]⟩:ByteArray).size<=4611686018427387904:=by rw[hM,s8,show (⟨#[125]⟩:ByteArray).size=1 from rfl,List.length_cons];omega
 obtain⟨K,hK⟩:∃K,K=[[a0,a1,a2,a3]]:=⟨_,rfl⟩;rw[<-hK];refine C2 Tryz.func20 rfl ?_;intro _ _ _ _ _ _ _ _ _ qj _ _ _ _ qp _ _ _ _ _ _ _ _ va;intros;rename_i hA;obtain⟨e1,e2,e3,e4,e5,e6,e7,e8,e9⟩:=l7 hA;obtain⟨r1,r2,r3,r4⟩:=n8 hA;obtain⟨s1,s2,s3,s4,s5,s6,s7⟩:=o8 hA;have h1:qj 5 1=false:=e9 _ _;have h2:qj 5 2=false:=e9 _ _;have h3:qj 5 3=false:=e9 _ _;have h5:qj 5 5=true:=e9 _ _;have k1:qp ⟨#[123]⟩ (bx (B1 l8 (j7 a)))=M:=by rw[s4,show (⟨#[123]⟩:ByteArray)=bx [123] from rfl,a13,hM];rfl
 have k2:qp M ⟨#[125]⟩=RES:=by rw[s4,hM,show (⟨#[125]⟩:ByteArray)=bx [125] from rfl,a13,hRES];rfl
 have g0:va K 0=some [a0,a1,a2,a3]:=by rw[r2,hK];rfl
 generalize bx (B1 l8 (j7 a))=NT at *
 iterate 2 (try cbv;repeat ((first|with_reducible apply j2 hA|rw[h1]|rw[h2]|rw[h3]|rw[h5]|rw[g0]|rw[k1]|rw[k2]|refine j3 hA _ h rfl ?_|refine j4 hA _ h ?_|refine n9 hA z1 ?_|refine n9 hA z2 ?_);cbv))
theorem b9G (nm:ByteArray) (n:Int) (a:Ty) (h:j5 34 [.ag (cT a)] [.one (.sc (.string (b3T a)))]) (hl:(B1 l8 (j7 a)).length<=67108864):j5 20 [.ag (cT (.mk 6 nm n [a]))] [.one (.sc (.string (bx (60::(B1 l8 (j7 a)++[62])))))]:=by
 unfold b3T at h;rw[cT,rT,rT];obtain⟨a0,a1,a2,a3,ha⟩:=l6 a;rw[ha] at h ⊢;obtain⟨RES,hRES⟩:∃S,S=bx (60::(B1 l8 (j7 a)++[62])):=⟨_,rfl⟩;rw[<-hRES];obtain⟨M,hM⟩:∃S,S=bx (60::B1 l8 (j7 a)):=⟨_,rfl⟩;have z1:(⟨#[60]⟩:ByteArray).size+(bx (B1 l8 (j7 a))).size<=4611686018427387904:=by rw[s8,show (⟨#[60]⟩:ByteArray).size=1 from rfl];omega
 have z2:M.size+(⟨#[62]⟩:ByteArray).size<=4611686018427387904:=by rw[hM,s8,show (⟨#[62]⟩:ByteArray).size=1 from rfl,List.length_cons];omega
 obtain⟨K,hK⟩:∃K,K=[[a0,a1,a2,a3]]:=⟨_,rfl⟩;rw[<-hK];refine C2 Tryz.func20 rfl ?_;intro _ _ _ _ _ _ _ _ _ qj _ _ _ _ qp _ _ _ _ _ _ _ _ va;intros;rename_i hA;obtain⟨e1,e2,e3,e4,e5,e6,e7,e8,e9⟩:=l7 hA;obtain⟨r1,r2,r3,r4⟩:=n8 hA;obtain⟨s1,s2,s3,s4,s5,s6,s7⟩:=o8 hA;have h1:qj 6 1=false:=e9 _ _;have h2:qj 6 2=false:=e9 _ _;have h3:qj 6 3=false:=e9 _ _;have h5:qj 6 5=false:=e9 _ _;have h6:qj 6 6=true:=e9 _ _;have k1:qp ⟨#[60]⟩ (bx (B1 l8 (j7 a)))=M:=by rw[s4,show (⟨#[60]⟩:ByteArray)=bx [60] from rfl,a13,hM];rfl
 have k2:qp M ⟨#[62]⟩=RES:=by rw[s4,hM,show (⟨#[62]⟩:ByteArray)=bx [62] from rfl,a13,hRES];rfl
 have g0:va K 0=some [a0,a1,a2,a3]:=by rw[r2,hK];rfl
 generalize bx (B1 l8 (j7 a))=NT at *
 iterate 2 (try cbv;repeat ((first|with_reducible apply j2 hA|rw[h1]|rw[h2]|rw[h3]|rw[h5]|rw[h6]|rw[g0]|rw[k1]|rw[k2]|refine j3 hA _ h rfl ?_|refine j4 hA _ h ?_|refine n9 hA z1 ?_|refine n9 hA z2 ?_);cbv))
theorem b9H (nm:ByteArray) (n:Int) (a b:Ty) (x y:List UInt8) (h:j5 20 [.ag (cT a)] [.one (.sc (.string (bx x)))]) (hh:j5 20 [.ag (cT b)] [.one (.sc (.string (bx y)))]) (hx:x.length<=67108864) (hy:y.length<=67108864) :
  j5 20 [.ag (cT (.mk 4 nm n [a,b]))] [.one (.sc (.string (bx ((if a.op=4 then 40::(x++[41]) else x)++(45::62::y)))))]:=by
 rw[cT,rT,rT,rT];rw[a5b a] at h ⊢;obtain⟨b0,b1,b2,b3,hb⟩:=l6 b;rw[hb] at hh ⊢;obtain⟨aop,haop⟩:∃o,o=a.op:=⟨_,rfl⟩;rw[<-haop] at h ⊢;generalize a.name=anm at *;generalize a.n=an at *;generalize rT a.kids=aK at *;obtain⟨RES,hRES⟩:∃S,S=bx ((if aop=4 then 40::(x++[41]) else x)++(45::62::y)):=⟨_,rfl⟩;rw[<-hRES];obtain⟨K,hK⟩:∃K,K=[[.sc (.int .u8 aop),.sc (.string anm),.sc (.int .i64 an),.sl 4 aK],[b0,b1,b2,b3]]:=⟨_,rfl⟩;rw[<-hK];refine C2 Tryz.func20 rfl ?_;intro _ _ _ _ _ _ _ _ _ qj _ _ _ _ qp _ _ _ _ _ _ _ _ va;intros;rename_i hA;obtain⟨e1,e2,e3,e4,e5,e6,e7,e8,e9⟩:=l7 hA;obtain⟨r1,r2,r3,r4⟩:=n8 hA;obtain⟨s1,s2,s3,s4,s5,s6,s7⟩:=o8 hA;have hcat:∀x y,qp (bx x) (bx y)=bx (x++y):=λx y=>by rw[s4,a13]
 have h1:qj 4 1=false:=e9 _ _;have h2:qj 4 2=false:=e9 _ _;have h3:qj 4 3=false:=e9 _ _;have h5:qj 4 5=false:=e9 _ _;have h6:qj 4 6=false:=e9 _ _;have h7:qj 4 7=false:=e9 _ _;have g0:va K 0=some [.sc (.int .u8 aop),.sc (.string anm),.sc (.int .i64 an),.sl 4 aK]:=by rw[r2,hK];rfl
 have g1:va K 1=some [b0,b1,b2,b3]:=by rw[r2,hK];rfl
 by_cases hop:aop=4
 ·have q4:qj aop 4=true:=by rw[e9,hop];rfl
  rw[if_pos hop] at hRES;obtain⟨M0,hM0⟩:∃S,S=bx (40::x):=⟨_,rfl⟩;obtain⟨M1,hM1⟩:∃S,S=bx (40::x++[41]):=⟨_,rfl⟩;obtain⟨M2,hM2⟩:∃S,S=bx (40::x++[41]++[45,62]):=⟨_,rfl⟩;have k0:qp ⟨#[40]⟩ (bx x)=M0:=by rw[show (⟨#[40]⟩:ByteArray)=bx [40] from rfl,hcat,hM0];rfl
  have k1:qp M0 ⟨#[41]⟩=M1:=by rw[hM0,show (⟨#[41]⟩:ByteArray)=bx [41] from rfl,hcat,hM1]
  have k2:qp M1 ⟨#[45,62]⟩=M2:=by rw[hM1,show (⟨#[45,62]⟩:ByteArray)=bx [45,62] from rfl,hcat,hM2]
  have k3:qp M2 (bx y)=RES:=by rw[hM2,hcat,hRES];simp
  have z0:(⟨#[40]⟩:ByteArray).size+(bx x).size<=4611686018427387904:=by rw[s8,show (⟨#[40]⟩:ByteArray).size=1 from rfl];omega
  have z1:M0.size+(⟨#[41]⟩:ByteArray).size<=4611686018427387904:=by rw[hM0,s8,show (⟨#[41]⟩:ByteArray).size=1 from rfl,List.length_cons];omega
  have z2:M1.size+(⟨#[45,62]⟩:ByteArray).size<=4611686018427387904:=by rw[hM1,s8,show (⟨#[45,62]⟩:ByteArray).size=2 from rfl];simp only[List.length_append,List.length_cons,List.length_nil];omega
  have z3:M2.size+(bx y).size<=4611686018427387904:=by rw[hM2,s8,s8];simp only[List.length_append,List.length_cons,List.length_nil];omega
  generalize bx x=X at *;generalize bx y=Y at *
  iterate 2 (try cbv;repeat ((first|with_reducible apply j2 hA|rw[h1]|rw[h2]|rw[h3]|rw[h5]|rw[h6]|rw[h7]|rw[g0]|rw[g1]|rw[q4]|rw[k0]|rw[k1]|rw[k2]|rw[k3]|refine j3 hA _ h rfl ?_|refine j4 hA _ h ?_|refine j3 hA _ hh rfl ?_|refine j4 hA _ hh ?_|refine n9 hA z0 ?_|refine n9 hA z1 ?_|refine n9 hA z2 ?_|refine n9 hA z3 ?_);cbv))
 ·have q4:qj aop 4=false:=by rw[e9];simpa using hop
  rw[if_neg hop] at hRES;obtain⟨M2,hM2⟩:∃S,S=bx (x++[45,62]):=⟨_,rfl⟩;have k2:qp (bx x) ⟨#[45,62]⟩=M2:=by rw[show (⟨#[45,62]⟩:ByteArray)=bx [45,62] from rfl,hcat,hM2]
  have k3:qp M2 (bx y)=RES:=by rw[hM2,hcat,hRES];simp
  have z2:(bx x).size+(⟨#[45,62]⟩:ByteArray).size<=4611686018427387904:=by rw[s8,show (⟨#[45,62]⟩:ByteArray).size=2 from rfl];omega
  have z3:M2.size+(bx y).size<=4611686018427387904:=by rw[hM2,s8,s8];simp only[List.length_append,List.length_cons,List.length_nil];omega
  generalize bx x=X at *;generalize bx y=Y at *
  iterate 2 (try cbv;repeat ((first|with_reducible apply j2 hA|rw[h1]|rw[h2]|rw[h3]|rw[h5]|rw[h6]|rw[h7]|rw[g0]|rw[g1]|rw[q4]|rw[k2]|rw[k3]|refine j3 hA _ h rfl ?_|refine j4 hA _ h ?_|refine j3 hA _ hh rfl ?_|refine j4 hA _ hh ?_|refine n9 hA z2 ?_|refine n9 hA z3 ?_);cbv))
theorem b5X {t x:Ty} (h:a1C t) (hx:x∈t.parts):a1C x:=λy hy=>h y (C1 hy hx)
theorem b0B:∀(m:Nat) (t:Ty),t.parts.length<=m->m<=1048576->m8 r5 t 116=true->a1C t->j5 20 [.ag (cT t)] [.one (.sc (.string (a4G (j7 t))))]:=by
 intro m
 induction m with
 | zero=>intro t h;have:=v6 t;omega
 | succ m ih =>
  intro t hm hm2 hs hw;have hkl:=A4 t;obtain⟨h0,hc⟩:=b0p hs;have hn:=b06 hw.self.2.2
  have hlen:∀x∈t.kids,∀c,m8 r5 x c=true->Mod (j7 x)/\(j7 x).parts.length<=m:=λx hx c hxs=>by
   have h1:=hkl.2 x hx;refine⟨a8b (a2r _ x c (Nat.le_refl _) hxs) λy hy hv=>b06 (hw.kid hx y (a6U _ x c (Nat.le_refl _) hxs y hy hv)).2.2,?_⟩;rw[a0o _ x (Nat.le_refl _) (B9 hxs)];omega
  have ht:=Ty.eta t
  rcases hc with⟨hop,hk⟩|⟨hop,a,b,hk,hsa,hsb⟩|⟨hop,a,hk,hsa⟩
  ·rw[C7 (by omega),hk,List.map_nil]
   rcases hop with h|h|h|h
   ·rw[ht,h,hk];exact a9i _ _ _ 1 (.inl rfl)
   ·rw[ht,h,hk];exact a9i _ _ _ 2 (.inr (.inl rfl))
   ·rw[ht,h,hk];exact a9i _ _ _ 3 (.inr (.inr rfl))
   ·rw[ht,h,hk];have:=b9E t.name t.n [] h0 hn;unfold a4G;rw[show l8 (.mk (Ty.mk 7 t.name t.n []).op (Ty.mk 7 t.name t.n []).name (Ty.mk 7 t.name t.n []).n [])=39::Lib.itoa t.n by rw[L6];rfl];exact this
  ·have h1:=hkl.2 a (by rw[hk];simp);have h2:=hkl.2 b (by rw[hk];simp);have ha:=ih a (by omega) (by omega) hsa (hw.kid (by rw[hk];simp));have hb:=ih b (by omega) (by omega) hsb (hw.kid (by rw[hk];simp));obtain⟨ma,la⟩:=hlen a (by rw[hk];simp) _ hsa;obtain⟨mb,lb⟩:=hlen b (by rw[hk];simp) _ hsb;have xa:=a3X ma (by omega);have xb:=a3X mb (by omega);have hp:=b9H t.name t.n a b (l8 (j7 a)) (l8 (j7 b)) ha hb xa xb;rw[C7 (by omega),hk];unfold a4G;rw[show l8 (.mk t.op t.name t.n ([a,b].map j7))=E9 l8 (j7 a)++(45::62::l8 (j7 b)) by rw[hop,L6];rfl];unfold E9;rw[a3P (B9 hsa).self];rw[show cT t=cT (.mk 4 t.name t.n [a,b]) from congrArg cT (by rw[<-hop,<-hk];exact ht)];exact hp
  ·have h1:=hkl.2 a (by rw[hk];simp);obtain⟨ma,la⟩:=hlen a (by rw[hk];simp) _ hsa
   have xa:(B1 l8 (j7 a)).length<=67108864:=by
    have:=b9r ma true;unfold B1;omega
   have hr:=b5W r5 a hsa (B9 hsa).self (by omega) (λx hx=>b06 (hw.kid (by rw[hk];simp) x hx).2.2) xa λf hf=>by
    have h3:=F3 _ a (Nat.le_refl _) f hf;have h4:=Y0 _ a (Nat.le_refl _) f hf;exact ih f.2 (by omega) (by omega) ((J5 hsa).1 f hf).2 (b5X (hw.kid (by rw[hk];simp)) h4)
   rw[C7 (by omega),hk];unfold a4G
   rcases hop with h|h
   ·have hp:=b9F t.name t.n a hr xa;rw[show l8 (.mk t.op t.name t.n ([a].map j7))=123::(B1 l8 (j7 a)++[125]) by rw[h,L6];rfl];rw[show cT t=cT (.mk 5 t.name t.n [a]) from congrArg cT (by rw[<-h,<-hk];exact ht)];exact hp
   ·have hp:=b9G t.name t.n a hr xa;rw[show l8 (.mk t.op t.name t.n ([a].map j7))=60::(B1 l8 (j7 a)++[62]) by rw[h,L6];rfl];rw[show cT t=cT (.mk 6 t.name t.n [a]) from congrArg cT (by rw[<-h,<-hk];exact ht)];exact hp
theorem b3V (t:Ty) (hN:t.parts.length<=1048576) (hw:a1C t) (hs:m8 r5 t 116=true):j5 20 [.ag (cT t)] [.one (.sc (.string (a4G (j7 t))))]:=b0B _ t (Nat.le_refl _) hN hs hw

theorem a6Y (s:ByteArray):(s.toList == (⟨⟨[]⟩⟩:ByteArray).toList)=(s.data.toList == []):=by rw[ByteArray.toList_eq,ByteArray.toList_eq]
theorem b7I (t:Ty):j5 58 [.ag (cT t)] [.one (.sc (.bool (J7 t)))]:=by
 obtain⟨op,nm,n,ks⟩:=t;obtain⟨c1,h1⟩:∃c,c=(nm.data.toList == []):=⟨_,rfl⟩;obtain⟨c0,h0⟩:∃c,c=(op == 0):=⟨_,rfl⟩;obtain⟨c2,h2⟩:∃c,c=(n == 0):=⟨_,rfl⟩;have h3:((rT ks).length:Int)=(ks.length:Int):=by rw[L4]
 have h4:ks.isEmpty=((ks.length:Int) == 0):=by
  cases ks with
  | nil=>rfl
  | cons k ks=>exact(beq_false_of_ne (show ((k::ks).length:Int)≠0 by rw[List.length_cons];omega)).symm
 rw[J7,<-h0,<-h1,<-h2,h4,cT];obtain⟨c3,h5⟩:∃c,c=((ks.length:Int) == 0):=⟨_,rfl⟩;rw[<-h5];obtain⟨m,hm⟩:∃m:Int,m=(ks.length:Int):=⟨_,rfl⟩;rw[<-hm] at h3 h5;generalize rT ks=K at *;clear h4 hm;refine C2 Tryz.func58 rfl ?_;intro _ _ _ _ _ _ _ _ _ _ _ ql _ qo;intros;rename_i hA;obtain⟨s1,s2,s3,s4,s5,s6,-⟩:=o8 hA;have q0:=eb hA h0.symm;have q1:ql (qo nm) (qo ⟨⟨[]⟩⟩)=c1:=by rw[s1,s3,s3,h1];exact a6Y nm
 have q2:=eb hA h2.symm;have q3:=en hA h3;have q4:=eb hA h5.symm;cases c0
 ·try cbv;exact fr
 cases c1
 ·try cbv;exact fr
 cases c2
 ·try cbv;exact fr
 ·try cbv;exact fr
theorem b2W (s:ByteArray) (hs:s.size<=4611686018427387904) (b:Bool):j5 39 [.one (.sc (.string s)),.one (.sc (.bool b))] [.one (.sc (.bool (T9 s b)))]:=by
 have h1:=a9N s hs
 have hno:(s.data.toList == [])=true->r5 s=false:=λh=>by
  have h:s.data.toList=[]:=by simpa using h
  have hz:s.size=0:=by rw[<-ByteArray.size_data,<-Array.length_toList,h];rfl
  unfold r5 M7;rw[hz,decide_eq_false (show ¬0<0 by omega),Bool.and_false,Bool.false_and,Bool.and_false]
 obtain⟨c1,h2⟩:∃c,c=(s.data.toList == []):=⟨_,rfl⟩;unfold T9;rw[<-h2] at hno ⊢;obtain⟨w,hw⟩:∃w,w=r5 s:=⟨_,rfl⟩;rw[<-hw] at hno h1 ⊢;refine C2 Tryz.func39 rfl ?_;intro _ _ _ _ _ _ _ _ _ _ _ ql _ qo;intros;rename_i hA;obtain⟨s1,s2,s3,s4,s5,s6,-⟩:=o8 hA;have q1:ql (qo s) (qo ⟨⟨[]⟩⟩)=c1:=by rw[s1,s3,s3,h2];exact a6Y s
 cases c1
 ·cases b
  ·try cbv;exact fr
  ·try cbv;exact fr
 ·obtain rfl:=hno rfl;cases b
  ·try cbv;exact fr
  ·try cbv;exact fr
theorem b5Y (op:Int) (nm ar:ByteArray) (n:Int) (h:Bool) (a:Ty) (ks:List Tm):j5 37 [.ag (cM (.mk op nm ar n h a ks))] [.one (.sc (.bool (if op=33 then decide (0<=n) else if op=34 then n == 0 || n == 1 else n == 0)))]:=by
 obtain⟨a0,a1,a2,a3,haa⟩:=l6 a;rw[cM,haa];generalize rM ks=K at *
 by_cases h1:op=33
 ·rw[if_pos h1];subst h1;obtain⟨c,hc⟩:∃c,c=decide (0<=n):=⟨_,rfl⟩;rw[<-hc];refine C2 Tryz.func37 rfl λqa qb qc qd qe qf qg qh qi qj qk ql qm qo qp qq qt qu qv qw qx qy qz va vc vd ve vf vg vh vj vk vl vm vn vo vp vq vr vt vu vv vw hA=>?_
  have q0:qj 33 33=true:=eb hA rfl;have q1:=em hA hc.symm
  try cbv;exact fr
 rw[if_neg h1]
 by_cases h2:op=34
 ·rw[if_pos h2];subst h2;obtain⟨c,hc⟩:∃c,c=(n == 0):=⟨_,rfl⟩;obtain⟨d,hd⟩:∃d,d=(n == 1):=⟨_,rfl⟩;rw[<-hc,<-hd];refine C2 Tryz.func37 rfl λqa qb qc qd qe qf qg qh qi qj qk ql qm qo qp qq qt qu qv qw qx qy qz va vc vd ve vf vg vh vj vk vl vm vn vo vp vq vr vt vu vv vw hA=>?_
  have q0:qj 34 33=false:=eb hA rfl;have q1:qj 34 34=true:=eb hA rfl;have q2:=eb hA hc.symm;have q3:=eb hA hd.symm;cases c
  ·try cbv;exact fr
  ·try cbv;exact fr
 rw[if_neg h2];obtain⟨c,hc⟩:∃c,c=(n == 0):=⟨_,rfl⟩;rw[<-hc];refine C2 Tryz.func37 rfl λqa qb qc qd qe qf qg qh qi qj qk ql qm qo qp qq qt qu qv qw qx qy qz va vc vd ve vf vg vh vj vk vl vm vn vo vp vq vr vt vu vv vw hA=>?_
 have q0:qj op 33=false:=eb hA (beq_false_of_ne h1);have q1:qj op 34=false:=eb hA (beq_false_of_ne h2);have q2:=eb hA hc.symm
 try cbv;exact fr
theorem a0D (s:ByteArray) (l:List UInt8):(s.toList == (⟨⟨l⟩⟩:ByteArray).toList)=(l == s.data.toList):=by rw[ByteArray.toList_eq,ByteArray.toList_eq,Bool.beq_comm]
theorem b7J (s:ByteArray):j5 40 [.one (.sc (.string s))] [.one (.sc (.bool (a12.any λx=>x.data.toList == s.data.toList)))]:=by
 have e:(a12.any λx=>x.data.toList == s.data.toList)=(([43] == s.data.toList) || (([45] == s.data.toList) || (([42] == s.data.toList) || (([47] == s.data.toList) || (([37] == s.data.toList) || (([60] == s.data.toList) || (([61,61] == s.data.toList) || false))))))):=rfl;rw[e];have t0:=a0D s [43];have t1:=a0D s [45];have t2:=a0D s [42];have t3:=a0D s [47];have t4:=a0D s [37];have t5:=a0D s [60];have t6:=a0D s [61,61];generalize ([43] == s.data.toList)=c0 at *;generalize ([45] == s.data.toList)=c1 at *;generalize ([42] == s.data.toList)=c2 at *;generalize ([47] == s.data.toList)=c3 at *;generalize ([37] == s.data.toList)=c4 at *;generalize ([60] == s.data.toList)=c5 at *;generalize ([61,61] == s.data.toList)=c6 at *;refine C2 Tryz.func40 rfl ?_;intro _ _ _ _ _ _ _ _ _ _ _ ql _ qo;intros;rename_i hA;obtain⟨s1,s2,s3,s4,s5,s6,-⟩:=o8 hA;have q0:ql (qo s) (qo ⟨⟨[43]⟩⟩)=c0:=by rw[s1,s3,s3];exact t0
 have q1:ql (qo s) (qo ⟨⟨[45]⟩⟩)=c1:=by rw[s1,s3,s3];exact t1
 have q2:ql (qo s) (qo ⟨⟨[42]⟩⟩)=c2:=by rw[s1,s3,s3];exact t2
 have q3:ql (qo s) (qo ⟨⟨[47]⟩⟩)=c3:=by rw[s1,s3,s3];exact t3
 have q4:ql (qo s) (qo ⟨⟨[37]⟩⟩)=c4:=by rw[s1,s3,s3];exact t4
 have q5:ql (qo s) (qo ⟨⟨[60]⟩⟩)=c5:=by rw[s1,s3,s3];exact t5
 have q6:ql (qo s) (qo ⟨⟨[61,61]⟩⟩)=c6:=by rw[s1,s3,s3];exact t6
 cases c0
 ·cases c1
  ·cases c2
   ·cases c3
    ·cases c4
     ·cases c5
      ·cases c6
       ·try cbv;exact fr
       ·try cbv;exact fr
      ·try cbv;exact fr
     ·try cbv;exact fr
    ·try cbv;exact fr
   ·try cbv;exact fr
  ·try cbv;exact fr
 ·try cbv;exact fr
theorem b9I (op:Int) (b:Bool):j5 41 [.one (.sc (.int .u8 op)),.one (.sc (.bool b))] [.one (.sc (.bool (op == 49 || (op == 50 && b))))]:=by
 obtain⟨c0,h0⟩:∃c,c=(op == 49):=⟨_,rfl⟩;obtain⟨c1,h1⟩:∃c,c=(op == 50):=⟨_,rfl⟩;rw[<-h0,<-h1];refine C2 Tryz.func41 rfl ?_;intros;rename_i hA;have q0:=eb hA h0.symm;have q1:=eb hA h1.symm;cases c0
 ·cases c1
  ·try cbv;exact fr
  ·try cbv;exact fr
 ·try cbv;exact fr
def shD (op:Int):List D×Bool:=match shM op with
 | some (x,y,c,v)=>([.sc (.bool x),.sc (.bool y),.sc (.int .i64 (if c=99 then -1 else (c:Int))),.sc (.int .i64 (v:Int))],true)
 | none=>([.sc (.bool false),.sc (.bool false),.sc (.int .i64 0),.sc (.int .i64 0)],false)
theorem b5Z (op:Int):j5 36 [.one (.sc (.int .u8 op))] [.ag (shD op).1,.one (.sc (.bool (shD op).2))]:=by
 by_cases h:op=32\/op=33\/op=34\/op=35\/op=36\/op=37\/op=38\/op=39\/op=40\/op=41\/op=42\/op=43\/op=44\/op=45\/op=46\/op=47\/op=48\/op=49\/op=50\/op=51
 ·rcases h with rfl|rfl|rfl|rfl|rfl|rfl|rfl|rfl|rfl|rfl|rfl|rfl|rfl|rfl|rfl|rfl|rfl|rfl|rfl|rfl
  all_goals
   unfold shD shM;simp only[Int.reduceEq,if_true,if_false,or_true,true_or,or_false,false_or,or_self,Nat.reduceEqDiff];refine C2 Tryz.func36 rfl λqa qb qc qd qe qf qg qh qi qj qk ql qm qo qp qq qt qu qv qw qx qy qz va vc vd ve vf vg vh vj vk vl vm vn vo vp vq vr vt vu vv vw hA=>?_
   obtain⟨e1,e2,e3,e4,e5,e6,e7,e8,e9⟩:=l7 hA
   iterate 2 (try cbv;repeat ((first|with_reducible apply j2 hA|rw[e9]);cbv))
   try simp (maxSteps:=4000000) only [nc] at *
   exact⟨rfl,trivial⟩
 ·have e:shD op=([.sc (.bool false),.sc (.bool false),.sc (.int .i64 0),.sc (.int .i64 0)],false):=by
   unfold shD
   rw[show shM op=none by
    unfold shM;simp only[not_or] at h;obtain⟨h1,h2,h3,h4,h5,h6,h7,h8,h9,i0,i1,i2,i3,i4,i5,i6,i7,i8,i9,j0⟩:=h
    simp only[h1,h2,h3,h4,h5,h6,h7,h8,h9,i0,i1,i2,i3,i4,i5,i6,i7,i8,i9,j0,or_self,if_false]]
  rw[e]
  have hc:∀k:Int,(op == k)=(!([32,33,34,35,36,37,38,39,40,41,42,43,44,45,46,47,48,49,50,51]:List Int).contains k && (op == k)):=λk=>by
   by_cases hk:op=k
   ·have:([32,33,34,35,36,37,38,39,40,41,42,43,44,45,46,47,48,49,50,51]:List Int).contains k=false:=by
     rw[<-hk,List.contains_eq_mem,decide_eq_false_iff_not];intro hm;simp only[List.mem_cons,List.not_mem_nil,or_false] at hm;exact h hm
    rw[this];rfl
   ·rw[beq_false_of_ne hk,Bool.and_false]
  refine C2 Tryz.func36 rfl λqa qb qc qd qe qf qg qh qi qj qk ql qm qo qp qq qt qu qv qw qx qy qz va vc vd ve vf vg vh vj vk vl vm vn vo vp vq vr vt vu vv vw hA=>?_
  obtain⟨e1,e2,e3,e4,e5,e6,e7,e8,e9⟩:=l7 hA;have hq:∀k,qj op k=(!([32,33,34,35,36,37,38,39,40,41,42,43,44,45,46,47,48,49,50,51]:List Int).contains k && (op == k)):=λk=>by rw[e9];exact hc k
  iterate 2 (try cbv;repeat ((first|with_reducible apply j2 hA|rw[hq]);cbv))
def a14 (t:Ty):Bool:=H1 t && (T8 t).isEmpty
theorem b6a (t:Ty) (ht:Sm t) (hN:t.parts.length<=1048576) (hnm:∀x∈t.parts,x.name.size<=1048576):j5 57 [.ag (cT t)] [.one (.sc (.bool (a14 t)))]:=by
 have h0:=a6S t hN hnm;have h1:=b7B t ht;rw[show (x9 t 116 || x9 t 114)=H1 t from rfl] at h0;unfold a14;obtain⟨a0,a1,a2,a3,haa⟩:=l6 t;rw[haa] at h0 h1 ⊢;obtain⟨b,hb⟩:∃b,b=H1 t:=⟨_,rfl⟩;rw[<-hb] at h0 h1 ⊢;obtain⟨V,hV⟩:∃V,V=rI (if b=true then T8 t else []):=⟨_,rfl⟩;obtain⟨c,hc⟩:∃c,c=((V.length:Int) == 0):=⟨_,rfl⟩
 have hcb:b=true->(T8 t).isEmpty=c:=λh=>by
  rw[hc,hV,if_pos h];cases hv:T8 t with
  | nil=>rfl
  | cons x l=>exact(beq_false_of_ne (show ((rI (x::l)).length:Int)≠0 by unfold rI;rw[List.length_map,List.length_cons];omega)).symm
 rw[<-hV] at h1;obtain⟨m,hm⟩:∃m:Int,m=(V.length:Int):=⟨_,rfl⟩;rw[<-hm] at hc;refine C2 Tryz.func57 rfl ?_;intros;rename_i hA;have q0:=en hA hm.symm;have q1:=eb hA hc.symm;cases b
 ·try cbv;exact fr
 ·rw[hcb rfl]
  try cbv;exact fr
theorem b7K (op:Int) (nm ar:ByteArray) (n:Int) (h:Bool) (a:Ty) (ks:List Tm) (v:Nat) (hv:v<=100) (ht:Sm a) (hN:a.parts.length<=1048576) (hnm:∀x∈a.parts,x.name.size<=1048576) :
  j5 38 [.ag (cM (.mk op nm ar n h a ks)),.one (.sc (.int .i64 (v:Int)))] [.one (.sc (.bool (if h=true then decide (0<v) && (x9 a 116 && a14 a) else decide (v<2) && J7 a)))]:=by
 have h0:=a6R a hN hnm;have h1:=b6a a ht hN hnm;have h2:=b7I a;obtain⟨a0,a1,a2,a3,haa⟩:=l6 a;rw[cM,haa];rw[haa] at h0 h1 h2;generalize rM ks=K at *;have w1:decide ((0:Int)<(v:Int))=decide (0<v):=decide_eq_decide.2 (by omega);have w2:decide ((v:Int)<2)=decide (v<2):=decide_eq_decide.2 (by omega);generalize decide (0<v)=c1 at *;generalize decide (v<2)=c2 at *;generalize ((v:Nat):Int)=z at *;generalize x9 a 116=r at *;generalize a14 a=cl at *;generalize J7 a=bl at *;refine C2 Tryz.func38 rfl ?_;intros;rename_i hA;have q1:=el hA w1;have q2:=el hA w2;cases h
 ·rw[if_neg (by decide)];cases c2
  ·try cbv;exact fr
  ·try cbv;exact fr
 ·rw[if_pos rfl];cases c1
  ·try cbv;exact fr
  ·cases r
   ·try cbv;exact fr
   ·try cbv;exact fr
end Go.Proofs.YtncijebklnbhlaaGreatDoor.Vm
end

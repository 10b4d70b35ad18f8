/- Part 20 of the proof. Conditions: none. -/
import Derived.Test.YtlofmibkljoapaaDoorN4
import Derived.Test.YtlofmibkljoapaaDoorN8
import Derived.Test.YtlofmibkljoapaaDoorN12
import Derived.Test.YtlofmibkljoapaaDoorN18
import Derived.Test.YtlofmibkljoapaaDoorN19
import Derived.Test.YtlofmibkljoapaaDoorN0
set_option linter.all false
set_option linter.unusedVariables false
set_option linter.unusedSimpArgs false
section
namespace Go.Proofs.YtlofmibkljoapaaDoor.Vm
open Go.RowKit
set_option maxRecDepth 100000
set_option maxHeartbeats 4000000
theorem b06 (nm:ByteArray) (n:Int) (ks:List Ty) (op:Int) (h:op=1\/op=2\/op=3):l6 23 [.ag (cT (.mk op nm n ks))] [.one (.sc (.string (bx (if op=1 then [73,110,116] else if op=2 then [66,111,111,108] else [63]))))]:=by
 rw[cT];generalize rT ks=K
 rcases h with rfl|rfl|rfl
 ·rw[c3E rfl];show l6 _ _ [.one (.sc (.string ⟨#[73,110,116]⟩))];refine K7 Tryd.func23 rfl λqa qb qc qd qe qf qg qh qi qj qk ql qm qo qp qq qs qt qu qv qw qx qy qz vc vd ve vf vg vh vj vk vl vp vq vr vt vu vv vw vx vy vz hA=>?_
  obtain⟨e1,e2,e3,e4,e5,e6,e7,e8,e9⟩:=j3 hA;have h1:qj 1 1=true:=e9 _ _
  iterate 2 (try cbv;repeat ((first|with_reducible apply b6 hA|rw[h1]);cbv))
 ·rw[c3G (by decide),c3E rfl];show l6 _ _ [.one (.sc (.string ⟨#[66,111,111,108]⟩))];refine K7 Tryd.func23 rfl λqa qb qc qd qe qf qg qh qi qj qk ql qm qo qp qq qs qt qu qv qw qx qy qz vc vd ve vf vg vh vj vk vl vp vq vr vt vu vv vw vx vy vz hA=>?_
  obtain⟨e1,e2,e3,e4,e5,e6,e7,e8,e9⟩:=j3 hA;have h1:qj 2 1=false:=e9 _ _;have h2:qj 2 2=true:=e9 _ _
  iterate 2 (try cbv;repeat ((first|with_reducible apply b6 hA|rw[h1]|rw[h2]);cbv))
 ·rw[c3G (by decide),c3G (by decide)];show l6 _ _ [.one (.sc (.string ⟨#[63]⟩))];refine K7 Tryd.func23 rfl λqa qb qc qd qe qf qg qh qi qj qk ql qm qo qp qq qs qt qu qv qw qx qy qz vc vd ve vf vg vh vj vk vl vp vq vr vt vu vv vw vx vy vz hA=>?_
  obtain⟨e1,e2,e3,e4,e5,e6,e7,e8,e9⟩:=j3 hA;have h1:qj 3 1=false:=e9 _ _;have h2:qj 3 2=false:=e9 _ _;have h3:qj 3 3=true:=e9 _ _
  iterate 2 (try cbv;repeat ((first|with_reducible apply b6 hA|rw[h1]|rw[h2]|rw[h3]);cbv))
theorem c1M (nm:ByteArray) (n:Int) (ks:List Ty) (h0:0<=n) (h1:n<=9223372036854775807):l6 23 [.ag (cT (.mk 7 nm n ks))] [.one (.sc (.string (bx (39::Lib.itoa n))))]:=by
 have hi:=c0A n.toNat n (c3A _) h0 h1;have hl:=Lib.itoa_length_le n (by omega) h1;rw[cT];generalize rT ks=K;obtain⟨RES,hRES⟩:∃S,S=bx (39::Lib.itoa n):=⟨_,rfl⟩;rw[<-hRES];have z1:(⟨#[39]⟩:ByteArray).size+(bx (Lib.itoa n)).size<=4611686018427387904:=by rw[s8,show (⟨#[39]⟩:ByteArray).size=1 from rfl];omega
 refine K7 Tryd.func23 rfl ?_;intro _ _ _ _ _ _ _ _ _ qj _ _ _ _ qp;intros;rename_i hA;obtain⟨e1,e2,e3,e4,e5,e6,e7,e8,e9⟩:=j3 hA;obtain⟨s1,s2,s3,s4,s5,s6,s7⟩:=w7 hA;have h1:qj 7 1=false:=e9 _ _;have h2:qj 7 2=false:=e9 _ _;have h3:qj 7 3=false:=e9 _ _;have h5:qj 7 5=false:=e9 _ _;have h6:qj 7 6=false:=e9 _ _;have h7:qj 7 7=true:=e9 _ _;have k1:qp ⟨#[39]⟩ (bx (Lib.itoa n))=RES:=by rw[s4,show (⟨#[39]⟩:ByteArray)=bx [39] from rfl,a3q,hRES];rfl
 generalize bx (Lib.itoa n)=NT at *
 iterate 2 (try cbv;repeat ((first|with_reducible apply b6 hA|rw[h1]|rw[h2]|rw[h3]|rw[h5]|rw[h6]|rw[h7]|rw[k1]|refine c5 hA _ hi rfl ?_|refine c7 hA _ hi ?_|refine A6 hA z1 ?_);cbv))
theorem c1N (nm:ByteArray) (n:Int) (a:Ty) (h:l6 38 [.ag (cT a)] [.one (.sc (.string (b6z a)))]) (hl:(A5 d8 (b9 a)).length<=67108864):l6 23 [.ag (cT (.mk 5 nm n [a]))] [.one (.sc (.string (bx (123::(A5 d8 (b9 a)++[125])))))]:=by
 unfold b6z at h;rw[cT,rT,rT];obtain⟨a0,a1,a2,a3,ha⟩:=c9 a;rw[ha] at h ⊢;obtain⟨RES,hRES⟩:∃S,S=bx (123::(A5 d8 (b9 a)++[125])):=⟨_,rfl⟩;rw[<-hRES];obtain⟨M,hM⟩:∃S,S=bx (123::A5 d8 (b9 a)):=⟨_,rfl⟩;have z1:(⟨#[123]⟩:ByteArray).size+(bx (A5 d8 (b9 a))).size<=4611686018427387904:=by rw[s8,show (⟨#[123]⟩:ByteArray).size=1 from rfl];omega
 have z2:M.size+(⟨#[125]⟩:ByteArray).size<=4611686018427387904:=by rw[hM,s8,show (⟨#[125]⟩:ByteArray).size=1 from rfl,c3C];omega
 obtain⟨K,hK⟩:∃K,K=[[a0,a1,a2,a3]]:=⟨_,rfl⟩;rw[<-hK];refine K7 Tryd.func23 rfl ?_;intro _ _ _ _ _ _ _ _ _ qj _ _ _ _ qp _ _ _ _ _ _ _ _ qz;intros;rename_i hA;obtain⟨e1,e2,e3,e4,e5,e6,e7,e8,e9⟩:=j3 hA;obtain⟨r1,r2,r3,r4⟩:=m8 hA;obtain⟨s1,s2,s3,s4,s5,s6,s7⟩:=w7 hA;have h1:qj 5 1=false:=e9 _ _;have h2:qj 5 2=false:=e9 _ _;have h3:qj 5 3=false:=e9 _ _;have h5:qj 5 5=true:=e9 _ _;have k1:qp ⟨#[123]⟩ (bx (A5 d8 (b9 a)))=M:=by rw[s4,show (⟨#[123]⟩:ByteArray)=bx [123] from rfl,a3q,hM];rfl
 have k2:qp M ⟨#[125]⟩=RES:=by rw[s4,hM,show (⟨#[125]⟩:ByteArray)=bx [125] from rfl,a3q,hRES];rfl
 have g0:qz K 0=some [a0,a1,a2,a3]:=by rw[r2,hK];rfl
 generalize bx (A5 d8 (b9 a))=NT at *
 iterate 2 (try cbv;repeat ((first|with_reducible apply b6 hA|rw[h1]|rw[h2]|rw[h3]|rw[h5]|rw[g0]|rw[k1]|rw[k2]|refine c5 hA _ h rfl ?_|refine c7 hA _ h ?_|refine A6 hA z1 ?_|refine A6 hA z2 ?_);cbv))
theorem c1O (nm:ByteArray) (n:Int) (a:Ty) (h:l6 38 [.ag (cT a)] [.one (.sc (.string (b6z a)))]) (hl:(A5 d8 (b9 a)).length<=67108864):l6 23 [.ag (cT (.mk 6 nm n [a]))] [.one (.sc (.string (bx (60::(A5 d8 (b9 a)++[62])))))]:=by
 unfold b6z at h;rw[cT,rT,rT];obtain⟨a0,a1,a2,a3,ha⟩:=c9 a;rw[ha] at h ⊢;obtain⟨RES,hRES⟩:∃S,S=bx (60::(A5 d8 (b9 a)++[62])):=⟨_,rfl⟩;rw[<-hRES];obtain⟨M,hM⟩:∃S,S=bx (60::A5 d8 (b9 a)):=⟨_,rfl⟩;have z1:(⟨#[60]⟩:ByteArray).size+(bx (A5 d8 (b9 a))).size<=4611686018427387904:=by rw[s8,show (⟨#[60]⟩:ByteArray).size=1 from rfl];omega
 have z2:M.size+(⟨#[62]⟩:ByteArray).size<=4611686018427387904:=by rw[hM,s8,show (⟨#[62]⟩:ByteArray).size=1 from rfl,c3C];omega
 obtain⟨K,hK⟩:∃K,K=[[a0,a1,a2,a3]]:=⟨_,rfl⟩;rw[<-hK];refine K7 Tryd.func23 rfl ?_;intro _ _ _ _ _ _ _ _ _ qj _ _ _ _ qp _ _ _ _ _ _ _ _ qz;intros;rename_i hA;obtain⟨e1,e2,e3,e4,e5,e6,e7,e8,e9⟩:=j3 hA;obtain⟨r1,r2,r3,r4⟩:=m8 hA;obtain⟨s1,s2,s3,s4,s5,s6,s7⟩:=w7 hA;have h1:qj 6 1=false:=e9 _ _;have h2:qj 6 2=false:=e9 _ _;have h3:qj 6 3=false:=e9 _ _;have h5:qj 6 5=false:=e9 _ _;have h6:qj 6 6=true:=e9 _ _;have k1:qp ⟨#[60]⟩ (bx (A5 d8 (b9 a)))=M:=by rw[s4,show (⟨#[60]⟩:ByteArray)=bx [60] from rfl,a3q,hM];rfl
 have k2:qp M ⟨#[62]⟩=RES:=by rw[s4,hM,show (⟨#[62]⟩:ByteArray)=bx [62] from rfl,a3q,hRES];rfl
 have g0:qz K 0=some [a0,a1,a2,a3]:=by rw[r2,hK];rfl
 generalize bx (A5 d8 (b9 a))=NT at *
 iterate 2 (try cbv;repeat ((first|with_reducible apply b6 hA|rw[h1]|rw[h2]|rw[h3]|rw[h5]|rw[h6]|rw[g0]|rw[k1]|rw[k2]|refine c5 hA _ h rfl ?_|refine c7 hA _ h ?_|refine A6 hA z1 ?_|refine A6 hA z2 ?_);cbv))
theorem c1P (nm:ByteArray) (n:Int) (a b:Ty) (x y:List UInt8) (h:l6 23 [.ag (cT a)] [.one (.sc (.string (bx x)))]) (hh:l6 23 [.ag (cT b)] [.one (.sc (.string (bx y)))]) (hx:x.length<=67108864) (hy:y.length<=67108864) :
  l6 23 [.ag (cT (.mk 4 nm n [a,b]))] [.one (.sc (.string (bx ((if a.op=4 then 40::(x++[41]) else x)++(45::62::y)))))]:=by
 rw[cT,rT,rT,rT];rw[a60 a] at h ⊢;obtain⟨b0,b1,b2,b3,hb⟩:=c9 b;rw[hb] at hh ⊢;obtain⟨aop,haop⟩:∃o,o=a.op:=⟨_,rfl⟩;rw[<-haop] at h ⊢;generalize a.name=anm at *;generalize a.n=an at *;generalize rT a.kids=aK at *;obtain⟨RES,hRES⟩:∃S,S=bx ((if aop=4 then 40::(x++[41]) else x)++(45::62::y)):=⟨_,rfl⟩;rw[<-hRES];obtain⟨K,hK⟩:∃K,K=[[.sc (.int .u8 aop),.sc (.string anm),.sc (.int .i64 an),.sl 4 aK],[b0,b1,b2,b3]]:=⟨_,rfl⟩;rw[<-hK];refine K7 Tryd.func23 rfl ?_;intro _ _ _ _ _ _ _ _ _ qj _ _ _ _ qp _ _ _ _ _ _ _ _ qz;intros;rename_i hA;obtain⟨e1,e2,e3,e4,e5,e6,e7,e8,e9⟩:=j3 hA;obtain⟨r1,r2,r3,r4⟩:=m8 hA;obtain⟨s1,s2,s3,s4,s5,s6,s7⟩:=w7 hA;have hcat:∀x y,qp (bx x) (bx y)=bx (x++y):=λx y=>by rw[s4,a3q]
 have h1:qj 4 1=false:=e9 _ _;have h2:qj 4 2=false:=e9 _ _;have h3:qj 4 3=false:=e9 _ _;have h5:qj 4 5=false:=e9 _ _;have h6:qj 4 6=false:=e9 _ _;have h7:qj 4 7=false:=e9 _ _;have g0:qz K 0=some [.sc (.int .u8 aop),.sc (.string anm),.sc (.int .i64 an),.sl 4 aK]:=by rw[r2,hK];rfl
 have g1:qz K 1=some [b0,b1,b2,b3]:=by rw[r2,hK];rfl
 by_cases hop:aop=4
 ·have q4:qj aop 4=true:=by rw[e9,hop];rfl
  rw[c3E hop] at hRES;obtain⟨M0,hM0⟩:∃S,S=bx (40::x):=⟨_,rfl⟩;obtain⟨M1,hM1⟩:∃S,S=bx (40::x++[41]):=⟨_,rfl⟩;obtain⟨M2,hM2⟩:∃S,S=bx (40::x++[41]++[45,62]):=⟨_,rfl⟩;have k0:qp ⟨#[40]⟩ (bx x)=M0:=by rw[show (⟨#[40]⟩:ByteArray)=bx [40] from rfl,hcat,hM0];rfl
  have k1:qp M0 ⟨#[41]⟩=M1:=by rw[hM0,show (⟨#[41]⟩:ByteArray)=bx [41] from rfl,hcat,hM1]
  have k2:qp M1 ⟨#[45,62]⟩=M2:=by rw[hM1,show (⟨#[45,62]⟩:ByteArray)=bx [45,62] from rfl,hcat,hM2]
  have k3:qp M2 (bx y)=RES:=by rw[hM2,hcat,hRES];simp
  have z0:(⟨#[40]⟩:ByteArray).size+(bx x).size<=4611686018427387904:=by rw[s8,show (⟨#[40]⟩:ByteArray).size=1 from rfl];omega
  have z1:M0.size+(⟨#[41]⟩:ByteArray).size<=4611686018427387904:=by rw[hM0,s8,show (⟨#[41]⟩:ByteArray).size=1 from rfl,c3C];omega
  have z2:M1.size+(⟨#[45,62]⟩:ByteArray).size<=4611686018427387904:=by rw[hM1,s8,show (⟨#[45,62]⟩:ByteArray).size=2 from rfl];simp only[c37,c3C,c3H];omega
  have z3:M2.size+(bx y).size<=4611686018427387904:=by rw[hM2,s8,s8];simp only[c37,c3C,c3H];omega
  generalize bx x=X at *;generalize bx y=Y at *
  iterate 2 (try cbv;repeat ((first|with_reducible apply b6 hA|rw[h1]|rw[h2]|rw[h3]|rw[h5]|rw[h6]|rw[h7]|rw[g0]|rw[g1]|rw[q4]|rw[k0]|rw[k1]|rw[k2]|rw[k3]|refine c5 hA _ h rfl ?_|refine c7 hA _ h ?_|refine c5 hA _ hh rfl ?_|refine c7 hA _ hh ?_|refine A6 hA z0 ?_|refine A6 hA z1 ?_|refine A6 hA z2 ?_|refine A6 hA z3 ?_);cbv))
 ·have q4:qj aop 4=false:=by rw[e9];simpa using hop
  rw[c3G hop] at hRES;obtain⟨M2,hM2⟩:∃S,S=bx (x++[45,62]):=⟨_,rfl⟩;have k2:qp (bx x) ⟨#[45,62]⟩=M2:=by rw[show (⟨#[45,62]⟩:ByteArray)=bx [45,62] from rfl,hcat,hM2]
  have k3:qp M2 (bx y)=RES:=by rw[hM2,hcat,hRES];simp
  have z2:(bx x).size+(⟨#[45,62]⟩:ByteArray).size<=4611686018427387904:=by rw[s8,show (⟨#[45,62]⟩:ByteArray).size=2 from rfl];omega
  have z3:M2.size+(bx y).size<=4611686018427387904:=by rw[hM2,s8,s8];simp only[c37,c3C,c3H];omega
  generalize bx x=X at *;generalize bx y=Y at *
  iterate 2 (try cbv;repeat ((first|with_reducible apply b6 hA|rw[h1]|rw[h2]|rw[h3]|rw[h5]|rw[h6]|rw[h7]|rw[g0]|rw[g1]|rw[q4]|rw[k2]|rw[k3]|refine c5 hA _ h rfl ?_|refine c7 hA _ h ?_|refine c5 hA _ hh rfl ?_|refine c7 hA _ hh ?_|refine A6 hA z2 ?_|refine A6 hA z3 ?_);cbv))
theorem b8D {t x:Ty} (h:a3L t) (hx:x∈t.parts):a3L x:=λy hy=>h y (A2 hy hx)
theorem b2o:∀(m:Nat) (t:Ty),t.parts.length<=m->m<=1048576->c8 f8 t 116=true->a3L t->l6 23 [.ag (cT t)] [.one (.sc (.string (a1o (b9 t))))]:=by
 intro m
 induction m with
 | zero=>intro t h;have:=j5 t;omega
 | succ m ih =>
  intro t hm hm2 hs hw;have hkl:=m9 t;obtain⟨h0,hc⟩:=H4 hs;have hn:=b5l hw.self.2.2
  have hlen:∀x∈t.kids,∀c,c8 f8 x c=true->Mod (b9 x)/\(b9 x).parts.length<=m:=λx hx c hxs=>by
   have h1:=hkl.2 x hx;refine⟨a6f (A3 _ x c (c3A _) hxs) λy hy hv=>b5l (hw.kid hx y (a2r _ x c (c3A _) hxs y hy hv)).2.2,?_⟩;rw[E9 _ x (c3A _) (j7 hxs)];omega
  have ht:=Ty.eta t
  rcases hc with⟨hop,hk⟩|⟨hop,a,b,hk,hsa,hsb⟩|⟨hop,a,hk,hsa⟩
  ·rw[x9 (by omega),hk,c5f]
   rcases hop with h|h|h|h
   ·rw[ht,h,hk];exact b06 _ _ _ 1 (.inl rfl)
   ·rw[ht,h,hk];exact b06 _ _ _ 2 (.inr (.inl rfl))
   ·rw[ht,h,hk];exact b06 _ _ _ 3 (.inr (.inr rfl))
   ·rw[ht,h,hk];have:=c1M t.name t.n [] h0 hn;unfold a1o;rw[show d8 (.mk (Ty.mk 7 t.name t.n []).op (Ty.mk 7 t.name t.n []).name (Ty.mk 7 t.name t.n []).n [])=39::Lib.itoa t.n by rw[E5];rfl];exact this
  ·have h1:=hkl.2 a (by rw[hk];simp);have h2:=hkl.2 b (by rw[hk];simp);have ha:=ih a (by omega) (by omega) hsa (hw.kid (by rw[hk];simp));have hb:=ih b (by omega) (by omega) hsb (hw.kid (by rw[hk];simp));obtain⟨ma,la⟩:=hlen a (by rw[hk];simp) _ hsa;obtain⟨mb,lb⟩:=hlen b (by rw[hk];simp) _ hsb;have xa:=a3p ma (by omega);have xb:=a3p mb (by omega);have hp:=c1P t.name t.n a b (d8 (b9 a)) (d8 (b9 b)) ha hb xa xb;rw[x9 (by omega),hk];unfold a1o;rw[show d8 (.mk t.op t.name t.n ([a,b].map b9))=z7 d8 (b9 a)++(45::62::d8 (b9 b)) by rw[hop,E5];rfl];unfold z7;rw[a4V (j7 hsa).self];rw[show cT t=cT (.mk 4 t.name t.n [a,b]) from congrArg cT (by rw[<-hop,<-hk];exact ht)];exact hp
  ·have h1:=hkl.2 a (by rw[hk];simp);obtain⟨ma,la⟩:=hlen a (by rw[hk];simp) _ hsa
   have xa:(A5 d8 (b9 a)).length<=67108864:=by
    have:=c1K ma true;unfold A5;omega
   have hr:=b8C f8 a hsa (j7 hsa).self (by omega) (λx hx=>b5l (hw.kid (by rw[hk];simp) x hx).2.2) xa λf hf=>by
    have h3:=A1 _ a (c3A _) f hf;have h4:=M5 _ a (c3A _) f hf;exact ih f.2 (by omega) (by omega) ((y7 hsa).1 f hf).2 (b8D (hw.kid (by rw[hk];simp)) h4)
   rw[x9 (by omega),hk];unfold a1o
   rcases hop with h|h
   ·have hp:=c1N t.name t.n a hr xa;rw[show d8 (.mk t.op t.name t.n ([a].map b9))=123::(A5 d8 (b9 a)++[125]) by rw[h,E5];rfl];rw[show cT t=cT (.mk 5 t.name t.n [a]) from congrArg cT (by rw[<-h,<-hk];exact ht)];exact hp
   ·have hp:=c1O t.name t.n a hr xa;rw[show d8 (.mk t.op t.name t.n ([a].map b9))=60::(A5 d8 (b9 a)++[62]) by rw[h,E5];rfl];rw[show cT t=cT (.mk 6 t.name t.n [a]) from congrArg cT (by rw[<-h,<-hk];exact ht)];exact hp
theorem b61 (t:Ty) (hN:t.parts.length<=1048576) (hw:a3L t) (hs:c8 f8 t 116=true):l6 23 [.ag (cT t)] [.one (.sc (.string (a1o (b9 t))))]:=b2o _ t (c3A _) hN hs hw
def b8E (h c:Int):Int:=IntKind.u64.wrap (BitVec.ofInt IntKind.u64.bits h ^^^ BitVec.ofInt IntKind.u64.bits c).toNat
def b5m (h:Int) (c:UInt8):Int:=IntKind.u64.wrap (b8E h (c.toNat:Int) * 1099511628211)
def fpS (l:List UInt8):Int:=l.foldl b5m 14695981039346656037
theorem b5n (H C:Nat) (hC:C<256):H ^^^ C=H - H % 256+((H % 256) ^^^ C):=by
 have h1:(H ^^^ C) % 2 ^ 8=(H % 2 ^ 8) ^^^ (C % 2 ^ 8):=Nat.xor_mod_two_pow;have h2:(H ^^^ C) / 2 ^ 8=(H / 2 ^ 8) ^^^ (C / 2 ^ 8):=Nat.xor_div_two_pow;rw[Nat.mod_eq_of_lt (a:=C) (by omega)] at h1;rw[Nat.div_eq_of_lt (a:=C) (by omega),Nat.xor_zero] at h2;have h3:=c5T (H ^^^ C) (2 ^ 8);rw[h1,h2] at h3;rw[show (2:Nat) ^ 8=256 from rfl] at h3;generalize H % 256 ^^^ C=X at *;omega
theorem c0g (H:Nat):(H:Int).tmod 256=((H % 256:Nat):Int):=by
 rw[Int.tmod_eq_emod_of_nonneg (by omega)];omega
theorem a3r {x:Int} (h0:0<=x) (h1:x<18446744073709551616):IntKind.u64.wrap x=x:=by
 show x % 18446744073709551616=x;omega
theorem b62 (x:Int):0<=IntKind.u64.wrap x/\IntKind.u64.wrap x<18446744073709551616:=by
 show 0<=x % 18446744073709551616/\x % 18446744073709551616<18446744073709551616;omega
theorem b8F {H C:Nat} (hH:H<18446744073709551616) (hC:C<256):b8E (H:Int) (C:Int)=((H - H % 256+((H % 256) ^^^ C):Nat):Int):=by
 unfold b8E;rw[BitVec.toNat_xor,c5D,c5D];rw[show ((H:Int) % ((2 ^ IntKind.u64.bits:Nat):Int)).toNat=H by show ((H:Int) % 18446744073709551616).toNat=H;omega];rw[show ((C:Int) % ((2 ^ IntKind.u64.bits:Nat):Int)).toNat=C by show ((C:Int) % 18446744073709551616).toNat=C;omega];have hl:H ^^^ C<2 ^ 64:=c5Y hH (by omega);rw[a3r (by omega) (by omega),b5n H C hC]
theorem c3k {L C:Nat} (hL:L<256) (hC:C<256):IntKind.u8.wrap (BitVec.ofInt IntKind.u8.bits (L:Int) ^^^ BitVec.ofInt IntKind.u8.bits (C:Int)).toNat=((L ^^^ C:Nat):Int):=by
 rw[BitVec.toNat_xor,c5D,c5D];rw[show ((L:Int) % ((2 ^ IntKind.u8.bits:Nat):Int)).toNat=L by show ((L:Int) % 256).toNat=L;omega];rw[show ((C:Int) % ((2 ^ IntKind.u8.bits:Nat):Int)).toNat=C by show ((C:Int) % 256).toNat=C;omega];have hl:L ^^^ C<2 ^ 8:=c5Y (by omega) (by omega);show ((L ^^^ C:Nat):Int) % 256=_;omega
theorem b2p {l:List UInt8} {k:Nat} {c:UInt8} (h:l[k]?=some c):fpS (l.take (k+1))=b5m (fpS (l.take k)) c:=by
 unfold fpS;rw[c5a,h,c50];rfl
theorem b8G (l:List UInt8):0<=fpS l/\fpS l<18446744073709551616:=by
 unfold fpS
 rcases l.eq_nil_or_concat with rfl|⟨m,c,rfl⟩
 ·decide
 ·rw[c5K,c50];exact b62 _
theorem c2K (s:ByteArray) (hs:s.size<=1073741824):l6 11 [.one (.sc (.string s))] [.one (.sc (.int .u64 (fpS (I5 s))))]:=by
 obtain⟨r,hr⟩:∃r,r=fpS (I5 s):=⟨_,rfl⟩;rw[<-hr];have hbl:=B3 s;refine K7 Tryd.func11 rfl ?_;intro qa qb qc qd _ qf qg qh _ _ _ _ _ _ _ _ qs qt;intros;rename_i hA;cbv;refine gn ?_;obtain⟨e1,e2,e3,e4,e5,e6,e7,e8,e9⟩:=j3 hA;obtain⟨s1,s2,s3,s4,s5,s6,s7⟩:=w7 hA;have hb:=a33 hA;refine l7 hA (γ:=Int×Int) (λx=>[(4,vi .i64 x.1),(3,vi .u64 x.2),(5,.jk)]) (λx=>[]) (λx=>∃k:Nat,x.1=(k:Int)/\k<=(I5 s).length/\x.2=fpS ((I5 s).take k)) (λx=>(I5 s).length - x.1.toNat) (0,14695981039346656037) ?_ ?_ ?_
 ·exact⟨0,rfl,c4e _,rfl⟩
 ·cbv
 ·intro x hinv;obtain⟨z,h⟩:=x;cbv
  repeat ((with_reducible apply b6 hA);cbv)
  try simp (maxSteps:=4000000) only [nc] at *
  obtain⟨k,hz,hk,hh⟩:=hinv;replace hz:z=(k:Int):=hz;replace hh:h=fpS ((I5 s).take k):=hh;have hlt:qh z (qs s)=decide (k<(I5 s).length):=by rw[e7,s5,hz];exact c3M.2 (by omega)
  by_cases h9:k<(I5 s).length
  ·rw[c3K h9] at hlt;obtain⟨c,hc⟩:∃c,(I5 s)[k]?=some c:=⟨_,c39 h9⟩;have gx:qt s z=some (c.toNat:Int):=by rw[s6,hz];exact a4T hc
   have hz1:qa .i64 (qb z 1)=((k+1:Nat):Int):=by rw[e1,e2,hz,IntWalk.i64_in _ (by omega)];omega
   have hmu:(I5 s).length - (qa .i64 (qb z 1)).toNat<(I5 s).length - z.toNat:=by rw[hz1,hz];omega
   have hst:=b2p hc;rw[<-hh] at hst;obtain⟨hr1,hr2⟩:=b8G ((I5 s).take k);rw[<-hh] at hr1 hr2;obtain⟨H,hH⟩:∃H:Nat,h=(H:Int):=⟨h.toNat,by omega⟩;have hC:c.toNat<256:=c.toNat_lt;have hLm:qf h 256=((H % 256:Nat):Int):=by rw[e6,hH];exact c0g H
   have hLw:qa .u8 (qf h 256)=((H % 256:Nat):Int):=by rw[hLm,e1];show ((H % 256:Nat):Int) % 256=_;omega
   have q1:qg .xor .u8 (qa .u8 (qf h 256)) .u8 (c.toNat:Int)=some ((H % 256 ^^^ c.toNat:Nat):Int):=by
    rw[hb,hLw];exact congrArg some (c3k (by omega) hC)
   obtain⟨X,hX⟩:∃X:Int,X=((H % 256 ^^^ c.toNat:Nat):Int):=⟨_,rfl⟩;rw[<-hX] at q1;obtain⟨Cc,hCc⟩:∃Cc:Int,Cc=(c.toNat:Int):=⟨_,rfl⟩;rw[<-hCc] at q1 gx
   have q2:qa .u64 (qd (qa .u64 (qb (qa .u64 (qc h (qf h 256))) (qa .u64 X))) 1099511628211)=b5m h c:=by
    have hx:=b5n H c.toNat hC;have hx3:H % 256 ^^^ c.toNat<2 ^ 8:=c5Y (by omega) (by omega);unfold b5m;rw[hH,b8F (by omega) hC,<-hH];rw[hLm,hX,hH];simp only[e1,e2,e3,e4];generalize H % 256 ^^^ c.toNat=Y at *;rw[a3r (x:=(H:Int) - ((H % 256:Nat):Int)) (by omega) (by omega),a3r (x:=(Y:Int)) (by omega) (by omega)];rw[a3r (x:=(H:Int) - ((H % 256:Nat):Int)+(Y:Int)) (by omega) (by omega)]
    congr 2
    omega
   rw[<-hst] at q2;rw[hlt]
   iterate 2 (try cbv;repeat ((first|with_reducible apply b6 hA|rw[gx]|rw[q1]|refine c01 hA (by decide) ?_);cbv))
   try simp (maxSteps:=4000000) only [nc] at *
   refine⟨(qa .i64 (qb z 1),_),⟨k+1,hz1,h9,q2⟩,hmu,?_⟩;cbv
  ·rw[c3I h9] at hlt;have hr2:h=r:=by rw[hh,hr,c4i (by omega)]
   subst hr2;rw[hlt];cbv
   repeat ((with_reducible apply b6 hA);cbv)
theorem c2L {t:Ty} {s:Int} (h:c8 f8 t s=true) (hn:∀x∈t.parts,r9 x=true->x.n<=9223372036854775807):a3L t:=λx hx=>by
 have hM:=a6f h hn x hx;obtain⟨c,hc⟩:=C8 h x hx;obtain⟨k,hk,-⟩:=f9 hc
 have hop:0<=x.op/\x.op<=11:=by
  unfold y6 at hk
  by_cases h1:x.op=1\/x.op=2\/x.op=3\/x.op=7\/x.op=8\/x.op=9\/x.op=10
  ·omega
  ·rw[c3G h1] at hk
   by_cases h4:x.op=4
   ·omega
   ·rw[c3G h4] at hk
    by_cases h5:x.op=5\/x.op=6
    ·omega
    ·rw[c3G h5] at hk
     by_cases h11:x.op=11
     ·omega
     ·rw[c3G h11] at hk;cases hk
 refine⟨c4E hM.1 (by decide),?_,?_⟩
 ·simp only[Lit.wf,IntKind.min,IntKind.max,IntKind.signed,IntKind.bits,c3D,c4T]
  simp
  omega
 ·simp only[Lit.wf,IntKind.min,IntKind.max,IntKind.signed,IntKind.bits,c3D,c4T]
  simp
  omega
theorem b07 {t:Ty} (ht:Sm t) (hr:j1 t 116=true):Sm (C3 t)/\a3L (C3 t):=by
 obtain⟨h1,h2,h3⟩:=a0i hr;have hs:=(j4 h1).1;have hl:=ht.1;refine⟨c08 hs (by omega),c2L hs λx hx iv=>?_⟩;unfold C3 at hx;rw[U7] at hx;obtain⟨x0,hx0,rfl⟩:=c4o.1 hx;rw[a6a] at iv;rw[a3m,c3E (l5.1 iv)];have h4:=c1C (a5k t x0 hx0 iv);have h5:=U4 (b9 t).parts [];rw[E9 _ t (c3A _) (j7 (j4 hr).1)] at h5;have h6:(w5 t).length<=0+t.parts.length:=h5;omega
theorem a9z (t:Ty) (ht:Sm t) (hr:j1 t 116=false):l6 7 [.ag (cT t)] [.one (.sc (.string ⟨#[]⟩)),.one (.sc (.int .u8 15))]:=by
 have h1:=a1P t ht.1 ht.2;rw[hr] at h1;obtain⟨a0,a1,a2,a3,ha⟩:=c9 t;rw[ha] at h1 ⊢;refine K7 Tryd.func7 rfl ?_;intros;rename_i hA
 iterate 2 (try cbv;repeat ((first|with_reducible apply b6 hA|refine c5 hA _ h1 rfl ?_|refine c7 hA _ h1 ?_);cbv))
theorem a8t (t:Ty) (ht:Sm t) (hr:j1 t 116=true):l6 7 [.ag (cT t)] [.one (.sc (.string (a1o (C3 t)))),.one (.sc (.int .u8 0))]:=by
 have h1:=a1P t ht.1 ht.2;rw[hr] at h1;have h2:=b83 t ht hr;obtain⟨n1,n2,n3⟩:=a0i hr;obtain⟨n4,n5⟩:=b07 ht hr;have h3:=c0f (C3 t) n4 n5 n1;rw[n2] at h3;generalize a1o (C3 t)=S at *;obtain⟨a0,a1,a2,a3,ha⟩:=c9 t;obtain⟨b0,b1,b2,b3,hb⟩:=c9 (C3 t);rw[ha] at h1 h2 ⊢;rw[hb] at h2 h3;refine K7 Tryd.func7 rfl ?_;intros;rename_i hA
 iterate 2 (try cbv;repeat ((first|with_reducible apply b6 hA|refine c5 hA _ h1 rfl ?_|refine c7 hA _ h1 ?_|refine c5 hA _ h2 rfl ?_|refine c7 hA _ h2 ?_|refine c5 hA _ h3 rfl ?_|refine c7 hA _ h3 ?_);cbv))
theorem b35 (t:Ty) (ht:Sm t) (hr:j1 t 116=true):l6 24 [.ag (cT t)] [.ag (cT (C3 t))]:=by
 have hsh:=(j4 hr).1;have hcs:=A3 _ t 116 (c3A _) hsh;have hcl:=E9 _ t (c3A _) (j7 hsh);have hl:=ht.1;have h1:=b41 _ t (c3A _) ht.1 (j7 hsh);have h2:=c1E (b9 t) (by omega) (j7 hcs);have hv:w5 (b9 t)=w5 t:=by unfold w5;rw[A8 _ t 116 (c3A _) hsh]
 rw[hv] at h2;have h5:=U4 (b9 t).parts [];have h6:(w5 t).length<=0+(b9 t).parts.length:=h5;have h3:=c1I (w5 t) (by omega) (b9 t) (by omega);replace h3:l6 41 _ [.ag (cT (C3 t))]:=h3;generalize rI (w5 t)=L at *;obtain⟨a0,a1,a2,a3,ha⟩:=c9 t;obtain⟨b0,b1,b2,b3,hb⟩:=c9 (b9 t);obtain⟨c0,c1,c2,c3,hc⟩:=c9 (C3 t);rw[ha] at h1 ⊢;rw[hb] at h1 h2 h3;rw[hc] at h3 ⊢;refine K7 Tryd.func24 rfl ?_;intros;rename_i hA
 iterate 2 (try cbv;repeat ((first|with_reducible apply b6 hA|refine c5 hA _ h1 rfl ?_|refine c7 hA _ h1 ?_|refine c5 hA _ h2 rfl ?_|refine c7 hA _ h2 ?_|refine c5 hA _ h3 rfl ?_|refine c7 hA _ h3 ?_);cbv))
theorem b63 (t:Ty) (ht:Sm t) (hr:j1 t 116=true):l6 10 [.ag (cT t)] [.one (.sc (.string (a1o (C3 t))))]:=by
 have h1:=b35 t ht hr;obtain⟨n1,n2,n3⟩:=a0i hr;obtain⟨n4,n5⟩:=b07 ht hr;have h2:=b61 (C3 t) n4.1 n5 (j4 n1).1;rw[n2] at h2;generalize a1o (C3 t)=S at *;obtain⟨a0,a1,a2,a3,ha⟩:=c9 t;obtain⟨b0,b1,b2,b3,hb⟩:=c9 (C3 t);rw[ha] at h1 ⊢;rw[hb] at h1 h2;refine K7 Tryd.func10 rfl ?_;intros;rename_i hA
 iterate 2 (try cbv;repeat ((first|with_reducible apply b6 hA|refine c5 hA _ h1 rfl ?_|refine c7 hA _ h1 ?_|refine c5 hA _ h2 rfl ?_|refine c7 hA _ h2 ?_);cbv))
theorem c2M (t:Ty) (ht:Sm t) (hr:j1 t 116=false):l6 8 [.ag (cT t)] [.one (.sc (.int .u64 0)),.one (.sc (.int .u8 15))]:=by
 have h1:=a9z t ht hr;obtain⟨a0,a1,a2,a3,ha⟩:=c9 t;rw[ha] at h1 ⊢;refine K7 Tryd.func8 rfl ?_;intro _ _ _ _ _ _ _ _ _ qj;intros;rename_i hA;obtain⟨e1,e2,e3,e4,e5,e6,e7,e8,e9⟩:=j3 hA;have q1:qj 15 0=false:=by rw[e9];rfl
 iterate 2 (try cbv;repeat ((first|with_reducible apply b6 hA|rw[q1]|refine c5 hA _ h1 rfl ?_|refine c7 hA _ h1 ?_);cbv))
theorem c3l (t:Ty) (ht:Sm t) (hr:j1 t 116=true):l6 8 [.ag (cT t)] [.one (.sc (.int .u64 (fpS (I5 (a1o (C3 t)))))),.one (.sc (.int .u8 0))]:=by
 have h1:=a8t t ht hr
 have hsz:(a1o (C3 t)).size<=67108864:=by
  obtain⟨n1,n2,n3⟩:=a0i hr;obtain⟨n4,n5⟩:=b07 ht hr;have hM:=a6g n1 n5;rw[n2] at hM;have:=a3p hM n4.1;show (d8 (C3 t)).toArray.size<=_
  simpa using this
 generalize a1o (C3 t)=S at *;obtain⟨r,hr⟩:∃r,r=fpS (I5 S):=⟨_,rfl⟩;rw[<-hr];have hbl:=B3 S;obtain⟨a0,a1,a2,a3,ha⟩:=c9 t;rw[ha] at h1 ⊢;refine K7 Tryd.func8 rfl ?_;intro qa qb _ qd _ _ qg qh _ qj _ _ _ _ _ _ qs qt;intros;rename_i hA;obtain⟨e1,e2,e3,e4,e5,e6,e7,e8,e9⟩:=j3 hA;obtain⟨s1,s2,s3,s4,s5,s6,s7⟩:=w7 hA;have hb:=a33 hA;have q1:qj 0 0=true:=by rw[e9];rfl
 iterate 2 (try cbv;repeat ((first|with_reducible apply b6 hA|rw[q1]|refine c5 hA _ h1 rfl ?_|refine c7 hA _ h1 ?_);cbv))
 try simp (maxSteps:=4000000) only [nc] at *
 refine l7 hA (γ:=Int×Int) (λx=>[(18,vi .i64 x.1),(6,vi .u64 x.2),(7,.jk),(8,.jk),(10,.jk)]) (λx=>[]) (λx=>∃k:Nat,x.1=(k:Int)/\k<=(I5 S).length/\x.2=fpS ((I5 S).take k)) (λx=>(I5 S).length - x.1.toNat) (0,14695981039346656037) ?_ ?_ ?_
 ·exact⟨0,rfl,c4e _,rfl⟩
 ·cbv
 ·intro x hinv;obtain⟨z,h⟩:=x;cbv
  repeat ((with_reducible apply b6 hA);cbv)
  try simp (maxSteps:=4000000) only [nc] at *
  obtain⟨k,hz,hk,hh⟩:=hinv;replace hz:z=(k:Int):=hz;replace hh:h=fpS ((I5 S).take k):=hh;have hlt:qh z (qs S)=decide (k<(I5 S).length):=by rw[e7,s5,hz];exact c3M.2 (by omega)
  by_cases h9:k<(I5 S).length
  ·rw[c3K h9] at hlt;obtain⟨c,hc⟩:∃c,(I5 S)[k]?=some c:=⟨_,c39 h9⟩;have gx:qt S z=some (c.toNat:Int):=by rw[s6,hz];exact a4T hc
   have hz1:qa .i64 (qb z 1)=((k+1:Nat):Int):=by rw[e1,e2,hz,IntWalk.i64_in _ (by omega)];omega
   have hmu:(I5 S).length - (qa .i64 (qb z 1)).toNat<(I5 S).length - z.toNat:=by rw[hz1,hz];omega
   have hst:=b2p hc;rw[<-hh] at hst;have hC:c.toNat<256:=c.toNat_lt
   have q2:qg .xor .u64 h .u64 (qa .u64 (c.toNat:Int))=some (b8E h (c.toNat:Int)):=by
    rw[hb,e1,a3r (by omega) (by omega)];rfl
   obtain⟨X,hX⟩:∃X:Int,X=b8E h (c.toNat:Int):=⟨_,rfl⟩;have q3:qa .u64 (qd X 1099511628211)=fpS ((I5 S).take (k+1)):=by rw[hst,e1,e4,hX];rfl
   rw[<-hX] at q2;obtain⟨Cc,hCc⟩:∃Cc:Int,Cc=(c.toNat:Int):=⟨_,rfl⟩;rw[<-hCc] at q2 gx;rw[hlt]
   iterate 2 (try cbv;repeat ((first|with_reducible apply b6 hA|rw[gx]|rw[q2]);cbv))
   try simp (maxSteps:=4000000) only [nc] at *
   refine⟨(qa .i64 (qb z 1),_),⟨k+1,hz1,h9,q3⟩,hmu,?_⟩;cbv
  ·rw[c3I h9] at hlt;have hr2:h=r:=by rw[hh,hr,c4i (by omega)]
   subst hr2;rw[hlt];cbv
   repeat ((with_reducible apply b6 hA);cbv)
def b64 (c:UInt8):Bool:=decide (48<=c.toNat) && decide (c.toNat<=57)
theorem b08 (d:Nat) (h:d<10):(UInt8.ofNat (48+d)).toNat=48+d:=by rw[UInt8.toNat_ofNat'];omega
theorem c0h (u:Nat):∀c∈Lib.decDigits u,b64 c=true:=by
 induction u using Nat.strongRecOn with
 | _ u ih =>
  intro c hc
  by_cases h:u<10
  ·rw[Lib.decDigits_one h] at hc;cases c5x.1 hc;unfold b64;rw[b08 u h]
   simp
   omega
  ·rw[Lib.decDigits,dif_neg h] at hc
   rcases c4b.1 hc with hc|hc
   ·exact ih _ (by omega) c hc
   ·cases c5x.1 hc;unfold b64;rw[b08 _ (by omega)]
    simp
    omega
def c0i (l:List UInt8):Nat:=l.foldl (λn c=>10 * n+(c.toNat - 48)) 0
theorem b5o (u:Nat):c0i (Lib.decDigits u)=u:=by
 induction u using Nat.strongRecOn with
 | _ u ih =>
  by_cases h:u<10
  ·rw[Lib.decDigits_one h];unfold c0i;simp only[c4P,List.foldl_nil];rw[b08 u h];omega
  ·have:=ih (u / 10) (by omega);rw[Lib.decDigits,dif_neg h];unfold c0i at this ⊢;rw[c50,this];simp only[c4P,List.foldl_nil];rw[b08 _ (by omega)];omega
theorem a5q {n:Int} (h:0<=n):∀c∈Lib.itoa n,b64 c=true:=by
 unfold Lib.itoa;rw[c3G (by omega)];exact c0h _
theorem b2q {n m:Int} (hn:0<=n) (hm:0<=m) (h:Lib.itoa n=Lib.itoa m):n=m:=by
 unfold Lib.itoa at h;rw[c3G (by omega),c3G (by omega)] at h;have:=congrArg c0i h;rw[b5o,b5o] at this;omega
def NoP (p:UInt8->Bool) (r:List UInt8):Prop:=∀c,r.head?=some c->p c=false
theorem a6G {p:UInt8->Bool}:∀(a b r s:List UInt8),(∀c∈a,p c=true)->(∀c∈b,p c=true)->NoP p r->NoP p s->a++r=b++s->a=b/\r=s
 | [],[],r,s,_,_,_,_,h=>⟨rfl,h⟩
 | [],y::b,r,s,_,hb,hr,_,h=>by
  have h:r=y::(b++s):=h;have:=hr y (by rw[h];rfl);rw[hb y (c38 ..)] at this;cases this
 | x::a,[],r,s,ha,_,_,hs,h=>by
  have h:x::(a++r)=s:=h;have:=hs x (by rw[<-h];rfl);rw[ha x (c38 ..)] at this;cases this
 | x::a,y::b,r,s,ha,hb,hr,hs,h=>by
  have h:x::(a++r)=y::(b++s):=h;injection h with h1 h2;obtain⟨e1,e2⟩:=a6G a b r s (λc hc=>ha c (c36 _ hc)) (λc hc=>hb c (c36 _ hc)) hr hs h2;exact⟨by rw[h1,e1],e2⟩
def b8H (c:UInt8):Bool:=b64 c || c == 45
abbrev Stop (r:List UInt8):Prop:=NoP b8H r
abbrev a90 (r:List UInt8):Prop:=NoP b64 r
theorem NoP.d {r:List UInt8} (h:Stop r):a90 r:=λc hc=>by
 have:=h c hc;unfold b8H at this;rw[c54] at this;exact this.1
theorem a03 {p:UInt8->Bool} {c:UInt8} {r:List UInt8} (h:p c=false):NoP p (c::r):=λx hx=>by cases hx;exact h
def wU (c:UInt8):Bool:=T1 (c.toNat:Int) || (N7 (c.toNat:Int) || (c.toNat:Int) == 95)
theorem c0B:∀(l:List UInt8) (f:Bool),okL f l=true->∀c∈l,wU c=true
 | x::l,f,h,c,hc=>by
  rw[okL,c3D] at h
  rcases c3F.1 hc with rfl|hc
  ·have h1:=h.1;unfold okB at h1;unfold wU;rw[c45] at h1 ⊢
   rcases h1 with h1|h1
   ·exact .inl h1
   ·rw[c3D] at h1;exact .inr h1.2
  ·exact c0B l false h.2 c hc
theorem b36 {s:ByteArray} (h:f8 s=true):(∀c∈s.data.toList,wU c=true)/\∃c l,s.data.toList=c::l/\T1 (c.toNat:Int)=true:=by
 unfold f8 Q8 at h;simp only[c3D] at h;obtain⟨_,⟨h1,h2⟩,_⟩:=h;have h1:okL true s.data.toList=true:=h1;refine⟨c0B _ _ h1,?_⟩;have h2:0<s.data.size:=c4d h2;cases hl:s.data.toList with
 | nil =>
  have:=congrArg List.length hl;rw[c5r,c3H] at this;omega
 | cons c l =>
  rw[hl,okL,c3D] at h1;exact⟨c,l,rfl,by simpa [okB] using h1.1⟩
theorem b37 {a b:ByteArray} (ha:a.toList=[]) (hb:b.toList=[]):a=b:=by
 rw[ByteArray.toList_eq] at ha hb;exact c5q (c4Y (by rw[ha,hb]))
theorem b8I {t u:Ty} (h1:t.op=u.op) (h2:t.name=u.name) (h3:t.n=u.n) (h4:t.kids=u.kids):t=u:=by rw[t.eta,u.eta,h1,h2,h3,h4]
theorem a2s {t u:Ty} {s s':Int} (ht:c8 f8 t s=true) (hu:c8 f8 u s'=true) (ho:t.op=u.op) (h11:t.op≠11) (hn:(t.op=7\/t.op=10)->t.n=u.n) (hk:t.kids=u.kids):t=u:=by
 obtain⟨_,_,_,_,a3,_,a5,_⟩:=f9 ht;obtain⟨_,_,_,_,b3,_,b5,_⟩:=f9 hu;rw[c3G h11] at a3;rw[c3G (by rw[<-ho];exact h11)] at b3;refine b8I ho (b37 (c4d a3) (c4d b3)) ?_ hk
 by_cases h:t.op=7\/t.op=10
 ·exact hn h
 ·have:t.n=0:=by omega
  have:u.n=0:=by omega
  omega
theorem b8J {t:Ty} (h:t.op=1):d8 t=[73,110,116]:=by rw[E5];unfold a1z;rw[c3E h]
theorem b8K {t:Ty} (h:t.op=2):d8 t=[66,111,111,108]:=by rw[E5];unfold a1z;rw[c3G (by omega),c3E h]
theorem b8L {t:Ty} (h:t.op=3):d8 t=[63]:=by rw[E5];unfold a1z;rw[c3G (by omega),c3G (by omega),c3E h]
theorem b8M {t:Ty} (h:t.op=7):d8 t=39::Lib.itoa t.n:=by rw[E5];unfold a1z;rw[c3G (by omega),c3G (by omega),c3G (by omega),c3E h]
theorem b8N {t a:Ty} (h:t.op=5) (hk:t.kids=[a]):d8 t=123::(A5 d8 a++[125]):=by rw[E5];unfold a1z;rw[c3G (by omega),c3G (by omega),c3G (by omega),c3G (by omega),c3E h,hk]
theorem b8O {t a:Ty} (h:t.op=6) (hk:t.kids=[a]):d8 t=60::(A5 d8 a++[62]):=by rw[E5];unfold a1z;rw[c3G (by omega),c3G (by omega),c3G (by omega),c3G (by omega),c3G (by omega),c3E h,hk]
theorem b8P {t a b:Ty} (h:t.op=4) (hk:t.kids=[a,b]):d8 t=z7 d8 a++(45::62::d8 b):=by rw[E5];unfold a1z;rw[c3G (by omega),c3G (by omega),c3G (by omega),c3G (by omega),c3G (by omega),c3G (by omega),c3E h,hk]
def hdU (op:Int):UInt8:=if op=1 then 73 else if op=2 then 66 else if op=3 then 63 else if op=7 then 39 else if op=5 then 123 else if op=6 then 60 else 40
def opU (c:UInt8):Int:=if c=73 then 1 else if c=66 then 2 else if c=63 then 3 else if c=39 then 7 else if c=123 then 5 else if c=60 then 6 else 4
theorem c0C (op:Int) (h:op=1\/op=2\/op=3\/op=7\/op=4\/op=5\/op=6):opU (hdU op)=op:=by
 rcases h with rfl|rfl|rfl|rfl|rfl|rfl|rfl <;> rfl
theorem b8Q {t:Ty} (h:c8 f8 t 116=true):t.op=1\/t.op=2\/t.op=3\/t.op=7\/t.op=4\/t.op=5\/t.op=6:=by
 rcases (H4 h).2 with⟨h,_⟩|⟨h,_⟩|⟨h,_⟩ <;> omega
theorem b5p {t:Ty} (h:c8 f8 t 116=true):∃l,z7 d8 t=hdU t.op::l:=by
 unfold z7
 rcases (H4 h).2 with⟨h1,_⟩|⟨h1,_⟩|⟨h1,a,hk,_⟩
 ·rw[c3G (by omega)]
  rcases h1 with h1|h1|h1|h1
  ·exact⟨_,by rw[b8J h1,h1];rfl⟩
  ·exact⟨_,by rw[b8K h1,h1];rfl⟩
  ·exact⟨_,by rw[b8L h1,h1];rfl⟩
  ·exact⟨_,by rw[b8M h1,h1];rfl⟩
 ·exact⟨_,by rw[c3E h1,h1];rfl⟩
 ·rw[c3G (by omega)]
  rcases h1 with h1|h1
  ·exact⟨_,by rw[b8N h1 hk,h1];rfl⟩
  ·exact⟨_,by rw[b8O h1 hk,h1];rfl⟩
def b5q (r:List UInt8):Prop:=∃c l,r=c::l/\(c=125\/c=62)
def c1Q (c:UInt8):Nat:=if c=125\/c=62 then 2 else if c=124 then 3 else 1
def rtx (b:Bool) (x:Ty):List UInt8:=J5 d8 b (c6 x)++N3 (f7 x)
theorem b38 {b:Bool} {t x y:Ty} (ho:t.op=11) (hk:t.kids=[x,y]):rtx b t=(if b=true then [] else [44])++(t.name.data.toList++(58::(d8 x++rtx false y))):=b00 b ho hk
theorem b09 {b:Bool} {x:Ty} (h:x.kids=[]):rtx b x=N3 x:=by
 obtain⟨e1,e2⟩:=b5h (t:=x) (λ⟨_,a,c,h2⟩=>by rw[h] at h2;cases h2);unfold rtx;rw[e1,e2];rfl
theorem b39 {b:Bool} {x:Ty} {r:List UInt8} (hx:c8 f8 x 114=true) (hr:b5q r):∃c l,rtx b x++r=c::l/\c1Q c=(if x.op=11 then 1 else if x.op=8 then 2 else 3)/\(b=false->b8H c=false):=by
 rcases (M9 hx).2 with⟨h1,hk⟩|⟨h1,x1,y1,hk,_,_⟩
 ·rw[b09 hk];unfold N3
  rcases h1 with h1|h1|h1
  ·rw[h1,c3G (by decide),c3G (by decide),c3G (by decide),c3E rfl];obtain⟨c,l,rfl,hc⟩:=hr;refine⟨c,l,rfl,by unfold c1Q;rw[c3E hc],λ_=>?_⟩
   rcases hc with rfl|rfl <;> rfl
  ·rw[h1,c3E rfl,c3G (by decide),c3G (by decide)];exact⟨124,_,rfl,rfl,λ_=>rfl⟩
  ·rw[h1,c3G (by decide),c3E rfl,c3G (by decide),c3G (by decide)];exact⟨124,_,rfl,rfl,λ_=>rfl⟩
 ·rw[b38 h1 hk,h1,c3E rfl];cases b with
  | false=>exact⟨44,_,rfl,rfl,λ_=>rfl⟩
  | true =>
   obtain⟨_,_,_,_,a3,_⟩:=f9 hx;rw[c3E h1] at a3;obtain⟨_,c,l,hc,hs⟩:=b36 a3;rw[c3E rfl,hc];refine⟨c,_,rfl,?_,λh=>by cases h⟩;rw[a8V] at hs;unfold c1Q;rw[c3G (by rintro (rfl|rfl) <;> exact absurd hs (by decide)),c3G (by rintro rfl;exact absurd hs (by decide))]
def c3m (t u:Ty):Prop:=∀r s,Stop r->Stop s->d8 t++r=d8 u++s->t=u/\r=s
def c1R (n:Nat):Prop:=∀t u,c8 f8 t 116=true->c8 f8 u 116=true->t.parts.length+u.parts.length<=n->c3m t u
theorem b0A {n:Nat} (ih:c1R n):∀(k:Nat) (b:Bool) (x y:Ty) (r s:List UInt8),x.parts.length<=k->x.parts.length+y.parts.length<=n->c8 f8 x 114=true->c8 f8 y 114=true->b5q r->b5q s->rtx b x++r=rtx b y++s->x=y/\r=s
 | 0,b,x,y,r,s,hk,_,_,_,_,_,_=>by have:=j5 x;omega
 | k+1,b,x,y,r,s,hk,hn,hx,hy,hr,hs,h=>by
  obtain⟨c,l,e1,e2,_⟩:=b39 (b:=b) hx hr;obtain⟨d,m,f1,f2,_⟩:=b39 (b:=b) hy hs;have hcd:c=d:=by rw[e1,f1] at h;injection h
  rw[hcd,f2] at e2
  have dr:a90 r:=by
   obtain⟨c,l,rfl,hc⟩:=hr;exact a03 (by rcases hc with rfl|rfl <;> rfl)
  have ds:a90 s:=by
   obtain⟨c,l,rfl,hc⟩:=hs;exact a03 (by rcases hc with rfl|rfl <;> rfl)
  rcases (M9 hx).2 with⟨h1,hkx⟩|⟨h1,x1,y1,hkx,hx1,hy1⟩
  ·rcases (M9 hy).2 with⟨g1,hky⟩|⟨g1,_⟩
   ·rw[b09 hkx,b09 hky] at h;have hkk:x.kids=y.kids:=by rw[hkx,hky]
    unfold N3 at h
    rcases h1 with h1|h1|h1
    ·rcases g1 with g1|g1|g1
     ·rw[h1,g1,c3G (by decide),c3G (by decide),c3G (by decide),c3G (by decide)] at h;exact⟨a2s hx hy (by omega) (by omega) (λh=>by omega) hkk,h⟩
     ·rw[h1,g1] at e2;exact absurd e2 (by decide)
     ·rw[h1,g1] at e2;exact absurd e2 (by decide)
    ·rcases g1 with g1|g1|g1
     ·rw[h1,g1] at e2;exact absurd e2 (by decide)
     ·rw[h1,g1,c3E rfl] at h;injection h with _ h;injection h with _ h;exact⟨a2s hx hy (by omega) (by omega) (λh=>by omega) hkk,h⟩
     ·rw[h1,g1,c3E rfl,c3G (by decide),c3E rfl] at h;injection h with _ h;injection h with h _;exact absurd h (by decide)
    ·rcases g1 with g1|g1|g1
     ·rw[h1,g1] at e2;exact absurd e2 (by decide)
     ·rw[h1,g1,c3G (by decide),c3E rfl,c3E rfl] at h;injection h with _ h;injection h with h _;exact absurd h (by decide)
     ·rw[h1,g1,c3G (by decide),c3E rfl,c3G (by decide),c3E rfl] at h;injection h with _ h;injection h with _ h;obtain⟨p1,p2⟩:=a6G _ _ r s (a5q (M9 hx).1) (a5q (M9 hy).1) dr ds h;exact⟨a2s hx hy (by omega) (by omega) (λ_=>b2q (M9 hx).1 (M9 hy).1 p1) hkk,p2⟩
   ·rw[g1,c3E rfl,c3G (by omega)] at e2
    split at e2 <;> exact absurd e2 (by decide)
  ·rcases (M9 hy).2 with⟨g1,hky⟩|⟨g1,x2,y2,hky,hx2,hy2⟩
   ·rw[h1,c3E rfl,c3G (by omega)] at e2
    split at e2 <;> exact absurd e2 (by decide)
   ·rw[b38 h1 hkx,b38 g1 hky] at h;simp only[c4c,c4r] at h;replace h:=List.append_cancel_left h;obtain⟨_,_,_,_,a3,_,a5,_⟩:=f9 hx;obtain⟨_,_,_,_,b3,_,b5,_⟩:=f9 hy;rw[c3E h1] at a3;rw[c3E g1] at b3;obtain⟨p1,p2⟩:=a6G _ _ _ _ (b36 a3).1 (b36 b3).1 (a03 (by decide)) (a03 (by decide)) h;injection p2 with _ p2;have q1:=a0k hkx;have q2:=a0k hky
    have st:∀ {z:Ty} {v:List UInt8},c8 f8 z 114=true->b5q v->Stop (rtx false z++v):=λhz hv=>by
     obtain⟨c,l,e1,_,e3⟩:=b39 (b:=false) hz hv;rw[e1];exact a03 (e3 rfl)
    obtain⟨r1,r2⟩:=ih x1 x2 hx1 hx2 (by omega) _ _ (st hy1 hr) (st hy2 hs) p2;obtain⟨t1,t2⟩:=b0A ih k false y1 y2 r s (by omega) (by omega) hy1 hy2 hr hs r2;refine⟨b8I (by omega) (c5q (c4Y p1)) (by omega) ?_,t2⟩;rw[hkx,hky,r1,t1]
theorem a5r {n:Nat} (ih:c1R n) {t u:Ty} (ht:c8 f8 t 116=true) (hu:c8 f8 u 116=true) (hn:t.parts.length+u.parts.length<=n+1) (h4:t.op=4->t.parts.length+u.parts.length<=n) {r s:List UInt8} (hr:a90 r) (hs:a90 s) (h:z7 d8 t++r=z7 d8 u++s):t=u/\r=s:=by
 obtain⟨l,e1⟩:=b5p ht;obtain⟨m,e2⟩:=b5p hu
 have ho:t.op=u.op:=by
  rw[e1,e2] at h;injection h with h _;rw[<-c0C _ (b8Q ht),<-c0C _ (b8Q hu),h]
 clear e1 e2;unfold z7 at h
 rcases (H4 ht).2 with⟨h1,hkt⟩|⟨h1,_⟩|⟨h1,x,hkt,hx⟩
 ·have hku:u.kids=[]:=by
   rcases (H4 hu).2 with⟨_,hk⟩|⟨_,_⟩|⟨_,_⟩
   ·exact hk
   ·omega
   ·omega
  have hkk:t.kids=u.kids:=by rw[hkt,hku]
  rw[c3G (by omega),c3G (by omega)] at h
  by_cases h7:t.op=7
  ·rw[b8M h7,b8M (by omega)] at h;injection h with _ h;obtain⟨p1,p2⟩:=a6G _ _ r s (a5q (H4 ht).1) (a5q (H4 hu).1) hr hs h;exact⟨a2s ht hu ho (by omega) (λ_=>b2q (H4 ht).1 (H4 hu).1 p1) hkk,p2⟩
  ·have e:d8 t=d8 u:=by
    rcases h1 with h1|h1|h1|h1
    ·rw[b8J h1,b8J (by omega)]
    ·rw[b8K h1,b8K (by omega)]
    ·rw[b8L h1,b8L (by omega)]
    ·exact absurd h1 h7
   rw[e] at h;exact⟨a2s ht hu ho (by omega) (λh=>by omega) hkk,List.append_cancel_left h⟩
 ·rw[c3E h1,c3E (by omega)] at h;simp only[c4r,c4c] at h;injection h with _ h;obtain⟨p1,p2⟩:=ih t u ht hu (h4 h1) _ _ (a03 (by decide)) (a03 (by decide)) h;injection p2 with _ p2;exact⟨p1,p2⟩
 ·have ⟨y,hku,hy⟩:∃y,u.kids=[y]/\c8 f8 y 114=true:=by
   rcases (H4 hu).2 with⟨_,_⟩|⟨_,_⟩|⟨_,y,hk,hy⟩
   ·omega
   ·omega
   ·exact⟨y,hk,hy⟩
  have q1:=a3G hkt;have q2:=a3G hku;rw[c3G (by omega),c3G (by omega)] at h
  have hh:x=y/\r=s:=by
   rcases h1 with h1|h1
   ·rw[b8N h1 hkt,b8N (by omega) hku] at h;simp only[c4r,c4c] at h;injection h with _ h;obtain⟨p1,p2⟩:=b0A ih _ true x y (125::r) (125::s) (c3A _) (by omega) hx hy ⟨_,_,rfl,.inl rfl⟩ ⟨_,_,rfl,.inl rfl⟩ h;injection p2 with _ p2;exact⟨p1,p2⟩
   ·rw[b8O h1 hkt,b8O (by omega) hku] at h;simp only[c4r,c4c] at h;injection h with _ h;obtain⟨p1,p2⟩:=b0A ih _ true x y (62::r) (62::s) (c3A _) (by omega) hx hy ⟨_,_,rfl,.inr rfl⟩ ⟨_,_,rfl,.inr rfl⟩ h;injection p2 with _ p2;exact⟨p1,p2⟩
  exact⟨a2s ht hu ho (by omega) (λh=>by omega) (by rw[hkt,hku,hh.1]),hh.2⟩
theorem b5r {s:List UInt8} (hs:Stop s) {l:List UInt8} (h:45::l=s):False:=by
 have:=hs 45 (by rw[<-h];rfl);exact absurd this (by decide)
theorem c0E:∀n,c1R n
 | 0=>λt u _ _ hn=>by have:=j5 t;omega
 | n+1=>λt u ht hu hn r s hr hs h=>by
  have ih:=c0E n;have dd:∀(l:List UInt8),a90 (45::l):=λl=>a03 (by decide)
  by_cases h4:t.op=4
  ·obtain⟨a,b,hka,ha,hb⟩:∃a b,t.kids=[a,b]/\c8 f8 a 116=true/\c8 f8 b 116=true:=by
    rcases (H4 ht).2 with⟨_,_⟩|⟨_,h⟩|⟨_,_⟩
    ·omega
    ·exact h
    ·omega
   have q1:=a0k hka;have:=j5 a;have:=j5 b;rw[b8P h4 hka] at h
   by_cases g4:u.op=4
   ·obtain⟨c,d,hkc,hc,hd⟩:∃a b,u.kids=[a,b]/\c8 f8 a 116=true/\c8 f8 b 116=true:=by
     rcases (H4 hu).2 with⟨_,_⟩|⟨_,h⟩|⟨_,_⟩
     ·omega
     ·exact h
     ·omega
    have q2:=a0k hkc;rw[b8P g4 hkc] at h;simp only[c4c,c4r] at h;obtain⟨p1,p2⟩:=a5r ih ha hc (by omega) (λ_=>by omega) (dd _) (dd _) h;injection p2 with _ p2;injection p2 with _ p2;obtain⟨p3,p4⟩:=ih b d hb hd (by omega) r s hr hs p2;exact⟨a2s ht hu (by omega) (by omega) (λh=>by omega) (by rw[hka,hkc,p1,p3]),p4⟩
   ·rw[show d8 u=z7 d8 u by unfold z7;rw[c3G g4]] at h;simp only[c4c,c4r] at h;obtain⟨p1,p2⟩:=a5r ih ha hu (by omega) (λ_=>by omega) (dd _) hs.d h;exact(b5r hs p2).elim
  ·rw[show d8 t=z7 d8 t by unfold z7;rw[c3G h4]] at h
   by_cases g4:u.op=4
   ·obtain⟨c,d,hkc,hc,hd⟩:∃a b,u.kids=[a,b]/\c8 f8 a 116=true/\c8 f8 b 116=true:=by
     rcases (H4 hu).2 with⟨_,_⟩|⟨_,h⟩|⟨_,_⟩
     ·omega
     ·exact h
     ·omega
    have q2:=a0k hkc;rw[b8P g4 hkc] at h;simp only[c4c,c4r] at h;have:=j5 d;obtain⟨p1,p2⟩:=a5r ih ht hc (by omega) (λh=>absurd h h4) hr.d (dd _) h;exact(b5r hr p2.symm).elim
   ·rw[show d8 u=z7 d8 u by unfold z7;rw[c3G g4]] at h;exact a5r ih ht hu (by omega) (λh=>absurd h h4) hr.d hs.d h
theorem c0j {t u:Ty} (ht:c8 f8 t 116=true) (hu:c8 f8 u 116=true) (h:d8 t=d8 u):t=u :=
 (c0E _ t u ht hu (c3A _) [] [] (λc hc=>by cases hc) (λc hc=>by cases hc) (by rw[h])).1
def a8u (g:List D->Option (Ty×Nat)):List (List D)->Option (List Ty×Nat)
 | []=>some ([],0)
 | r::rs=>match g r with
  | some (t,m)=>match a8u g rs with
   | some (ts,k)=>some (t::ts,m+k)
   | none=>none
  | none=>none
def b0B:Nat->List D->Option (Ty×Nat)
 | 0,_=>none
 | f+1,[.sc (.int .u8 op),.sc (.string nm),.sc (.int .i64 n),.sl sz rows]=>match rows with
  | []=>some (.mk op nm n [],1)
  | r::rs=>match a0A sz 4 with
   | true=>match a8u (b0B f) (r::rs) with
    | some (ks,m)=>some (.mk op nm n ks,m+1)
    | none=>none
   | false=>none
 | _+1,_=>none
def a8v (ds es:List D):Prop:=∀(I:Nat->Nat->Prop) (w:World) (us:List Value),s9 I w us ds->s9 I w us es
theorem b2r {sz:Nat} {rows rows':List (List D)} (hl:rows.length=rows'.length) (hr:∀(i:Nat) (r r':List D),rows[i]?=some r->rows'[i]?=some r'->a8v r r'/\r'.length=sz) {I:Nat->Nat->Prop} {w:World} {v:Value} (h:AtD I w v (.sl sz rows)):AtD I w v (.sl sz rows'):=by
 cases h with
 | nil A cap=>rw[c3P (l:=rows') (by simpa using hl.symm)];exact .nil _ _ _
 | sl b off cap _ _ us hcap hI hrl hl2 hc hd =>
  have hrl':∀r∈rows',r.length=sz:=λr hr'=>by
   obtain⟨i,hi⟩:=c4f.1 hr';have hlt:i<rows.length:=by rw[hl];exact(c35.1 hi).1
   exact(hr i _ r (c39 hlt) hi).2
  rw[hl];refine .sl b off cap sz rows' us (by rw[<-hl];exact hcap) (by rw[<-hl];exact hI) hrl' (by rw[<-hl];exact hl2) hc λi u d hu hdd=>?_
  have hi:i<rows.length * sz:=by rw[<-hl2];exact(c35.1 hu).1
  rcases c5X sz with h0|hpos
  ·rw[h0,Nat.mul_zero] at hi;omega
  have hq:i / sz<rows.length:=(c5J hpos).2 hi;have hm:i % sz<sz:=Nat.mod_lt _ hpos;have ei:i / sz * sz+i % sz=i:=by rw[Nat.mul_comm];exact c5T i _
  obtain⟨r,hr1⟩:∃r,rows[i / sz]?=some r:=⟨_,c39 hq⟩;obtain⟨r',hr2⟩:∃r',rows'[i / sz]?=some r':=⟨_,c39 (by omega)⟩;have hal:=(hr _ r r' hr1 hr2).1
  have hcs:s9 I w ((us.drop (i / sz * sz)).take sz) r:=by
   refine⟨?_,λj u d hu hd'=>?_⟩
   ·have h1:=hrl r (c3J hr1);rw[h1,c3Z,c4L,hl2];have:(i / sz+1) * sz<=rows.length * sz:=c41 _ hq;rw[c5Z] at this;omega
   ·have hj:j<sz:=by
     have:=(c35.1 hu).1;rw[c3Z] at this;omega
    rw[List.getElem?_take_of_lt hj,c4k] at hu;refine hd (i / sz * sz+j) u d hu ?_;rw[L6 hrl hr1 hj];exact hd'
  have h2:=hal I w _ hcs;have hu2:((us.drop (i / sz * sz)).take sz)[i % sz]?=some u:=by rw[List.getElem?_take_of_lt hm,c4k,ei];exact hu
  have hd2:r'[i % sz]?=some d:=by rw[<-hdd,<-L6 hrl' hr2 hm,ei]
  exact h2.2 _ u d hu2 hd2
theorem b8R:∀(f:Nat),  (∀(ds:List D) (t:Ty) (m:Nat),b0B f ds=some (t,m)->a8v ds (cT t)/\t.parts.length=m)/\∀(rows:List (List D)) (ts:List Ty) (m:Nat),a8u (b0B f) rows=some (ts,m)->rows.length=ts.length/\(o8 ts).length=m/\∀(i:Nat) (r r':List D),rows[i]?=some r->(rT ts)[i]?=some r'->a8v r r'/\r'.length=4:=by
 intro f
 induction f with
 | zero =>
  refine⟨λds t m h=>(by simp[b0B] at h),λrows=>?_⟩;cases rows with
  | nil=>intro ts m h;rw[a8u] at h;cases h;exact⟨rfl,by rw[o8];rfl,λi r r' h=>by simp at h⟩
  | cons r rs=>intro ts m h;simp[a8u,b0B] at h
 | succ f ih =>
  have h1:∀(ds:List D) (t:Ty) (m:Nat),b0B (f+1) ds=some (t,m)->a8v ds (cT t)/\t.parts.length=m:=by
   intro ds t m h;unfold b0B at h
   split at h
   ·cases h
   ·rename_i fx op nm n sz rows ef;cases ef
    split at h
    ·cases h;refine⟨λI w us hu=>?_,by rw[Ty.parts,o8];rfl⟩;obtain⟨u0,us0,rfl,a0,hu⟩:=hu.uncons;obtain⟨u1,us1,rfl,a1,hu⟩:=hu.uncons;obtain⟨u2,us2,rfl,a2,hu⟩:=hu.uncons;obtain⟨u3,us3,rfl,a3,hu⟩:=hu.uncons;rw[cT,rT];refine s9.cons a0 (s9.cons a1 (s9.cons a2 (s9.cons ?_ hu)));cases a3 with
     | nil A cap=>exact .nil _ _ _
     | sl b off cap _ _ us hcap hI hrl hl2 hc hd=>exact .nil _ _ _
    ·rename_i r rs
     split at h
     ·rename_i hsz;have hsz:=Y5 hsz;subst hsz
      split at h
      ·rename_i ks k hk;cases h;obtain⟨e1,e2,e3⟩:=ih.2 _ _ _ hk;refine⟨λI w us hu=>?_,by rw[Ty.parts,c3C,e2]⟩;obtain⟨u0,us0,rfl,a0,hu⟩:=hu.uncons;obtain⟨u1,us1,rfl,a1,hu⟩:=hu.uncons;obtain⟨u2,us2,rfl,a2,hu⟩:=hu.uncons;obtain⟨u3,us3,rfl,a3,hu⟩:=hu.uncons;rw[cT];exact s9.cons a0 (s9.cons a1 (s9.cons a2 (s9.cons (b2r (by rw[B7];exact e1) e3 a3) hu)))
      ·cases h
     ·cases h
   ·cases h
  refine⟨h1,?_⟩;intro rows
  induction rows with
  | nil=>intro ts m h;rw[a8u] at h;cases h;exact⟨rfl,by rw[o8];rfl,λi r r' h=>by simp at h⟩
  | cons r rs ihr =>
   intro ts m h;rw[a8u] at h
   split at h
   ·rename_i t m1 ht
    split at h
    ·rename_i ts' k hts;cases h;obtain⟨e1,e2,e3⟩:=ihr _ _ hts;obtain⟨a1,a2⟩:=h1 _ _ _ ht;refine⟨by simp[e1],by rw[o8,c37,a2,e2],λi r1 r2 hr1 hr2=>?_⟩;cases i with
     | zero =>
      simp at hr1
      subst hr1;rw[rT] at hr2
      simp at hr2
      subst hr2;refine⟨a1,?_⟩;obtain⟨op,nm,n,ks⟩:=t;rw[cT];rfl
     | succ i=>rw[rT] at hr2;exact e3 i r1 r2 (by simpa using hr1) (by simpa using hr2)
    ·cases h
   ·cases h
theorem l6.alike {f:Nat} {rs rs' q:List R} (h:l6 f rs' q) (ha:∀I w vs,a3I I w vs rs->a3I I w vs rs'):l6 f rs q:=⟨h.1,λI w args hI hat=>h.2 I w args hI (ha I w args hat)⟩
theorem b8S {I:Nat->Nat->Prop} {w:World} {v:Value} {ds es:List D} (ha:a8v ds es) (h:AtR I w v (.ag ds)):AtR I w v (.ag es):=by
 obtain⟨us,e,hu⟩:=h;exact⟨us,e,ha I w us hu⟩
end Go.Proofs.YtlofmibkljoapaaDoor.Vm
end
section
namespace Go.Proofs.YtlofmibkljoapaaDoor.Vm
open Go.RowKit
set_option maxRecDepth 100000
set_option maxHeartbeats 8000000
def zA:ByteArray:=⟨#[97]⟩
def zB:ByteArray:=⟨#[98]⟩
def zE:ByteArray:=⟨#[]⟩
def gT:Ty:=.mk 5 zE 0 [.mk 11 zA 0 [.mk 7 zE 0 [],.mk 10 zE 1 []]]
def sT:Ty:=.mk 5 zE 0 [.mk 11 zB 0 [.mk 1 zE 0 [],.mk 11 zA 0 [.mk 2 zE 0 [],.mk 8 zE 0 []]]]
theorem b2s:G7 gT sT=some [(0,.mk 2 zE 0 []),(1,.mk 11 zB 0 [.mk 1 zE 0 [],.mk 8 zE 0 []])]:=by kernel_rfl
theorem b65:rB [((0:Int),Ty.mk 2 zE 0 []),(1,Ty.mk 11 zB 0 [Ty.mk 1 zE 0 [],Ty.mk 8 zE 0 []])]=[[.sc (.int .i64 0),.sc (.int .u8 2),.sc (.string zE),.sc (.int .i64 0),.sl 4 []],[.sc (.int .i64 1),.sc (.int .u8 11),.sc (.string zB),.sc (.int .i64 0),.sl 4 [[.sc (.int .u8 1),.sc (.string zE),.sc (.int .i64 0),.sl 4 []],[.sc (.int .u8 8),.sc (.string zE),.sc (.int .i64 0),.sl 4 []]]]]:=by kernel_rfl
theorem c0F (t:Ty) (h1:Nat.ble t.parts.length 1048576=true) (h2:(t.parts.all λx=>Nat.ble x.name.size 1048576)=true):Sm t :=
 ⟨c4p h1,λx hx=>c4p (c4g.1 h2 x hx)⟩
def dG:List D:=[.sc (.int .u8 5),.sc (.string ⟨⟨[]⟩⟩),.sc (.int .i64 0),.sl 4 [[.sc (.int .u8 11),.sc (.string ⟨⟨[97]⟩⟩),.sc (.int .i64 0),.sl 4 [[.sc (.int .u8 7),.sc (.string ⟨⟨[]⟩⟩),.sc (.int .i64 0),.sl 0 []],[.sc (.int .u8 10),.sc (.string ⟨⟨[]⟩⟩),.sc (.int .i64 1),.sl 0 []]]]]]
def dS:List D:=[.sc (.int .u8 5),.sc (.string ⟨⟨[]⟩⟩),.sc (.int .i64 0),.sl 4 [[.sc (.int .u8 11),.sc (.string ⟨⟨[98]⟩⟩),.sc (.int .i64 0),.sl 4 [[.sc (.int .u8 1),.sc (.string ⟨⟨[]⟩⟩),.sc (.int .i64 0),.sl 0 []],[.sc (.int .u8 11),.sc (.string ⟨⟨[97]⟩⟩),.sc (.int .i64 0),.sl 4 [[.sc (.int .u8 2),.sc (.string ⟨⟨[]⟩⟩),.sc (.int .i64 0),.sl 0 []],[.sc (.int .u8 8),.sc (.string ⟨⟨[]⟩⟩),.sc (.int .i64 0),.sl 0 []]]]]]]]
theorem c2N:b0B 60 dG=some (gT,4):=by kernel_rfl
theorem c2O:b0B 60 dS=some (sT,6):=by kernel_rfl
def b0C (rs:List R):Option (List R):=match T6 a7P rs [.ag dG,.ag dS] with
 | true=>some [.one (.sl 5 [[.sc (.int .i64 0),.sc (.int .u8 2),.sc (.string zE),.sc (.int .i64 0),.sl 4 []],[.sc (.int .i64 1),.sc (.int .u8 11),.sc (.string zB),.sc (.int .i64 0),.sl 4 [[.sc (.int .u8 1),.sc (.string zE),.sc (.int .i64 0),.sl 4 []],[.sc (.int .u8 8),.sc (.string zE),.sc (.int .i64 0),.sl 4 []]]]]),.one (.sc (.bool true))]
 | false=>none
theorem b3A (rs q:List R) (h:b0C rs=some q):l6 16 rs q:=by
 unfold b0C at h
 split at h
 ·rename_i he;have he:=H0 (λ_ _ h=>a5b h) he;subst he;injection h with h;subst h;rw[<-b65];have h1:=b4Z gT sT (c0F _ (by kernel_rfl) (by kernel_rfl)) (c0F _ (by kernel_rfl) (by kernel_rfl));rw[b2s,c5N,c5A] at h1;refine h1.alike λI w vs hv=>?_
  match vs,hv with
  | [v1,v2],⟨a1,a2,_⟩=>exact⟨b8S ((b8R 60).1 _ _ _ c2N).1 a1,b8S ((b8R 60).1 _ _ _ c2O).1 a2,trivial⟩
 ·cases h
end Go.Proofs.YtlofmibkljoapaaDoor.Vm
end

/- Part 21 of the proof. Conditions: none. -/
import Derived.Test.YtahpnackkmbmgaaGreatE4
import Derived.Test.YtahpnackkmbmgaaGreatE14
import Derived.Test.YtahpnackkmbmgaaGreatE18
import Derived.Test.YtahpnackkmbmgaaGreatE20
import Derived.Test.YtahpnackkmbmgaaGreatE0
set_option linter.all false
set_option linter.unusedVariables false
set_option linter.unusedSimpArgs false
section
namespace Go.Proofs.YtahpnackkmbmgaaGreat.Vm
open Go.RowKit
set_option maxRecDepth 100000
set_option maxHeartbeats 4000000
abbrev FdD (T:List (List D)) (a L:Int) (x:D) (n c:Int):Prop:=o9 134 [.one (.sl 4 T),.one (.sc (.int .i64 a)),.one (.sc (.int .i64 L))] [.one x,.one (.sc (.int .i64 n)),.one (.sc (.int .i64 c))]
def c5c (T:List (List D)) (a k:Int) (s:ByteArray):Prop:=0≤a∧∃n0 p0:Int,T[a.toNat]?=some [.sc (.int .u8 k),.sc (.string s),.sc (.int .i64 n0),.sc (.int .i64 p0)]
theorem c5d {T:List (List D)} {a L k:Int} {s0:ByteArray} (hT:T.length≤1048576) (hk:k≠1) (ht:c5c T a k s0):FdD T a L (.sl 0 []) a 0:=by
 obtain ⟨ha,n0,p0,hg⟩:=ht
 have hlt:=(d2Q.1 hg).1
 refine N2 Tryz.func134 rfl ?_;intro _ _ _ _ _ _ _ _ _ qk _ _ _ _ _ _ _ _ _ _ _ _ _ vc;intros;rename_i hA
 obtain ⟨e1,e2,e3,e4,e5,e6,e7,e8,e9⟩:=j7 hA
 obtain ⟨r1,r2,r3,r4⟩:=A8 hA
 have g1:vc T a=some [.sc (.int .u8 k),.sc (.string s0),.sc (.int .i64 n0),.sc (.int .i64 p0)]:=by rw [r2,d2S (by omega)];exact hg
 have g2:qk k 1=false:=by rw [e9];exact d2U hk
 try cbv;exact fr
def c7X (T:List (List D)) (L:Int) (xd:D) (nf cf:Int) (inv:Int→List (List D)→Nat→Prop) (a:Int) (R:List (List D)) (m:Nat):Prop :=
 ∃(k:Int) (s0:ByteArray),c5c T a k s0∧((k≠1∧xd=.sl 0 []∧nf=a∧cf=5)∨(k=1∧((F7 T a2G (a+1) false∧xd=.sl 0 []∧nf=a+1∧cf=5) ∨
  (F7 T a2G (a+1) true∧∃(x0 x1 x2 x3:D) (n c:Int),RdZ 109 T (a+2) (L+1) [x0,x1,x2,x3] n c∧((c≠0∧xd=.sl 0 []∧nf=n∧cf=c)∨(c=0∧0≤n∧n≤1048576 ∧
   ((F7 T a1F n false∧xd=.sl 5 (R++[[.sc (.string s0),x0,x1,x2,x3]])∧nf=n∧cf=0)∨(∃m2,F7 T a1F n true∧inv (n+1) (R++[[.sc (.string s0),x0,x1,x2,x3]]) m2∧m2<m))))))))
theorem c5e {T:List (List D)} {a L:Int} {s0:ByteArray} {xd:D} {nf cf:Int} {m0:Nat} (hT:T.length≤1048576) (hL0:0≤L) (hL:L≤1048576) (ht:c5c T a 1 s0) (inv:Int→List (List D)→Nat→Prop) (h0:inv a [] m0)
  (hst:∀(a:Int) (R:List (List D)) (m:Nat),inv a R m→R.length<1048576∧c7X T L xd nf cf inv a R m):FdD T a L xd nf cf:=by
 obtain ⟨ha,n0,p0,hg⟩:=ht
 have hlt:=(d2Q.1 hg).1
 obtain ⟨L1,hL1⟩:∃L1,L1=L+1:=⟨_,rfl⟩
 refine N2 Tryz.func134 rfl ?_;intro qa qb _ _ _ _ _ _ _ qk _ _ _ _ _ _ _ _ _ _ _ _ _ vc _ ve;intros;rename_i hA
 obtain ⟨e1,e2,e3,e4,e5,e6,e7,e8,e9⟩:=j7 hA
 obtain ⟨r1,r2,r3,r4⟩:=A8 hA
 have g1:vc T a=some [.sc (.int .u8 1),.sc (.string s0),.sc (.int .i64 n0),.sc (.int .i64 p0)]:=by rw [r2,d2S (by omega)];exact hg
 have g2:qk 1 1=true:=by rw [e9];rfl
 have gL:qa .i64 (qb L 1)=L1:=by rw [e1,e2,IntWalk.i64_in _ (by omega)];exact hL1.symm
 have g00:qk 0 0=true:=by rw [e9];rfl
 cbv
 with_reducible apply f8 hA
 cbv
 refine a2j hA 9 164 true rfl ?_
 cbv
 try cbv;refine gr ?_;try simp only [nc] at *
 refine j9 hA (γ:=Int×List (List D)×Nat) (fun x=>[(1,vi .i64 x.1),(9,.own 0)]) (fun x=>[(0,.row true 164 x.2.1)]) (fun x=>inv x.1 x.2.1 x.2.2) (fun x=>x.2.2) (a,[],m0) ?_ ?_ ?_
 ·exact h0
 ·cbv
 ·intro x hinv
  obtain ⟨z,R,m⟩:=x
  cbv
  obtain ⟨hlen,k,s1,⟨hz,n1,p1,hg1⟩,hs⟩:=hst z R m hinv
  have hlt1:=(d2Q.1 hg1).1
  have g3:vc T z=some [.sc (.int .u8 k),.sc (.string s1),.sc (.int .i64 n1),.sc (.int .i64 p1)]:=by rw [r2,d2S (by omega)];exact hg1
  clear h0 g1 hst hinv
  obtain ⟨b,hb⟩:∃b,b=z+1:=⟨_,rfl⟩
  obtain ⟨d,hd⟩:∃d,d=z+2:=⟨_,rfl⟩
  have gb:qa .i64 (qb z 1)=b:=by rw [e1,e2,IntWalk.i64_in _ (by omega)];exact hb.symm
  have gd:qa .i64 (qb z 2)=d:=by rw [e1,e2,IntWalk.i64_in _ (by omega)];exact hd.symm
  rw [←hb,←hd,←hL1] at hs
  rcases hs with ⟨hk,rfl,rfl,rfl⟩|⟨rfl,⟨hc,rfl,rfl,rfl⟩|⟨hc,x0,x1,x2,x3,n,c,hr,⟨hc0,rfl,rfl,rfl⟩|⟨rfl,hn0,hn,⟨hcm,rfl,rfl,rfl⟩|⟨m2,hcm,hi,hm⟩⟩⟩⟩
  ·have g4:qk k 1=false:=by rw [e9];exact d2U hk
   try cbv;exact fr
  ·iterate 2 (try cbv;repeat ((first|with_reducible apply f8 hA|rw [g3]|rw [g2]|rw [gb]|refine f9 hA _ hc rfl ?_|refine i7 hA _ hc ?_);cbv))
  ·have g5:qk cf 0=false:=by rw [e9];exact d2U hc0
   iterate 2 (try cbv;repeat ((first|with_reducible apply f8 hA|rw [g3]|rw [g2]|rw [gb]|rw [gd]|rw [gL]|rw [g5]|refine f9 hA _ hc rfl ?_|refine i7 hA _ hc ?_|refine f9 hA _ hr rfl ?_|refine i7 hA _ hr ?_);cbv))
  ·have g6:ve R [[.sc (.string s1),x0,x1,x2,x3]]=R++[[.sc (.string s1),x0,x1,x2,x3]]:=by rw [r4]
   obtain ⟨R2,hR2⟩:∃R2,R2=R++[[.sc (.string s1),x0,x1,x2,x3]]:=⟨_,rfl⟩
   rw [←hR2] at g6 ⊢
   iterate 2 (try cbv;repeat ((first|with_reducible apply f8 hA|rw [g3]|rw [g2]|rw [gb]|rw [gd]|rw [gL]|rw [g00]|rw [g6]|refine f9 hA _ hc rfl ?_|refine i7 hA _ hc ?_|refine f9 hA _ hr rfl ?_|refine i7 hA _ hr ?_|refine f9 hA _ hcm rfl ?_|refine i7 hA _ hcm ?_|refine A6 hA true ?_|(refine B3 hA (by simp only [d2X,d3g];omega) ?_));cbv))
  ·have g6:ve R [[.sc (.string s1),x0,x1,x2,x3]]=R++[[.sc (.string s1),x0,x1,x2,x3]]:=by rw [r4]
   obtain ⟨R2,hR2⟩:∃R2,R2=R++[[.sc (.string s1),x0,x1,x2,x3]]:=⟨_,rfl⟩
   obtain ⟨q,hq⟩:∃q,q=n+1:=⟨_,rfl⟩
   have gq:qa .i64 (qb n 1)=q:=by rw [e1,e2,IntWalk.i64_in _ (by omega)];exact hq.symm
   rw [←hR2,←hq] at hi
   rw [←hR2] at g6
   iterate 2 (try cbv;repeat ((first|with_reducible apply f8 hA|rw [g3]|rw [g2]|rw [gb]|rw [gd]|rw [gL]|rw [g00]|rw [g6]|rw [gq]|refine f9 hA _ hc rfl ?_|refine i7 hA _ hc ?_|refine f9 hA _ hr rfl ?_|refine i7 hA _ hr ?_|refine f9 hA _ hcm rfl ?_|refine i7 hA _ hcm ?_|refine A6 hA true ?_|(refine B3 hA (by simp only [d2X,d3g];omega) ?_));cbv))
   try simp (maxSteps:=4000000) only [nc] at *
   refine ⟨(q,R2,m2),hi,hm,?_⟩
   cbv
def G5 (c:Int):Prop:=c=0∨c=5∨c=6
def CdR (rd:PE→Ty×PE):Prop:=∀p:PE,G5 p.2→G5 (rd p).2.2
theorem F9 {ts:List Tok} {s:ByteArray} {p:PE} (h:G5 p.2):G5 (j0 ts s p).2:=by
 unfold j0
 split
 ·exact h
 ·split
  ·exact .inl rfl
  ·exact .inr (.inl rfl)
theorem a26 {p:PE} (c:Int) (hc:G5 c) (h:G5 p.2):G5 (E7 c p).2:=by
 unfold E7
 split
 ·exact h
 ·exact hc
theorem b4R {rd:PE→Ty×PE} {ts:List Tok} (hr:CdR rd) {p:PE} (h:G5 p.2):G5 (E6 rd ts p).2.2:=by
 unfold E6
 split
 ·exact a26 5 (.inr (.inl rfl)) h
 ·exact hr _ (F9 h)
theorem b1Q {rd:PE→Ty×PE} {ts:List Tok} (hr:CdR rd):∀(k:Nat) (p:PE) (l:List (ByteArray×Ty)),G5 p.2→G5 (M3 rd ts k p l).2.2
 | 0,p,l,h=>h
 | k+1,p,l,h=>by
  rw [M3]
  split
  ·exact b1Q hr k _ _ (b4R hr (.inl rfl))
  ·exact h
theorem c5f {rd:PE→Ty×PE} {ts:List Tok} (hr:CdR rd) {p:PE} (h:G5 p.2):G5 (M4 rd ts p).2.2:=by
 unfold M4
 split
 ·exact b1Q hr _ _ _ (b4R hr h)
 ·exact h
theorem c2R {rd:PE→Ty×PE} {ts:List Tok} (hr:CdR rd) {p:PE} (h:G5 p.2):G5 (a2x rd ts p).2.2:=by
 unfold a2x tlW
 split
 ·exact F9 (.inl rfl)
 ·exact c5f hr h
theorem c5g {rd:PE→Ty×PE} {ts:List Tok} (hr:CdR rd) {p:PE} (h:G5 p.2):G5 (Q8 rd ts p).2.2:=by
 unfold Q8
 repeat' split
 ·exact .inl rfl
 ·exact .inl rfl
 ·exact .inl rfl
 ·exact F9 (hr _ (.inl rfl))
 ·exact F9 (c2R hr (.inl rfl))
 ·exact F9 (c2R hr (.inl rfl))
 ·exact a26 5 (.inr (.inl rfl)) h
theorem a6L (ts:List Tok):∀n:Nat,CdR (n9 ts n)
 | 0,p,h=>by rw [n9];exact a26 6 (.inr (.inr rfl)) h
 | n+1,p,h=>by
  rw [n9]
  split
  ·exact h
  ·split
   ·exact a6L ts n _ (.inl rfl)
   ·exact c5g (a6L ts n) h
theorem E8 (ts:List Tok) (s:ByteArray) (a:Nat):A2 ts s (a,0)=L7 (j6 ts a) s:=by unfold A2;rfl
theorem a0O {ts:List Tok} {s:ByteArray} {p:PE} (h:p.2≠0):A2 ts s p=false:=by unfold A2;rw [d2Y h];rfl
theorem B9 {ts:List Tok} {s:ByteArray} {p:PE} (h:p.2≠0):j0 ts s p=p:=d2S h
theorem T9 {ts:List Tok} {s:ByteArray} {p:PE} (h:p.2=0) (hg:L7 (j6 ts p.1) s=true):j0 ts s p=(p.1+1,0):=by unfold j0;rw [d2T (fun x=>x h),d2S hg]
theorem Y3 {ts:List Tok} {s:ByteArray} {p:PE} (h:p.2=0) (hg:¬L7 (j6 ts p.1) s=true):j0 ts s p=(p.1,5):=by unfold j0;rw [d2T (fun x=>x h),d2T hg]
theorem sgY {ts:List Tok} {a:Nat} {s:ByteArray} (ha:a<ts.length) (hl:ts.length≤65537) (h:L7 (j6 ts a) s=true):F7 (C9 ts) s (a:Int) true:=h ▸ b6f ts a ha (by omega) s
theorem sgF {ts:List Tok} {a:Nat} {s:ByteArray} (ha:a<ts.length) (hl:ts.length≤65537) (h:¬L7 (j6 ts a) s=true):F7 (C9 ts) s (a:Int) false:=(d5c.2 h) ▸ b6f ts a ha (by omega) s
theorem RdZ.lf {f:Nat} {T:List (List D)} {a L n c:Int} {o:Int} (h:RdZ f T a L (lf0 o) n c):RdZ f T a L (cT (lfT o)) n c:=by
 have h2:RdZ f T a L [.sc (.int .u8 o),.sc (.string F8),.sc (.int .i64 0),.sl 4 []] n c:=o9.likeq h ⟨a2p o,.same _,.same _,trivial⟩
 unfold RdZ
 rw [cT,rT]
 exact h2
def c2S (ts:List Tok) (n:Nat) (L:Int):Prop:=∀a:Nat,a<ts.length→∃g:Ty,RdZ 109 (C9 ts) (a:Int) L (cT g) ((n9 ts n (a,0)).2.1:Int) (n9 ts n (a,0)).2.2∧((n9 ts n (a,0)).2.2=0→g=(n9 ts n (a,0)).1)
theorem c2T {ts:List Tok} {a:Nat} (ha:a<ts.length):c5c (C9 ts) (a:Int) (j6 ts a).kind (j6 ts a).text:=⟨by omega,_,_,by rw [show ((a:Int)).toNat=a by omega];exact a80 (P4 ha)⟩
theorem b4S {ts:List Tok} (hE:o5 ts) (hl:ts.length≤65537) {n:Nat} {L:Int} (hL0:0≤L) (hL:L≤1048576) (hr:c2S ts n (L+1)) (a:Nat) (ha:a<ts.length) :
  ∃X:List (List D),FdZ (C9 ts) (a:Int) L X ((M4 (n9 ts n) ts (a,0)).2.1:Int) (M4 (n9 ts n) ts (a,0)).2.2∧((M4 (n9 ts n) ts (a,0)).2.2=0→X=rF (M4 (n9 ts n) ts (a,0)).1):=by
 have hT:(C9 ts).length≤1048576:=by rw [a4N];omega
 have hf:=P7 hE n
 have ht:=c2T ha
 have like0:∀ {nn cc:Int},FdD (C9 ts) (a:Int) L (.sl 0 []) nn cc→FdZ (C9 ts) (a:Int) L [] nn cc:=fun h=>o9.likeq h ⟨.one (.nil _ _),.same _,.same _,trivial⟩
 by_cases hk:(j6 ts a).kind=1
 ·rw [hk] at ht
  have hhd:M4 (n9 ts n) ts (a,0)=M3 (n9 ts n) ts ts.length (E6 (n9 ts n) ts (a,0)).2 ([]++[(E6 (n9 ts n) ts (a,0)).1]):=by unfold M4;rw [d2S hk];rfl
  generalize M4 (n9 ts n) ts (a,0)=H at *
  have key:FdD (C9 ts) (a:Int) L (if H.2.2=0 then .sl 5 (rF H.1) else .sl 0 []) (H.2.1:Int) H.2.2:=by
   refine c5e (m0:=ts.length) hT hL0 hL ht (fun z R m=>∃(b:Nat) (l:List (ByteArray×Ty)),z=(b:Int)∧R=rF l∧b<ts.length∧2 * l.length≤b∧ts.length - b≤m∧H=M3 (n9 ts n) ts m (E6 (n9 ts n) ts (b,0)).2 (l++[(E6 (n9 ts n) ts (b,0)).1])) ⟨a,[],rfl,rfl,ha,d3t _,Nat.sub_le ..,hhd⟩ ?_
   rintro z R m ⟨b,l,rfl,rfl,hb,hll,hm,hH⟩
   refine ⟨by rw [a1G];omega,(j6 ts b).kind,(j6 ts b).text,c2T hb,?_⟩
   obtain ⟨m,rfl⟩:∃k,m=k+1:=⟨m - 1,by omega⟩
   rw [M3] at hH
   by_cases hkb:(j6 ts b).kind=1
   ·have hb1:=hE b hb (by rw [hkb];decide)
    by_cases hc:L7 (j6 ts (b+1)) a2G=true
    ·have hb2:=hE (b+1) hb1 (by rw [F0 hc];decide)
     have hfw:E6 (n9 ts n) ts (b,0)=(((j6 ts b).text,(n9 ts n (b+2,0)).1),(n9 ts n (b+2,0)).2):=by
      unfold E6
      rw [d2T (fun h=>h hkb),T9 (p:=(b+1,0)) rfl hc]
     obtain ⟨g,hg1,hg2⟩:=hr (b+2) hb2
     have hfu:=(hf (b+2,0) hb2).1
     rw [hfw] at hH
     generalize n9 ts n (b+2,0)=u at *
     obtain ⟨x0,x1,x2,x3,hx⟩:=l8 g
     rw [hx] at hg1
     refine .inr ⟨hkb,.inr ⟨sgY hb1 hl hc,x0,x1,x2,x3,_,_,hg1,?_⟩⟩
     by_cases hu:u.2.2=0
     ·have hug:=hg2 hu
      have hlo:=hfu.lo
      have hhi:=hfu.hi
      simp only at hlo
      refine .inr ⟨hu,by omega,by omega,?_⟩
      have e1:rF (l++[((j6 ts b).text,u.1)])=rF l++[[.sc (.string (j6 ts b).text),x0,x1,x2,x3]]:=by rw [b2O,←hug,hx]
      by_cases hcm:L7 (j6 ts u.2.1) a1F=true
      ·have hs:A2 ts a1F u.2=true:=by unfold A2;rw [hu,hcm];rfl
       rw [d2S hs] at hH
       have hb3:=hE u.2.1 hhi (by rw [F0 hcm];decide)
       exact .inr ⟨m,sgY hhi hl hcm,⟨u.2.1+1,_,rfl,e1.symm,hb3,by rw [d2R,d4e];omega,by omega,hH⟩,Nat.lt_succ_self m⟩
      ·have hs:¬A2 ts a1F u.2=true:=by unfold A2;rw [hu];simpa using hcm
       rw [d2T hs] at hH
       rw [hH]
       exact .inl ⟨sgF hhi hl hcm,by rw [d2S hu,←e1],rfl,hu⟩
     ·have hs:¬A2 ts a1F u.2=true:=by rw [a0O hu];decide
      rw [d2T hs] at hH
      rw [hH]
      exact .inl ⟨hu,d2T hu,rfl,rfl⟩
    ·have hfw:E6 (n9 ts n) ts (b,0)=(((j6 ts b).text,r7),(b+1,5)):=by
      unfold E6
      rw [d2T (fun h=>h hkb),Y3 (p:=(b+1,0)) rfl hc,(hf (b+1,5) hb1).2 (show (5:Int)≠0 by decide)]
     rw [hfw,d2T (by rw [a0O (p:=(b+1,5)) (show (5:Int)≠0 by decide)];decide)] at hH
     rw [hH]
     exact .inr ⟨hkb,.inl ⟨sgF hb1 hl hc,d2T (show (5:Int)≠0 by decide),rfl,rfl⟩⟩
   ·have hfw:E6 (n9 ts n) ts (b,0)=((F8,r7),(b,5)):=by
     unfold E6 E7
     rw [d2S hkb,d2T (fun h=>h rfl)]
    rw [hfw,d2T (by rw [a0O (p:=(b,5)) (show (5:Int)≠0 by decide)];decide)] at hH
    rw [hH]
    exact .inl ⟨hkb,d2T (show (5:Int)≠0 by decide),rfl,rfl⟩
  by_cases h0:H.2.2=0
  ·rw [d2S h0] at key
   exact ⟨_,key,fun _=>rfl⟩
  ·rw [d2T h0] at key
   exact ⟨_,like0 key,fun h=>absurd h h0⟩
 ·have hhd:M4 (n9 ts n) ts (a,0)=([],(a,0)):=by unfold M4;rw [d2T hk]
  rw [hhd]
  exact ⟨_,like0 (c5d hT hk ht),fun _=>rfl⟩
theorem a77 {t:Tok} {s s2:ByteArray} (h:L7 t s=true) (hne:(s.data.toList == s2.data.toList)=false):¬L7 t s2=true:=by
 unfold L7 at h ⊢
 rw [d2Z,d3F,d3F] at h
 rw [h.2,ByteArray.toList_eq,ByteArray.toList_eq,hne,d4I]
 decide
theorem c7Y {ts:List Tok} (hE:o5 ts) (hl:ts.length≤65537) {n:Nat} {L:Int} (hL0:0≤L) (hL2:L≤1048576) (hr:c2S ts n (L+1)) (a:Nat) (ha:a<ts.length) :
  ∃g:Ty,RdZ 124 (C9 ts) (a:Int) L (cT g) ((Q8 (n9 ts n) ts (a,0)).2.1:Int) (Q8 (n9 ts n) ts (a,0)).2.2∧((Q8 (n9 ts n) ts (a,0)).2.2=0→g=(Q8 (n9 ts n) ts (a,0)).1):=by
 have hf:=P7 hE n
 unfold Q8
 by_cases h1:A2 ts T4 (a,0)=true
 ·rw [d2S h1]
  exact ⟨_,(d2f (by omega) (by omega) (sgY ha hl (E8 ts _ a ▸ h1))).lf,fun _=>rfl⟩
 rw [d2T h1]
 have n1:=sgF ha hl (E8 ts _ a ▸ h1)
 by_cases h2:A2 ts G7 (a,0)=true
 ·rw [d2S h2]
  exact ⟨_,(d2g (by omega) (by omega) n1 (sgY ha hl (E8 ts _ a ▸ h2))).lf,fun _=>rfl⟩
 rw [d2T h2]
 have n2:=sgF ha hl (E8 ts _ a ▸ h2)
 by_cases h3:A2 ts J7 (a,0)=true
 ·rw [d2S h3]
  exact ⟨_,(d2h (by omega) (by omega) n1 n2 (sgY ha hl (E8 ts _ a ▸ h3))).lf,fun _=>rfl⟩
 rw [d2T h3]
 have n3:=sgF ha hl (E8 ts _ a ▸ h3)
 by_cases h4:A2 ts U5 (a,0)=true
 ·rw [d2S h4]
  have s2:=(I8 hE ha h4).2
  obtain ⟨g,hg1,hg2⟩:=hr (a+1) s2
  have hfu:=(hf (a+1,0) s2).1
  have hcd:=a6L ts n (a+1,0) (.inl rfl)
  generalize n9 ts n (a+1,0)=u at *
  have hhi:=hfu.hi
  have y4:=sgY ha hl (E8 ts _ a ▸ h4)
  have hb0:(0:Int)≤(u.2.1:Int):=by omega
  have hb1:(u.2.1:Int)≤1048576:=by omega
  have hcc:u.2.2≠0→2≤u.2.2:=fun h=>by unfold G5 at hcd;omega
  by_cases h0:u.2.2=0
  ·rw [h0] at hg1
   by_cases hc:L7 (j6 ts u.2.1) a5k=true
   ·rw [T9 h0 hc]
    exact ⟨g,c5a (by omega) (by omega) hL0 hL2 n1 n2 n3 y4 hg1 (sgY hhi hl hc) hb0 hb1,fun _=>hg2 h0⟩
   ·rw [Y3 h0 hc]
    exact ⟨g,c2Q (by omega) (by omega) hL0 hL2 n1 n2 n3 y4 hg1 (sgF hhi hl hc) hb0 hb1,fun h=>absurd (show (5:Int)=0 from h) (by decide)⟩
  ·rw [B9 h0]
   exact ⟨g,c2P (by omega) (by omega) hL0 hL2 n1 n2 n3 y4 hg1 h0 (hcc h0) hb0 hb1,fun h=>absurd h h0⟩
 rw [d2T h4]
 have n4:=sgF ha hl (E8 ts _ a ▸ h4)
 by_cases h_:A2 ts a5E (a,0)=true
 ·rw [d2S h_]
  have s2:=(I8 hE ha h_).2
  have hfh:=a4u hE hf (a+1,0) s2
  obtain ⟨X,hX1,hX2⟩:=b4S hE hl hL0 hL2 hr (a+1) s2
  unfold a2x
  generalize M4 (n9 ts n) ts (a+1,0)=H at *
  have hhi:=hfh.hi
  have hsz:=hfh.sz
  have hfl:=a83 H.1
  have hofs:∀o:Int,o9 116 [.one (.sl 5 (rF H.1)),.ag (lf0 o)] [.ag (cT (a0y H.1 (lfT o)))]:=fun o=>by
   have h:=c6Y H.1 (lfT o) (by simp only at hsz;omega)
   rw [show cT (lfT o)=[.sc (.int .u8 o),.sc (.string F8),.sc (.int .i64 0),.sl 4 []] by rw [cT,rT]] at h
   exact h.like ⟨.same _,a2p o,trivial⟩
  by_cases h0:H.2.2=0
  ·have hXe:=hX2 h0
   subst hXe
   rw [h0] at hX1
   unfold tlW
   by_cases hb:L7 (j6 ts H.2.1) a1T=true
   ·rw [d2S (show A2 ts a1T H.2=true by unfold A2;rw [h0,hb];rfl)]
    have hb1:=hE _ hhi (by rw [F0 hb];decide)
    by_cases hd:L7 (j6 ts (H.2.1+1)) J7=true
    ·have hb2:=hE _ hb1 (by rw [F0 hd];decide)
     rw [T9 (p:=(H.2.1+1,0)) rfl hd]
     by_cases hc:L7 (j6 ts (H.2.1+1+1)) a63=true
     ·rw [T9 (p:=(H.2.1+1+1,0)) rfl hc]
      exact ⟨_,c7S (by omega) (by omega) hL0 hL2 n1 n2 n3 n4 (sgF ha hl (a77 (E8 ts _ a ▸ h_) rfl)) (sgY ha hl (E8 ts _ a ▸ h_)) hX1 (by omega) (by omega) (sgY hhi hl hb) (sgY hb1 hl hd) (sgY hb2 hl hc) (hofs 9),fun _=>rfl⟩
     ·rw [Y3 (p:=(H.2.1+1+1,0)) rfl hc]
      exact ⟨_,(c7R (by omega) (by omega) hL0 hL2 n1 n2 n3 n4 (sgF ha hl (a77 (E8 ts _ a ▸ h_) rfl)) (sgY ha hl (E8 ts _ a ▸ h_)) hX1 (by omega) (by omega) (sgY hhi hl hb) (sgY hb1 hl hd) (sgF hb2 hl hc)).lf,fun h=>absurd (show (5:Int)=0 from h) (by decide)⟩
    ·rw [Y3 (p:=(H.2.1+1,0)) rfl hd,B9 (p:=(H.2.1+1,5)) (show (5:Int)≠0 by decide)]
     exact ⟨_,(d07 (by omega) (by omega) hL0 hL2 n1 n2 n3 n4 (sgF ha hl (a77 (E8 ts _ a ▸ h_) rfl)) (sgY ha hl (E8 ts _ a ▸ h_)) hX1 (by omega) (by omega) (sgY hhi hl hb) (sgF hb1 hl hd)).lf,fun h=>absurd (show (5:Int)=0 from h) (by decide)⟩
   ·rw [d2T (show ¬A2 ts a1T H.2=true by unfold A2;rw [h0];simpa using hb)]
    by_cases hc:L7 (j6 ts H.2.1) a63=true
    ·rw [T9 (p:=H.2) h0 hc]
     exact ⟨_,c7Q (by omega) (by omega) hL0 hL2 n1 n2 n3 n4 (sgF ha hl (a77 (E8 ts _ a ▸ h_) rfl)) (sgY ha hl (E8 ts _ a ▸ h_)) hX1 (by omega) (by omega) (sgF hhi hl hb) (sgY hhi hl hc) (hofs 8),fun _=>rfl⟩
    ·rw [Y3 (p:=H.2) h0 hc]
     exact ⟨_,(c7P (by omega) (by omega) hL0 hL2 n1 n2 n3 n4 (sgF ha hl (a77 (E8 ts _ a ▸ h_) rfl)) (sgY ha hl (E8 ts _ a ▸ h_)) hX1 (by omega) (by omega) (sgF hhi hl hb) (sgF hhi hl hc)).lf,fun h=>absurd (show (5:Int)=0 from h) (by decide)⟩
  ·unfold tlW
   rw [d2T (show ¬A2 ts a1T H.2=true by rw [a0O h0];decide),B9 h0]
   exact ⟨_,(d06 (by omega) (by omega) hL0 hL2 n1 n2 n3 n4 (sgF ha hl (a77 (E8 ts _ a ▸ h_) rfl)) (sgY ha hl (E8 ts _ a ▸ h_)) hX1 h0).lf,fun h=>absurd h h0⟩
 rw [d2T h_]
 have n5:=sgF ha hl (E8 ts _ a ▸ h_)
 clear h_
 by_cases h_:A2 ts a3h (a,0)=true
 ·rw [d2S h_]
  have s2:=(I8 hE ha h_).2
  have hfh:=a4u hE hf (a+1,0) s2
  obtain ⟨X,hX1,hX2⟩:=b4S hE hl hL0 hL2 hr (a+1) s2
  unfold a2x
  generalize M4 (n9 ts n) ts (a+1,0)=H at *
  have hhi:=hfh.hi
  have hsz:=hfh.sz
  have hfl:=a83 H.1
  have hofs:∀o:Int,o9 116 [.one (.sl 5 (rF H.1)),.ag (lf0 o)] [.ag (cT (a0y H.1 (lfT o)))]:=fun o=>by
   have h:=c6Y H.1 (lfT o) (by simp only at hsz;omega)
   rw [show cT (lfT o)=[.sc (.int .u8 o),.sc (.string F8),.sc (.int .i64 0),.sl 4 []] by rw [cT,rT]] at h
   exact h.like ⟨.same _,a2p o,trivial⟩
  by_cases h0:H.2.2=0
  ·have hXe:=hX2 h0
   subst hXe
   rw [h0] at hX1
   unfold tlW
   by_cases hb:L7 (j6 ts H.2.1) a1T=true
   ·rw [d2S (show A2 ts a1T H.2=true by unfold A2;rw [h0,hb];rfl)]
    have hb1:=hE _ hhi (by rw [F0 hb];decide)
    by_cases hd:L7 (j6 ts (H.2.1+1)) J7=true
    ·have hb2:=hE _ hb1 (by rw [F0 hd];decide)
     rw [T9 (p:=(H.2.1+1,0)) rfl hd]
     by_cases hc:L7 (j6 ts (H.2.1+1+1)) a64=true
     ·rw [T9 (p:=(H.2.1+1+1,0)) rfl hc]
      exact ⟨_,c7W (by omega) (by omega) hL0 hL2 n1 n2 n3 n4 (sgY ha hl (E8 ts _ a ▸ h_)) hX1 (by omega) (by omega) (sgY hhi hl hb) (sgY hb1 hl hd) (sgY hb2 hl hc) (hofs 9),fun _=>rfl⟩
     ·rw [Y3 (p:=(H.2.1+1+1,0)) rfl hc]
      exact ⟨_,(c7V (by omega) (by omega) hL0 hL2 n1 n2 n3 n4 (sgY ha hl (E8 ts _ a ▸ h_)) hX1 (by omega) (by omega) (sgY hhi hl hb) (sgY hb1 hl hd) (sgF hb2 hl hc)).lf,fun h=>absurd (show (5:Int)=0 from h) (by decide)⟩
    ·rw [Y3 (p:=(H.2.1+1,0)) rfl hd,B9 (p:=(H.2.1+1,5)) (show (5:Int)≠0 by decide)]
     exact ⟨_,(d09 (by omega) (by omega) hL0 hL2 n1 n2 n3 n4 (sgY ha hl (E8 ts _ a ▸ h_)) hX1 (by omega) (by omega) (sgY hhi hl hb) (sgF hb1 hl hd)).lf,fun h=>absurd (show (5:Int)=0 from h) (by decide)⟩
   ·rw [d2T (show ¬A2 ts a1T H.2=true by unfold A2;rw [h0];simpa using hb)]
    by_cases hc:L7 (j6 ts H.2.1) a64=true
    ·rw [T9 (p:=H.2) h0 hc]
     exact ⟨_,c7U (by omega) (by omega) hL0 hL2 n1 n2 n3 n4 (sgY ha hl (E8 ts _ a ▸ h_)) hX1 (by omega) (by omega) (sgF hhi hl hb) (sgY hhi hl hc) (hofs 8),fun _=>rfl⟩
    ·rw [Y3 (p:=H.2) h0 hc]
     exact ⟨_,(c7T (by omega) (by omega) hL0 hL2 n1 n2 n3 n4 (sgY ha hl (E8 ts _ a ▸ h_)) hX1 (by omega) (by omega) (sgF hhi hl hb) (sgF hhi hl hc)).lf,fun h=>absurd (show (5:Int)=0 from h) (by decide)⟩
  ·unfold tlW
   rw [d2T (show ¬A2 ts a1T H.2=true by rw [a0O h0];decide),B9 h0]
   exact ⟨_,(d08 (by omega) (by omega) hL0 hL2 n1 n2 n3 n4 (sgY ha hl (E8 ts _ a ▸ h_)) hX1 h0).lf,fun h=>absurd h h0⟩
 rw [d2T h_]
 have n6:=sgF ha hl (E8 ts _ a ▸ h_)
 unfold E7
 rw [d2T (fun h=>h rfl)]
 exact ⟨_,(c5b (by omega) (by omega) hL0 hL2 n1 n2 n3 n4 n6 n5).lf,fun h=>absurd (show (5:Int)=0 from h) (by decide)⟩
theorem b6n {ts:List Tok} (hE:o5 ts) (hl:ts.length≤65537):∀(n:Nat) (L:Int),T6 n L→c2S ts n L
 | 0,L,hv,a,ha=>by
  have hL:200<L:=by unfold T6 at hv;omega
  rw [n9]
  unfold E7
  rw [d2T (fun h=>h rfl)]
  exact ⟨_,(c7k hL).lf,fun h=>absurd (show (6:Int)=0 from h) (by decide)⟩
 | n+1,L,hv,a,ha=>by
  have hv2:T6 n (L+1)∧0≤L∧L≤200:=by
   unfold T6 at hv ⊢
   omega
  obtain ⟨hv2,hL0,hL⟩:=hv2
  have ih:=b6n hE hl n (L+1) hv2
  have hf:=P7 hE n
  obtain ⟨g,hg1,hg2⟩:=c7Y hE hl hL0 (by omega) ih a ha
  have hfa:=a6C hE hf (a,0) ha
  rw [n9,d2T (fun h=>h rfl)]
  generalize Q8 (n9 ts n) ts (a,0)=r at *
  have hhi:=hfa.hi
  by_cases h0:r.2.2=0
  ·by_cases hs:L7 (j6 ts r.2.1) gTo=true
   ·rw [d2S (show A2 ts gTo r.2=true by unfold A2;rw [h0,hs];rfl)]
    have s2:=hE _ hhi (by rw [F0 hs];decide)
    obtain ⟨g2,hu1,hu2⟩:=ih (r.2.1+1) s2
    generalize n9 ts n (r.2.1+1,0)=u at *
    rw [h0] at hg1
    by_cases hu0:u.2.2=0
    ·rw [hu0] at hu1
     refine ⟨.mk 4 F8 0 [g,g2],?_,fun _=>by rw [hg2 h0,hu2 hu0]⟩
     show RdZ _ _ _ _ _ (u.2.1:Int) u.2.2
     rw [hu0]
     exact c92 hL0 hL (by omega) (by omega) hg1 (sgY hhi hl hs) hu1
    ·exact ⟨_,(c7m hL0 hL (by omega) (by omega) hu0 hg1 (sgY hhi hl hs) hu1).lf,fun h=>absurd h hu0⟩
   ·rw [d2T (show ¬A2 ts gTo r.2=true by unfold A2;rw [h0];simpa using hs)]
    rw [h0] at hg1 ⊢
    exact ⟨g,c7l hL hg1 (sgF hhi hl hs),fun _=>hg2 h0⟩
  ·rw [d2T (show ¬A2 ts gTo r.2=true by rw [a0O h0];decide)]
   exact ⟨g,c91 hL h0 hg1,fun h=>absurd h h0⟩
section
theorem wI1 {a:Nat} (h:a≤1048576):wI (a:Int) 1 ((a+1:Nat):Int):=by unfold wI;rw [IntWalk.i64_in _ (by omega)];omega
theorem wI2 {a:Nat} (h:a≤1048576):wI (a:Int) 2 ((a+2:Nat):Int):=by unfold wI;rw [IntWalk.i64_in _ (by omega)];omega
theorem wI3 {a:Nat} (h:a≤1048576):wI (a:Int) 3 ((a+3:Nat):Int):=by unfold wI;rw [IntWalk.i64_in _ (by omega)];omega
theorem wIL {L:Int} (h0:0≤L) (h:L≤1048576):wI L 1 (L+1):=by unfold wI;rw [IntWalk.i64_in _ (by omega)]
theorem c5V (a:Nat) (c:Int):zG (a:Int) c=cG (zPL,(a,c)):=by unfold cG;rw [b0f];rfl
theorem E4 (g:PL×PE):∃x,cG (cl g)=gG x g.2.1 g.2.2:=by
 obtain ⟨x,_,e⟩:=a4x (cl g)
 rw [d04] at e
 exact ⟨x,e⟩
theorem a0w {g:PL×PE} (h:g.2.2≠0):cG (cl g)=zG g.2.1 g.2.2:=by rw [b0t h,c5V]
section
variable {ts:List Tok} {a:Nat} (ha:a<ts.length) (hl:ts.length≤65537)
include ha
theorem a0o:tK (C9 ts) a (j6 ts a).kind (j6 ts a).text (j6 ts a).n (j6 ts a).at_:=by
 have hg:=a80 (P4 ha)
 show (if (0:Int)≤(a:Int) then (C9 ts)[((a:Int)).toNat]? else none)=_
 rw [d2S (by omega),show ((a:Int)).toNat=a by omega]
 exact hg
include hl
theorem sg6 (s:ByteArray):S6N (C9 ts) s a (L7 (j6 ts a) s):=c94 (b6f ts a ha (by omega) s)
theorem sgy {s:ByteArray} (h:L7 (j6 ts a) s=true):S6N (C9 ts) s a true:=h ▸ sg6 ha hl s
theorem sgn {s:ByteArray} (h:¬L7 (j6 ts a) s=true):S6N (C9 ts) s a false:=(d5c.2 h) ▸ sg6 ha hl s
theorem b4T (l:List ByteArray) (hn:l.length≤1000):AmN (C9 ts) a l ((n8 ts l (a,0)).getD F8):=by
 have e:∀l,b3e (fun s=>L7 (j6 ts a) s) l=(n8 ts l (a,0)).getD F8:=by
  intro l
  induction l with
  | nil=>rfl
  | cons s l ih =>
   rw [b3e,n8,E8]
   split
   ·rfl
   ·exact ih
 rw [←e]
 exact c4L _ hn fun s _=>sg6 ha hl s
end
def ndW (op:Int) (nm ar:ByteArray) (n:Int) (h:Bool) (t:Ty) (p:Int) (m:Nat) (ks:List (PL×PE)):PL×PE:=match a1J ks with
 | some g=>g
 | none=>(y8 op nm ar n h t p (ks.map fun g=>g.1),(m,0))
section
variable {op:Int} {nm ar:ByteArray} {n:Int} {h:Bool} {t:Ty} {p:Int} {m:Nat}
theorem d0A {y:Nat→D} (ht:cT t=c4 y) (ks:List (PL×PE)):cG (ndW op nm ar n h t p m ks)=match a1J ks with
   | some g=>cG g
   | none=>[.sc (.int .u8 op),.sc (.string nm),.sc (.string ar),.sc (.int .i64 n),.sc (.bool h),y 0,y 1,y 2,y 3,.sl 10 (rM (ks.map fun g=>g.1.1)),.sl 1 (rZ (p::ks.flatMap fun g=>g.1.2)),.sc (.int .i64 (m:Int)),.sc (.int .i64 0)]:=by
 unfold ndW
 cases a1J ks with
 | some g=>rfl
 | none =>
  unfold cG cP y8
  simp only [d4X,List.flatMap_map]
  rw [cM,ht]
  rfl
theorem c7Z {y:Nat→D} (ht:cT t=c4 y) {ks:List (PL×PE)} (hn:ks.length≤1048576) (hf:(ks.flatMap fun g=>g.1.2).length≤1048576):NdA op nm ar h y p m (ks.map cG) (cG (ndW op nm ar 0 h t p m ks)):=c24 op nm ar 0 h (y 0) (y 1) (y 2) (y 3) p m ks hn hf _ (d0A ht ks)
theorem a8h {ks:List (PL×PE)} (hn:ks.length≤1048576) (hf:(ks.flatMap fun g=>g.1.2).length≤1048576):NdN op nm ar n p m (ks.map cG) (cG (ndW op nm ar n false r7 p m ks)) :=
 (c24 op nm ar n false (.sc (.int .u8 0)) (.sc (.string ⟨#[]⟩)) (.sc (.int .i64 0)) (.sl 4 []) p m ks hn hf _ (d0A (y:=fun i=>match i with|0=>.sc (.int .u8 0)|1=>.sc (.string ⟨#[]⟩)|2=>.sc (.int .i64 0)|_=>.sl 4 []) (by unfold r7;rw [cT,rT];rfl) ks)).args fun I w g us hv=>b3d hv
theorem c8a:Nd0 op nm ⟨#[]⟩ n p m (cG (J3 op nm n p,(m,0))) :=
 (a8h (op:=op) (nm:=nm) (ar:=⟨#[]⟩) (n:=n) (p:=p) (m:=m) (ks:=[]) (by simp) (by simp)).args fun I w g us hv=>by
  obtain ⟨u0,us,rfl,h0,hv⟩:=hv.uncons
  obtain ⟨u1,us,rfl,h1,hv⟩:=hv.uncons
  obtain ⟨u2,us,rfl,h2,hv⟩:=hv.uncons
  obtain ⟨u3,us,rfl,h3,hv⟩:=hv.uncons
  rw [h3.unem]
  exact .cons h0 (.cons h1 (.cons h2 (.cons (.d (.nil _ _ _)) hv)))
theorem nd1 (e:PL×PE):ndW op nm ar n h t p e.2.1 [cl e]=cl (y8 op nm ar n h t p [e.1],e.2):=by
 unfold ndW
 rw [a1J]
 by_cases h0:e.2.2=0
 ·rw [a2y h0,d2S h0,a1J,b4O h0];rfl
 ·rw [b0t h0,d2T h0,b1P h0]
theorem nd2 {g e:PL×PE} (hs:g.2.2≠0→e.2=g.2):ndW op nm ar n h t p e.2.1 [cl g,cl e]=cl (y8 op nm ar n h t p [g.1,e.1],e.2):=by
 unfold ndW
 rw [a1J]
 by_cases h1:g.2.2=0
 ·rw [a2y h1,d2S h1,a1J]
  by_cases h0:e.2.2=0
  ·rw [a2y h0,d2S h0,a1J,b4O h0];rfl
  ·rw [b0t h0,d2T h0,b1P h0]
 ·rw [b0t h1,d2T h1,hs h1,b1P h1]
theorem nd3 {f g e:PL×PE} (hr:f.2.2≠0→g.2=f.2) (hs:g.2.2≠0→e.2=g.2):ndW op nm ar n h t p e.2.1 [cl f,cl g,cl e]=cl (y8 op nm ar n h t p [f.1,g.1,e.1],e.2):=by
 unfold ndW
 rw [a1J]
 by_cases h1:f.2.2=0
 ·rw [a2y h1,d2S h1,a1J]
  by_cases h2:g.2.2=0
  ·rw [a2y h2,d2S h2,a1J]
   by_cases h0:e.2.2=0
   ·rw [a2y h0,d2S h0,a1J,b4O h0];rfl
   ·rw [b0t h0,d2T h0,b1P h0]
  ·rw [b0t h2,d2T h2,hs h2,b1P h2]
 ·have h2:g.2.2≠0:=by rw [hr h1];exact h1
  rw [b0t h1,d2T h1,hs h2,hr h1,b1P h1]
end
section
variable {ts:List Tok} (hE:o5 ts) (hl:ts.length≤65537)
include hE hl
theorem b4U (s:ByteArray) {g:PL×PE} (hg:g.2.1<ts.length):o9 135 [aT (C9 ts),.ag (cG (cl g)),aS s] [.ag (cG (cl (g.1,j0 ts s g.2)))]:=by
 by_cases h0:g.2.2=0
 ·obtain ⟨x,hx,e⟩:=a4x g
  rw [a2y h0,e,h0]
  by_cases hs:L7 (j6 ts g.2.1) s=true
  ·rw [T9 h0 hs,a2y rfl,c76 (g:=(g.1,(g.2.1+1,0))) hx]
   exact c97 (sgy hg hl hs) (wI1 (by omega))
  ·rw [Y3 h0 hs,a0w (g:=(g.1,(g.2.1,5))) (by show (5:Int)≠0;decide)]
   exact c96 (sgn hg hl hs) (K8 _ _)
 ·rw [B9 h0,b0t h0]
  obtain ⟨x,hx,e⟩:=a4x (zPL,g.2)
  rw [e]
  exact c95 (d2Y h0)
variable {ex:PF} {L:Int} (hx:∀a:Nat,a<ts.length→ExN (C9 ts) a L (cG (cl (ex (a,0))))) (he:∀p:PE,p.2≠0→ex p=(zPL,p))
include hx he
theorem c2U (s:ByteArray) {g:PL×PE} (hg:g.2.1<ts.length):o9 56 [aT (C9 ts),.ag (cG (cl g)),aS s,aI L] [.ag (cG (cl (ex (j0 ts s g.2))))]:=by
 by_cases h0:g.2.2=0
 ·obtain ⟨x,hxx,e⟩:=a4x g
  rw [a2y h0,e,h0]
  by_cases hs:L7 (j6 ts g.2.1) s=true
  ·rw [T9 h0 hs]
   have h1:=hx (g.2.1+1) (hE _ hg (by rw [F0 hs];decide))
   obtain ⟨y,hy⟩:=E4 (ex (g.2.1+1,0))
   rw [hy] at h1 ⊢
   exact d1y (sgy hg hl hs) (wI1 (by omega)) h1
  ·rw [Y3 h0 hs,he (g.2.1,5) (by show (5:Int)≠0;decide),a0w (g:=(zPL,(g.2.1,5))) (by show (5:Int)≠0;decide)]
   exact d1x (sgn hg hl hs) (K8 _ _)
 ·rw [B9 h0,he _ h0,b0t h0,b0t (r:=(zPL,g.2)) h0]
  obtain ⟨x,hx,e⟩:=a4x (zPL,g.2)
  rw [e]
  exact d1w (d2Y h0)
theorem c8b (s:ByteArray) {b:Nat} (hb:b<ts.length):o9 56 [aT (C9 ts),.ag (gG z11 b 0),aS s,aI L] [.ag (cG (cl (ex (j0 ts s (b,0)))))]:=by
 have h:=c2U hE hl hx he s (g:=(zPL,(b,0))) hb
 rw [a2y (r:=(zPL,(b,0))) rfl,←c5V] at h
 exact h.like ⟨.same _,.ag (by repeat (first|exact .nil|refine .cons (.refl _) ?_|refine .cons (.nil _ _) ?_)),.same _,.same _,trivial⟩
end
section
variable {ts:List Tok} (hE:o5 ts) (hl:ts.length≤65537)
include hE hl
theorem d2j {n:Nat} {L:Int} (hv:T6 n L) (hn:1≤n) {a:Nat} (ha:a<ts.length):∃(s:ByteArray) (b:Bool) (y:Nat→D),PrN (C9 ts) a L (lT 0 ⟨#[]⟩ s b y) ((m7 ts n (a,0)).2.1:Int) (m7 ts n (a,0)).2.2 ∧
  ((m7 ts n (a,0)).2.2=0→s=(m7 ts n (a,0)).1.1∧b=(m7 ts n (a,0)).1.2.1∧cT (m7 ts n (a,0)).1.2.2.1=c4 y):=by
 have hL:0≤L∧L≤200:=by unfold T6 at hv;omega
 have n5:(5:Int)≠0:=by decide
 have tok:=a0o ha
 unfold m7
 by_cases h1:L7 (j6 ts a) a0G=true
 ·have hs:A2 ts a0G (a,0)=true:=by rw [E8];exact h1
  rw [d2S hs,a5p hs]
  have b0:((j6 ts a).kind == 1)=false:=by rw [F0 h1];rfl
  have k1:=hE a ha (by rw [F0 h1];decide)
  have tok1:=a0o k1
  by_cases h2:(j6 ts (a+1)).kind=1
  ·have k2:=hE _ k1 (by rw [h2];decide)
   have b1:((j6 ts (a+1)).kind == 1)=true:=by rw [h2];rfl
   rw [show i9 ts (a+1,0)=((j6 ts (a+1)).text,(a+2,0)) by unfold i9;rw [d2S ⟨rfl,h2⟩]]
   by_cases h3:L7 (j6 ts (a+2)) a5P=true
   ·have k3:=hE _ k2 (by rw [F0 h3];decide)
    rw [T9 (p:=(a+2,0)) rfl h3]
    obtain ⟨g,hg1,hg2⟩:=b6n hE hl (n - 1) (L+1) (a4T hv) (a+3) k3
    have hfw:=(P7 hE (n - 1) (a+3,0) k3).1
    have hhi:=hfw.hi
    have hk:P9 ts (n - 1) (a+2+1,0)=((K5 ts (n - 1) (a+3)).1,((K5 ts (n - 1) (a+3)).2.2.2,(K5 ts (n - 1) (a+3)).2.2.1)):=by unfold P9;rw [d2S rfl]
    rw [hk]
    unfold K5
    have hsp:=hfw.sp
    have hsz:=hfw.sz
    generalize n9 ts (n - 1) (a+3,0)=u at *
    obtain ⟨x4,hx4⟩:=a6E g
    rw [hx4] at hg1
    by_cases h0:u.2.2=0
    ·rw [d2T (fun h=>h h0)]
     have hug:=hg2 h0
     have hcan:=b74 1048576 g (by rw [hug];simp only at hsz;omega) (d3b _) (fun x hxm=>by rw [hug] at hxm;exact hsp x hxm)
     obtain ⟨y4,hy4⟩:=a6E (y9 u.1)
     rw [hug,hy4,←hug,hx4] at hcan
     rw [h0] at hg1
     by_cases h4:L7 (j6 ts u.2.1) a0H=true
     ·refine ⟨_,_,y4,?_,fun _=>⟨rfl,rfl,hy4⟩⟩
      rw [T9 (p:=(u.2.1,0)) rfl h4]
      exact d14 tok b0 (sgy ha hl h1) (wI1 (by omega)) tok1 b1 (wI2 (by omega)) (sgy k2 hl h3) (wI3 (by omega)) (wIL hL.1 (by omega)) hg1 (sgy hhi hl h4) (wI1 (by omega)) hcan
     ·rw [Y3 (p:=(u.2.1,0)) rfl h4]
      exact ⟨_,_,_,c98 tok b0 (sgy ha hl h1) (wI1 (by omega)) tok1 b1 (wI2 (by omega)) (sgy k2 hl h3) (wI3 (by omega)) (wIL hL.1 (by omega)) hg1 (sgn hhi hl h4),fun h=>absurd (show (5:Int)=0 from h) n5⟩
    ·rw [d2S h0]
     rw [B9 (p:=(u.2.1,u.2.2)) h0]
     exact ⟨_,_,_,d13 tok b0 (sgy ha hl h1) (wI1 (by omega)) tok1 b1 (wI2 (by omega)) (sgy k2 hl h3) (wI3 (by omega)) (wIL hL.1 (by omega)) hg1 (d2Y h0),fun h=>absurd h h0⟩
   ·rw [Y3 (p:=(a+2,0)) rfl h3,show P9 ts (n - 1) (a+2,5)=(r7,(a+2,5)) by unfold P9;rw [d2T n5],B9 (p:=(a+2,5)) n5]
    exact ⟨_,_,_,d12 tok b0 (sgy ha hl h1) (wI1 (by omega)) tok1 b1 (wI2 (by omega)) (sgn k2 hl h3),fun h=>absurd (show (5:Int)=0 from h) n5⟩
  ·rw [show i9 ts (a+1,0)=(F8,(a+1,5)) by unfold i9;rw [d2T (fun h=>h2 h.2)];rfl,B9 (p:=(a+1,5)) n5,show P9 ts (n - 1) (a+1,5)=(r7,(a+1,5)) by unfold P9;rw [d2T n5],B9 (p:=(a+1,5)) n5]
   exact ⟨_,_,_,d11 tok b0 (sgy ha hl h1) (wI1 (by omega)) tok1 (d2Y h2),fun h=>absurd (show (5:Int)=0 from h) n5⟩
 ·rw [d2T (by rw [E8];exact h1)]
  by_cases h2:(j6 ts a).kind=1
  ·rw [show i9 ts (a,0)=((j6 ts a).text,(a+1,0)) by unfold i9;rw [d2S ⟨rfl,h2⟩]]
   have b0:((j6 ts a).kind == 1)=true:=by rw [h2];rfl
   refine ⟨_,_,fun i=>match i with|0=>.sc (.int .u8 0)|1=>.sc (.string ⟨#[]⟩)|2=>.sc (.int .i64 0)|_=>.sl 4 [],o9.likeq (d1z (L:=L) tok b0 (wI1 (by omega))) ⟨.ag (by repeat (first|exact .nil|refine .cons (.refl _) ?_|refine .cons (.nil _ _) ?_)),.same _,.same _,trivial⟩,fun _=>⟨rfl,rfl,by show cT r7=_;unfold r7;rw [cT,rT];rfl⟩⟩
  ·rw [show i9 ts (a,0)=(F8,(a,5)) by unfold i9;rw [d2T (fun h=>h2 h.2)];rfl]
   exact ⟨_,_,_,d10 tok (d2Y h2) (sgn ha hl h1),fun h=>absurd (show (5:Int)=0 from h) n5⟩
end
end
section
theorem Q0 (g:PL×PE):(cl g).1.2.length≤g.1.2.length:=by
 unfold cl
 split
 ·exact d3b _
 ·exact d3t _
theorem b3m (ts:List Tok) (n:Nat) (p:PE):∃l,(v6 ts n p).1=(m7 ts n p).1::l:=by
 unfold v6
 rw [show ([(m7 ts n p).1],(m7 ts n p).2)=([(m7 ts n p).1]++[],(m7 ts n p).2) from rfl,a45]
 exact ⟨_,rfl⟩
theorem K9 {ts:List Tok} {ex:PF} (hf:B8 ts ex) (hl:ts.length≤65537) {p:PE} (hp:p.1<ts.length):(ex p).1.2.length≤131076:=by
 have h:=hf p hp
 have h1:=h.sz
 have h2:=h.hi
 omega
section
variable {ts:List Tok} (hE:o5 ts) (hl:ts.length≤65537) {ex:PF} {L:Int} (hx:∀a:Nat,a<ts.length→ExN (C9 ts) a (L+1) (cG (cl (ex (a,0))))) (he:∀p:PE,p.2≠0→ex p=(zPL,p)) (hf:B8 ts ex)
include hE hl hx he hf
theorem c8c {n:Nat} (hv:T6 n L) (hn:1≤n):∀(d a:Nat),ts.length - a≤d→a<ts.length→∀(op:Int) (nm:ByteArray) (pl:Int),FuN (C9 ts) a L pl op nm (cG (cl (fn1 op nm pl (ex (v6 ts n (a,0)).2).1 (v6 ts n (a,0)).1,(ex (v6 ts n (a,0)).2).2)))
 | 0,a,hd,ha,op,nm,pl=>by omega
 | d+1,a,hd,ha,op,nm,pl=>by
  have hL:0≤L∧L≤200:=by unfold T6 at hv;omega
  obtain ⟨s,b,y,hp,hq⟩:=d2j hE hl hv hn ha
  obtain ⟨m1,m2,m3⟩:=U8 hE n (p:=(a,0)) ha
  have hstop:=a7X hE (n:=n) (p:=(a,0))
  have hcons:=b4P hE (n:=n) (p:=(a,0)) ha
  obtain ⟨l9,hl9⟩:=b3m ts n (m7 ts n (a,0)).2
  have hpl:=b94 ts n (m7 ts n (a,0)).2
  generalize m7 ts n (a,0)=m at *
  by_cases h0:m.2.2=0
  ·obtain ⟨rfl,rfl,hy⟩:=hq h0
   rw [h0] at hp
   by_cases h1:L7 (j6 ts m.2.1) Q5=true
   ·have k1:=hE _ m1 (by rw [F0 h1];decide)
    rw [hstop (fun h=>by rw [h1] at h;exact absurd h.2 (by decide)),T9 h0 h1]
    have h2:=hx (m.2.1+1) k1
    have hz:=K9 hf hl (p:=(m.2.1+1,0)) k1
    generalize ex (m.2.1+1,0)=e at *
    have o0:=c7Z (op:=op) (nm:=nm) (ar:=m.1.1) (h:=m.1.2.1) (p:=pl) (m:=e.2.1) hy (ks:=[cl e]) (by simp) (by simp only [d3j,d3m,d3f];have:=Q0 e;omega)
    rw [nd1] at o0
    show FuN _ _ _ _ _ _ (cG (cl (y8 op nm m.1.1 0 m.1.2.1 m.1.2.2.1 pl [e.1],e.2)))
    obtain ⟨x,hxe⟩:=E4 e
    obtain ⟨z,hze⟩:=E4 (y8 op nm m.1.1 0 m.1.2.1 m.1.2.2.1 pl [e.1],e.2)
    rw [hze] at o0 ⊢
    rw [d3c,d35,hxe] at o0
    rw [hxe] at h2
    exact d16 hp (sgy m1 hl h1) (wI1 (by omega)) (wIL hL.1 (by omega)) h2 o0
   ·have h1':L7 (j6 ts m.2.1) Q5=false:=by simpa using h1
    rw [hcons h0 h1']
    have e0:m.2=(m.2.1,0):=d5v rfl h0
    have ih:=c8c hv hn d m.2.1 (by have:=m3 h0;simp only at this;omega) m1 35 ⟨#[]⟩ (j6 ts m.2.1).at_
    rw [←e0] at ih
    obtain ⟨w1,w2,w3,w4⟩:=a39 hE n m1
    have hz:=K9 hf hl w1
    have hlen:=a6F (pl:=0) (r:=false) (w:=F8) (x:=(ex (v6 ts n m.2).2).1) false (v6 ts n m.2).1
    have e1:fnW 0 false F8 (ex (v6 ts n m.2).2).1 false (v6 ts n m.2).1=fn1 35 ⟨#[]⟩ (j6 ts m.2.1).at_ (ex (v6 ts n m.2).2).1 (v6 ts n m.2).1:=by rw [hl9,d05,hpl]
    rw [←e1] at ih
    generalize ex (v6 ts n m.2).2=e8 at *
    generalize (v6 ts n m.2)=P at *
    obtain ⟨e,hee⟩:∃e:PL×PE,e=(fnW 0 false F8 e8.1 false P.1,e8.2):=⟨_,rfl⟩
    rw [←hee] at ih
    show FuN _ _ _ _ _ _ (cG (cl (y8 op nm m.1.1 0 m.1.2.1 m.1.2.2.1 pl [fnW 0 false F8 e8.1 false P.1],e8.2)))
    rw [show (y8 op nm m.1.1 0 m.1.2.1 m.1.2.2.1 pl [fnW 0 false F8 e8.1 false P.1],e8.2)=(y8 op nm m.1.1 0 m.1.2.1 m.1.2.2.1 pl [e.1],e.2) by rw [hee]]
    have o0:=c7Z (op:=op) (nm:=nm) (ar:=m.1.1) (h:=m.1.2.1) (p:=pl) (m:=e.2.1) hy (ks:=[cl e]) (by simp) (by
     simp only [d3j,d3m,d3f]
     have:=Q0 e
     have h5:e.1.2.length=(fnW 0 false F8 e8.1 false P.1).2.length:=by rw [hee]
     omega)
    rw [nd1] at o0
    obtain ⟨x,hxe⟩:=E4 e
    obtain ⟨z,hze⟩:=E4 (y8 op nm m.1.1 0 m.1.2.1 m.1.2.2.1 pl [e.1],e.2)
    rw [hze] at o0 ⊢
    rw [d3c,d35,hxe] at o0
    rw [hxe] at ih
    exact d17 hp (sgn m1 hl h1) (a0o m1) ih o0
  ·rw [hstop (fun h=>h0 h.1),B9 h0,he m.2 h0,a0w (g:=(_,m.2)) h0]
   exact d15 hp (d2Y h0) (K8 _ _)
theorem d0B (hL:0≤L∧L≤200):∀(d a:Nat),ts.length - a≤d→a<ts.length→∀pl:Int,FiN (C9 ts) a L pl (cG (cl (frW ts ex pl (i9 ts (a,0)).1 (i9 ts (a,0)).2)))
 | 0,a,hd,ha,pl=>by omega
 | d+1,a,hd,ha,pl=>by
  have n5:(5:Int)≠0:=by decide
  have tok:=a0o ha
  by_cases h1:(j6 ts a).kind=1
  ·have k1:=hE a ha (by rw [h1];decide)
   have b0:((j6 ts a).kind == 1)=true:=by rw [h1];rfl
   rw [show i9 ts (a,0)=((j6 ts a).text,(a+1,0)) by unfold i9;rw [d2S ⟨rfl,h1⟩]]
   have h0:=c8b hE hl hx he C6 (b:=a+1) k1
   obtain ⟨c1,c2,c3⟩:=j8 (s:=C6) hE (p:=(a+1,0)) k1
   have hb:=hf _ c1
   have hz:=K9 hf hl c1
   have hcons:=c2O hE hf pl (j6 ts a).text (p:=(a+1,0)) k1
   have hstop:=b4Q hE hf pl (j6 ts a).text (p:=(a+1,0))
   unfold frW
   generalize ex (j0 ts C6 (a+1,0))=v at *
   have hvi:=hb.hi
   have hlo:=hb.lo
   by_cases hv0:v.2.2=0
   ·have am:=b4T hvi hl [J1,H6] (by decide)
    obtain ⟨x,hxe⟩:=E4 v
    have I5:∀(e:PL×PE),e.1.2.length≤500000→∃z,cG (cl (y8 42 (j6 ts a).text ⟨#[]⟩ 0 false r7 pl [v.1,e.1],e.2))=gG z e.2.1 e.2.2∧∀y,cG (cl e)=gG y e.2.1 e.2.2→NdN 42 (j6 ts a).text ⟨#[]⟩ 0 pl e.2.1 [gG x v.2.1 0,gG y e.2.1 e.2.2] (gG z e.2.1 e.2.2):=fun e hel=>by
     obtain ⟨z,hze⟩:=E4 (y8 42 (j6 ts a).text ⟨#[]⟩ 0 false r7 pl [v.1,e.1],e.2)
     refine ⟨z,hze,fun y hye=>?_⟩
     have o0:=a8h (op:=42) (nm:=(j6 ts a).text) (ar:=⟨#[]⟩) (n:=0) (p:=pl) (m:=e.2.1) (ks:=[cl v,cl e]) (by simp) (by
      simp only [d3j,d3m,d3f,d2R]
      have:=Q0 e
      have:=Q0 v
      omega)
     rw [nd2 (fun h=>absurd hv0 h),hze,d3c,d3c,d35,hxe,hye,hv0] at o0
     exact o0
    rw [hxe,hv0] at h0
    by_cases s1:L7 (j6 ts v.2.1) J1=true
    ·have hs:A2 ts J1 v.2=true:=by unfold A2;rw [hv0,s1];rfl
     have k2:=hE _ hvi (by rw [F0 s1];decide)
     rw [n8,d2S (by rw [E8];exact s1)] at am
     have ih:=d0B hL d (v.2.1+1) (by have c2':a+1≤(j0 ts C6 (a+1,0)).1:=c2;omega) k2 (j6 ts (v.2.1+1)).at_
     unfold frW at ih
     rw [hcons hs]
     have hsz:=(a42 hE hf he (j6 ts (v.2.1+1)).at_ (i9 ts (v.2.1+1,0)).1 (p:=(i9 ts (v.2.1+1,0)).2) (A0 hE (p:=(v.2.1+1,0)) k2).1).sz
     have hhi:=(a42 hE hf he (j6 ts (v.2.1+1)).at_ (i9 ts (v.2.1+1,0)).1 (p:=(i9 ts (v.2.1+1,0)).2) (A0 hE (p:=(v.2.1+1,0)) k2).1).hi
     rw [a7Z] at hsz hhi
     unfold frW at hsz hhi
     generalize a41 ts ex (j6 ts (v.2.1+1)).at_ (i9 ts (v.2.1+1,0)).1 (i9 ts (v.2.1+1,0)).2=F at *
     generalize G9 ts ex F.2=B at *
     obtain ⟨z,hze,hnd⟩:=I5 (fdW B.1 F.1,B.2) (by simp only at hsz hhi ⊢;omega)
     obtain ⟨y,hye⟩:=E4 (fdW B.1 F.1,B.2)
     show FiN _ _ _ _ (cG (cl (y8 42 (j6 ts a).text ⟨#[]⟩ 0 false r7 pl [v.1,fdW B.1 F.1],B.2)))
     rw [hye] at ih
     have e2:cG (cl (y8 42 (j6 ts a).text ⟨#[]⟩ 0 false r7 pl [v.1,fdW B.1 F.1],B.2))=gG z B.2.1 B.2.2:=hze
     rw [e2]
     exact d1H tok b0 (wI1 (by omega)) (wIL hL.1 (by omega)) h0 am (wI1 (by omega)) (a0o k2) ih (hnd y hye)
    ·have hs:A2 ts J1 v.2=false:=by unfold A2;rw [hv0];simpa using s1
     rw [hstop hs]
     rw [n8,d2T (by rw [E8];exact s1),n8] at am
     by_cases s2:L7 (j6 ts v.2.1) H6=true
     ·have hs2:A2 ts H6 v.2=true:=by unfold A2;rw [hv0,s2];rfl
      have k2:=hE _ hvi (by rw [F0 s2];decide)
      rw [d2S (by rw [E8];exact s2)] at am
      have h2:=hx (v.2.1+1) k2
      have hz2:=K9 hf hl (p:=(v.2.1+1,0)) k2
      rw [show G9 ts ex v.2=ex (v.2.1+1,0) by unfold G9;rw [d2S hs2]]
      generalize ex (v.2.1+1,0)=e at *
      obtain ⟨z,hze,hnd⟩:=I5 e (by omega)
      obtain ⟨y,hye⟩:=E4 e
      rw [hye] at h2
      show FiN _ _ _ _ (cG (cl (y8 42 (j6 ts a).text ⟨#[]⟩ 0 false r7 pl [v.1,e.1],e.2)))
      rw [hze]
      exact d1I tok b0 (wI1 (by omega)) (wIL hL.1 (by omega)) h0 am (wI1 (by omega)) h2 (hnd y hye)
     ·have hs2:A2 ts H6 v.2=false:=by unfold A2;rw [hv0];simpa using s2
      rw [d2T (by rw [E8];exact s2),n8] at am
      rw [show G9 ts ex v.2=(J3 41 ⟨#[]⟩ 0 (j6 ts v.2.1).at_,v.2) by unfold G9;rw [d2T (by rw [hs2];decide)]]
      obtain ⟨z,hze,hnd⟩:=I5 (J3 41 ⟨#[]⟩ 0 (j6 ts v.2.1).at_,v.2) (by show (J3 41 ⟨#[]⟩ 0 (j6 ts v.2.1).at_).2.length≤_;unfold J3;simp)
      obtain ⟨y,hye⟩:=E4 (J3 41 ⟨#[]⟩ 0 (j6 ts v.2.1).at_,v.2)
      show FiN _ _ _ _ (cG (cl (y8 42 (j6 ts a).text ⟨#[]⟩ 0 false r7 pl [v.1,J3 41 ⟨#[]⟩ 0 (j6 ts v.2.1).at_],v.2)))
      have e2:cG (cl (y8 42 (j6 ts a).text ⟨#[]⟩ 0 false r7 pl [v.1,J3 41 ⟨#[]⟩ 0 (j6 ts v.2.1).at_],v.2))=gG z v.2.1 v.2.2:=hze
      have o1:=c8a (op:=41) (nm:=⟨#[]⟩) (n:=0) (p:=(j6 ts v.2.1).at_) (m:=v.2.1)
      have hnd2:=hnd y hye
      rw [b4O hv0] at hye
      have hye:cG (J3 41 ⟨#[]⟩ 0 (j6 ts v.2.1).at_,(v.2.1,0))=gG y v.2.1 v.2.2:=hye
      rw [hye] at o1
      rw [e2]
      exact d1J tok b0 (wI1 (by omega)) (wIL hL.1 (by omega)) h0 am (a0o hvi) o1 hnd2
   ·rw [hstop (a0O hv0),show G9 ts ex v.2=(J3 41 ⟨#[]⟩ 0 (j6 ts v.2.1).at_,v.2) by unfold G9;rw [d2T (by rw [a0O hv0];decide)]]
    show FiN _ _ _ _ (cG (cl (_,v.2)))
    have e9:∀X:PL,cG (cl (X,v.2))=zG v.2.1 v.2.2:=fun X=>a0w (g:=(X,v.2)) hv0
    rw [e9]
    rw [a0w hv0] at h0
    exact d1G tok b0 (wI1 (by omega)) (wIL hL.1 (by omega)) h0 (d2Y hv0)
  ·rw [show i9 ts (a,0)=(F8,(a,5)) by unfold i9;rw [d2T (fun h=>h1 h.2)];rfl]
   have e1:ex (j0 ts C6 (a,5))=(zPL,(a,5)):=by rw [B9 (p:=(a,5)) n5];exact he _ n5
   unfold frW
   rw [b4Q hE hf pl F8 (p:=(a,5)) (by rw [e1];exact a0O n5),e1]
   rw [show G9 ts ex (a,5)=(J3 41 ⟨#[]⟩ 0 (j6 ts a).at_,(a,5)) by unfold G9;rw [d2T (by rw [a0O n5];decide)]]
   show FiN _ _ _ _ (cG (cl (_,(a,5))))
   have e9:∀X:PL,cG (cl (X,(a,5)))=zG (a:Int) 5:=fun X=>a0w (g:=(X,(a,5))) n5
   rw [e9]
   exact d1F tok (d2Y h1) (K8 _ _)
theorem d2k (hL:0≤L∧L≤200) {a:Nat} (ha:a+1<ts.length):E6N 136 (C9 ts) a L (cG (cl (T8 ts ex (j6 ts a).at_ (a+1,0)))):=by
 have n5:(5:Int)≠0:=by decide
 have tok:=a0o (ts:=ts) (a:=a) (by omega)
 have tok1:=a0o ha
 unfold T8
 by_cases h1:L7 (j6 ts (a+1)) U6=true
 ·have hs:A2 ts U6 (a+1,0)=true:=by rw [E8];exact h1
  rw [d2S hs,a2y (r:=(J3 41 ⟨#[]⟩ 0 (j6 ts a).at_,(a+1+1,0))) rfl]
  have o0:=c8a (op:=41) (nm:=⟨#[]⟩) (n:=0) (p:=(j6 ts a).at_) (m:=a+2)
  obtain ⟨z,-,hz⟩:=a4x (J3 41 ⟨#[]⟩ 0 (j6 ts a).at_,(a+2,0))
  rw [hz] at o0
  show E6N _ _ _ _ (cG (J3 41 ⟨#[]⟩ 0 (j6 ts a).at_,(a+2,0)))
  rw [hz]
  exact d1B tok (wI1 (by omega)) (sgy ha hl h1) (wI2 (by omega)) o0
 ·rw [d2T (by rw [E8];exact h1)]
  have fld:=d0B hE hl hx he hf hL ts.length (a+1) (by omega) ha (j6 ts a).at_
  obtain ⟨b1,b2,b3⟩:=A0 hE (p:=(a+1,0)) ha
  have hfr:=(a42 hE hf he (j6 ts a).at_ (i9 ts (a+1,0)).1 b1)
  have hfi:(frW ts ex (j6 ts a).at_ (i9 ts (a+1,0)).1 (i9 ts (a+1,0)).2).2.1<ts.length:=by
   obtain ⟨c1,_,_⟩:=j8 (s:=C6) hE b1
   have h9:=(a3A hE hf he (i9 ts (a+1,0)).2.1 ts.length _ (b6k hE hf he (j6 ts a).at_ (i9 ts (a+1,0)).1 b1).1).1.1
   show (G9 ts ex (a41 ts ex (j6 ts a).at_ (i9 ts (a+1,0)).1 (i9 ts (a+1,0)).2).2).2.1<_
   unfold G9
   split
   ·rename_i h
    exact (hf _ (o8 hE h9 h).1).hi
   ·exact h9
  have hclo:=b4U hE hl U6 hfi
  have flds:(E6N 136 (C9 ts) a L (cG (cl (Y9 ts ex (j6 ts a).at_ (i9 ts (a+1,0)).1 (i9 ts (a+1,0)).2))))∨((j6 ts (a+1)).kind=1∧L7 (j6 ts (a+2)) b3k=true):=by
   rw [a7Z]
   generalize frW ts ex (j6 ts a).at_ (i9 ts (a+1,0)).1 (i9 ts (a+1,0)).2=F at *
   obtain ⟨x,hxe⟩:=E4 F
   obtain ⟨z,hze⟩:=E4 (F.1,j0 ts U6 F.2)
   rw [hxe] at fld hclo
   rw [hze] at hclo ⊢
   by_cases h2:(j6 ts (a+1)).kind=1
   ·by_cases h3:L7 (j6 ts (a+2)) b3k=true
    ·exact .inr ⟨h2,h3⟩
    ·exact .inl (d1D tok (wI1 (by omega)) (sgn ha hl h1) tok1 (by rw [h2];rfl) (wI2 (by omega)) (sgn (hE _ ha (by rw [h2];decide)) hl h3) fld hclo)
   ·exact .inl (d1C tok (wI1 (by omega)) (sgn ha hl h1) tok1 (d2Y h2) fld hclo)
  by_cases h2:(j6 ts (a+1)).kind=1∧L7 (j6 ts (a+2)) b3k=true
  ·obtain ⟨h2,h3⟩:=h2
   have k2:=hE _ ha (by rw [h2];decide)
   have k3:=hE _ k2 (by rw [F0 h3];decide)
   rw [show i9 ts (a+1,0)=((j6 ts (a+1)).text,(a+2,0)) by unfold i9;rw [d2S ⟨rfl,h2⟩]]
   rw [d2S (by show A2 ts b3k (a+2,0)=true;rw [E8];exact h3)]
   have e1:=hx (a+3) k3
   have z1:=K9 hf hl (p:=(a+3,0)) k3
   have i1:=(hf (a+3,0) k3).hi
   have e2:=c2U hE hl hx he H6 i1
   obtain ⟨c1,_,_⟩:=j8 (s:=H6) hE i1
   have z2:=K9 hf hl c1
   have i2:=(hf _ c1).hi
   have es:=he (j0 ts H6 (ex (a+3,0)).2)
   have ew:=B9 (ts:=ts) (s:=H6) (p:=(ex (a+3,0)).2)
   show E6N _ _ _ _ (cG (cl (s8 45 (j6 ts (a+1)).text ⟨#[]⟩ (j6 ts a).at_ [(ex (a+3,0)).1,(ex (j0 ts H6 (ex (a+3,0)).2)).1],j0 ts U6 (ex (j0 ts H6 (ex (a+3,0)).2)).2)))
   generalize ex (a+3,0)=v at *
   have hs:v.2.2≠0→(ex (j0 ts H6 v.2)).2=v.2:=fun h=>by rw [es (by rw [ew h];exact h),ew h]
   generalize ex (j0 ts H6 v.2)=e at *
   have o0:=a8h (op:=45) (nm:=(j6 ts (a+1)).text) (ar:=⟨#[]⟩) (n:=0) (p:=(j6 ts a).at_) (m:=e.2.1) (ks:=[cl v,cl e]) (by simp) (by
    simp only [d3j,d3m,d3f,d2R]
    have:=Q0 e
    have:=Q0 v
    omega)
   have hc:=b4U hE hl U6 (g:=(s8 45 (j6 ts (a+1)).text ⟨#[]⟩ (j6 ts a).at_ [v.1,e.1],e.2)) i2
   rw [nd2 hs] at o0
   obtain ⟨x,hxe⟩:=E4 v
   obtain ⟨y,hye⟩:=E4 e
   obtain ⟨z,hze⟩:=E4 (s8 45 (j6 ts (a+1)).text ⟨#[]⟩ (j6 ts a).at_ [v.1,e.1],e.2)
   obtain ⟨u,hue⟩:=E4 (s8 45 (j6 ts (a+1)).text ⟨#[]⟩ (j6 ts a).at_ [v.1,e.1],j0 ts U6 e.2)
   rw [d3c,d3c,d35,hxe,hye,hze] at o0
   rw [hze,hue] at hc
   rw [hxe] at e1 e2
   rw [hye] at e2
   rw [hue]
   exact d1E tok (wI1 (by omega)) (sgn ha hl h1) tok1 (by rw [h2];rfl) (wI2 (by omega)) (sgy k2 hl h3) (wI3 (by omega)) (wIL hL.1 (by omega)) e1 e2 o0 hc
  ·have h4:=flds.resolve_right h2
   rw [d2T]
   ·exact h4
   ·intro h5
    apply h2
    by_cases h6:(j6 ts (a+1)).kind=1
    ·rw [show i9 ts (a+1,0)=((j6 ts (a+1)).text,(a+2,0)) by unfold i9;rw [d2S ⟨rfl,h6⟩]] at h5
     exact ⟨h6,by rw [←E8];exact h5⟩
    ·rw [show i9 ts (a+1,0)=(F8,(a+1,5)) by unfold i9;rw [d2T (fun h=>h6 h.2)];rfl] at h5
     rw [show A2 ts b3k (a+1,5)=false from a0O n5] at h5
     cases h5
end
end
end Go.Proofs.YtahpnackkmbmgaaGreat.Vm
end

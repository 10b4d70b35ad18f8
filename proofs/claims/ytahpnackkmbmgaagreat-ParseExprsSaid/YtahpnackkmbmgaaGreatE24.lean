/- Part 24 of the proof. Conditions: none. -/
import Derived.Test.YtahpnackkmbmgaaGreatE4
import Derived.Test.YtahpnackkmbmgaaGreatE6
import Derived.Test.YtahpnackkmbmgaaGreatE23
import Derived.Test.YtahpnackkmbmgaaGreatE0
set_option linter.all false
set_option linter.unusedVariables false
set_option linter.unusedSimpArgs false
section
namespace Go.Proofs.YtahpnackkmbmgaaGreat.Vm
open Go.RowKit
set_option maxRecDepth 100000
set_option maxHeartbeats 4000000
theorem c5v {l:List Int} (hb:Byt l) (hl:l.length≤65536):o9 24 [.one (.sl 1 (K7 l))] [.one (.sl 4 (rTo (o7 l 0 false []).1)),.one (.sc (.int .i64 (o7 l 0 false []).2.1)),.one (.sc (.int .i64 (o7 l 0 false []).2.2))]:=by
 have n0:((K7 l).length:Int)=(l.length:Int):=by rw [T3]
 have hget:=fun k (h:k<l.length)=>a08 (l:=l) (k:=k) h
 have hAt:∀k,k<l.length→o9 50 [.one (.sl 1 (K7 l)),.one (.sc (.int .i64 (k:Int)))] [.one (.sc (.int .i64 (rn l k))),.one (.sc (.int .i64 (nx l k:Int)))]:=fun k h=>by
  have:=c9i hb (a:=k) h (by omega)
  rw [b7q] at this
  exact this
 have yk:=fun k m (h:k≤m) (h2:m≤l.length)=>a1R (l:=l) (a:=k) (b:=m) h h2
 have kO:=c5J
 have nW:((rS H7).length:Int)=25:=by rw [c1d];rfl
 have hW:∀j:Nat,j<25→f7.get (rS H7) (j:Int)=some [.sc (.string (H7.getD j ByteArray.empty))]:=fun j h=>by
  show (if (0:Int)≤(j:Int) then (rS H7)[((j:Int)).toNat]? else none)=_
  rw [d2S (by omega),show ((j:Int)).toNat=j by omega]
  have hj:j<H7.length:=h
  exact c1e (by rw [d3k,d2P hj];rfl)
 generalize rS W9=W1 at *
 generalize rS H7=W2 at *
 generalize K7 l=R at *
 obtain ⟨N,hN⟩:∃N,N=(l.length:Int):=⟨_,rfl⟩
 rw [←hN] at n0
 obtain ⟨X,P,C,hX⟩:∃X P C,∀r,o7 l 0 false []=r→X=rTo r.1∧P=r.2.1∧C=r.2.2:=⟨_,_,_,fun r h=>by rw [←h];exact ⟨rfl,rfl,rfl⟩⟩
 obtain ⟨h1,h2,h3⟩:=hX _ rfl
 rw [←h1,←h2,←h3]
 clear h1 h2 h3
 obtain ⟨inv,hi⟩:∃inv:Int×Bool×List (List D)→Prop,inv=fun x=>∃(k:Nat) (ts:List Tok),x.1=(k:Int)∧x.2.2=rTo ts∧k≤l.length∧ts.length≤k∧o7 l 0 false []=o7 l k x.2.1 ts:=⟨_,rfl⟩
 have hi0:inv (0,false,[]):=by rw [hi];exact ⟨0,[],rfl,rfl,d3t _,d3b _,rfl⟩
 obtain ⟨mu,hmu⟩:∃mu:Int×Bool×List (List D)→Nat,mu=fun x=>l.length - x.1.toNat:=⟨_,rfl⟩
 refine N2 Tryz.func24 rfl ?_;intro qa qb _ _ _ _ _ qi qj qk _ qm _ qp _ _ qu _ _ qx _ _ _ _ _ ve;intros;rename_i hA
 obtain ⟨r1,r2,r3,r4⟩:=A8 hA
 obtain ⟨s1,s2,s3,s4,s5,s6,-⟩:=G1 hA
 obtain ⟨f1,-⟩:=b20 hA
 have q0:=en hA n0
 have q1:qi 65536 N=false:=el hA (d2U (by omega))
 iterate 2 (try cbv;repeat ((first|refine a55 hA 2 4 [] rfl rfl ?_|refine a2j hA 5 63 true rfl ?_|with_reducible apply f8 hA|rw [q0]|rw [q1]|refine f9 hA _ kO rfl ?_|refine i7 hA _ kO ?_);cbv))
 try simp (maxSteps:=4000000) only [nc] at *
 refine j9 hA (γ:=Int×Bool×List (List D)) (fun x=>[(5,.own 0),(8,vi .i64 x.1),(9,vb x.2.1),(14,.jk),(22,.jk),(23,.jk),(30,.jk),(33,.jk),(91,.jk),(98,.jk)]) (fun x=>[(0,.row true 63 x.2.2)]) inv mu (0,false,[]) hi0 ?_ ?_
 ·cbv
 ·intro x hinv
  obtain ⟨z,rem,L⟩:=x
  cbv;refine gn ?_;try simp only [nc] at *
  rw [hi] at hinv
  obtain ⟨k,ts,hz,hL,hk,htl,hE⟩:=hinv
  replace hz:z=(k:Int):=hz
  replace hL:L=rTo ts:=hL
  replace hE:o7 l 0 false []=o7 l k rem ts:=hE
  have hLl:L.length≤65536:=by rw [hL,b2B];omega
  have hmz:mu (z,rem,L)=l.length - k:=by rw [hmu,hz];rfl
  by_cases h9:k<l.length
  ·have p0:qi z N=true:=el hA (d3a (by omega))
   have g0:=eg hA (hget k h9)
   have c0:=hAt k h9
   rw [←hz] at g0 c0
   obtain ⟨c,hc⟩:∃c,c=gb l k:=⟨_,rfl⟩
   obtain ⟨n,hn⟩:∃n:Int,n=(nx l k:Int):=⟨_,rfl⟩
   obtain ⟨r,hr⟩:∃r,r=rn l k:=⟨_,rfl⟩
   rw [←hc] at g0
   rw [←hn,←hr] at c0
   clear hr
   by_cases h0:nx l k=0
   ·obtain ⟨rfl,rfl,rfl⟩:=hX _ (hE.trans (a9B h9 h0))
    have p1:qk n 0=true:=eb hA (by rw [d3F];omega)
    rw [←hz]
    iterate 2 (try cbv;repeat ((first|refine a55 hA 2 4 [] rfl rfl ?_|with_reducible apply f8 hA|rw [q0]|rw [p0]|rw [g0]|rw [p1]|refine f9 hA _ c0 rfl ?_|refine i7 hA _ c0 ?_);cbv))
   have p1:qk n 0=false:=eb hA (d2Y (by omega))
   have hstep:∀(m:Nat) (rm:Bool),k<m→m≤l.length→o7 l k rem ts=o7 l m rm ts→inv ((m:Int),rm,L)∧mu ((m:Int),rm,L)<mu (z,rem,L):=fun m rm h1 h2 h3=>by
    refine ⟨?_,?_⟩
    ·rw [hi];exact ⟨m,ts,rfl,hL,h2,by omega,hE.trans h3⟩
    ·rw [hmz,hmu]
     show l.length - ((m:Nat):Int).toNat<_
     omega
   cases rem
   case true =>
    have hbd:=c5F h0
    have hs:=hstep (k+nx l k) (c != 10) (by omega) (hbd.2.2 h9) (by rw [a60 h9 h0,hc])
    have p2:qa .i64 (qb z n)=((k+nx l k:Nat):Int):=ew hA (by rw [IntWalk.i64_in _ (by omega)];omega)
    obtain ⟨hs1,hs2⟩:=hs
    generalize ((k+nx l k:Nat):Int)=z1 at *
    by_cases h10:c=10
    ·have p3:qk c 10=true:=eb hA (by rw [h10];rfl)
     rw [show (c != 10)=false by rw [h10];rfl] at hs1 hs2
     try cbv;refine gr ?_;try simp only [nc] at *
     refine ⟨_,hs1,hs2,?_⟩
     cbv
    ·have p3:qk c 10=false:=eb hA (d2Y h10)
     rw [show (c != 10)=true from bne_iff_ne.2 h10] at hs1 hs2
     try cbv;refine gr ?_;try simp only [nc] at *
     refine ⟨_,hs1,hs2,?_⟩
     cbv
   have p2:qa .i64 (qb z 1)=((k+1:Nat):Int):=ew hA (by rw [IntWalk.i64_in _ (by omega)];omega)
   have hs:=hstep (k+1)
   obtain ⟨z1,hz1⟩:∃z1,z1=((k+1:Nat):Int):=⟨_,rfl⟩
   rw [←hz1] at p2 hs
   rcases b5K c with hbl|⟨hbl,h35⟩|⟨hbl,h35,hr⟩|⟨hbl,h35,hr⟩
   ·obtain ⟨hs1,hs2⟩:=hs false (by omega) h9 (by rw [a5D h9 h0 (by rw [←hc];exact hbl)])
    have hq:=(a3g _).1 hbl
    obtain ⟨e1,e2,e3,e4,e5,e6,e7,e8,e9⟩:=j7 hA
    clear hbl
    rcases hq with h|h|h|h
    all_goals
     rw [h] at g0
     iterate 2 (try cbv;repeat ((first|with_reducible apply f8 hA|rw [q0]|rw [p0]|rw [g0]|rw [p1]|rw [e9]|rw [p2]|refine f9 hA _ c0 rfl ?_|refine i7 hA _ c0 ?_);cbv))
     try simp (maxSteps:=4000000) only [nc] at *
     refine ⟨_,hs1,hs2,?_⟩
     cbv
   ·obtain ⟨hs1,hs2⟩:=hs true (by omega) h9 (by rw [b1u h9 h0 (by rw [←hc];exact h35)])
    obtain ⟨e1,e2,e3,e4,e5,e6,e7,e8,e9⟩:=j7 hA
    rw [h35] at g0
    iterate 2 (try cbv;repeat ((first|with_reducible apply f8 hA|rw [q0]|rw [p0]|rw [g0]|rw [p1]|rw [e9]|rw [p2]|refine f9 hA _ c0 rfl ?_|refine i7 hA _ c0 ?_);cbv))
    try simp (maxSteps:=4000000) only [nc] at *
    refine ⟨_,hs1,hs2,?_⟩
    cbv
   ·have hru:=fun e=>b4m (l:=l) (a:=k) (k:=e)
    have hkd:=fun e=>a9X (gb l e)
    have hkp:=fun e=>b4g (gb l e)
    rw [hc] at hr
    obtain ⟨iv2,hv2⟩:∃iv2:Int→Prop,iv2=fun y=>∃e:Nat,y=(e:Int)∧k≤e∧e≤l.length∧∀i,k≤i→i<e→I6 (gb l i)=true:=⟨_,rfl⟩
    have hj0:iv2 z:=by rw [hv2];exact ⟨k,hz,d3b _,hk,fun i h1 h2=>by omega⟩
    obtain ⟨b1,b2,b3,b4⟩:=a7M hbl
    have t1:=eb hA b1
    have t2:=eb hA b2
    have t3:=eb hA b3
    have t4:=eb hA b4
    have t5:qk c 35=false:=eb hA (d2Y h35)
    clear b1 b2 b3 b4 hstep hs hbl h35
    try cbv;refine gr ?_;try simp only [nc] at *
    refine j9 hA (γ:=Int) (fun y=>[(13,vi .i64 y),(30,.jk),(33,.jk)]) (fun y=>[]) iv2 (fun y=>l.length - y.toNat) z hj0 ?_ ?_
    ·cbv
    ·intro y hj
     cbv;refine gn ?_;try simp only [nc] at *
     rw [hv2] at hj
     obtain ⟨e,hy,hke,hel,hall⟩:=hj
     replace hy:y=(e:Int):=hy
     have key:(e<l.length∧I6 (gb l e)=true)∨(e=l.length∧qi y N=false)∨(e<l.length∧qi y N=true∧I6 (gb l e)=false):=by
      by_cases h9:e<l.length
      ·have p0:qi y N=true:=el hA (d3a (by omega))
       cases h:I6 (gb l e)
       ·exact .inr (.inr ⟨h9,p0,rfl⟩)
       ·exact .inl ⟨h9,rfl⟩
      ·exact .inr (.inl ⟨by omega,el hA (d2U (by omega))⟩)
     rcases key with ⟨hle,h⟩|⟨hle,u0⟩|⟨hle,u0,h⟩
     ·have u0:qi y N=true:=el hA (d3a (by omega))
      have g1:=eg hA (hget e hle)
      rw [←hy] at g1
      have c1:=hkd e
      have u1:qi 0 (a0d (gb l e))=true:=el hA (d3a ((hkp e).2 h))
      have hi2:iv2 ((e+1:Nat):Int):=by
       rw [hv2]
       refine ⟨_,rfl,by omega,hle,fun i h1 h2=>?_⟩
       by_cases e':i=e
       ·rw [e'];exact h
       ·exact hall i h1 (by omega)
      have u2:qa .i64 (qb y 1)=((e+1:Nat):Int):=ew hA (by rw [IntWalk.i64_in _ (by omega)];omega)
      have hm:l.length - ((e+1:Nat):Int).toNat<l.length - y.toNat:=by omega
      generalize ((e+1:Nat):Int)=y1 at *
      generalize a0d (gb l e)=kc at *
      generalize gb l e=ce at *
      try cbv;refine gr ?_;try simp only [nc] at *
      refine ⟨y1,hi2,hm,?_⟩
      cbv
     case' inr.inl =>
      obtain ⟨hE1,hE2⟩:=hru e hke hel hall (.inl hle)
      have hlt:k<e:=by omega
      have u3:qi z y=true:=el hA (d3a (by omega))
      iterate 2 (try cbv;repeat ((first|with_reducible apply f8 hA|rw [q0]|rw [u0]|rw [u3]);cbv))
      try simp (maxSteps:=4000000) only [nc] at *
     case' inr.inr =>
      obtain ⟨hE1,hE2⟩:=hru e hke hel hall (.inr h)
      have hlt:k<e:=by
       by_cases e':e=k
       ·rw [e',hr] at h;cases h
       ·omega
      have u3:qi z y=true:=el hA (d3a (by omega))
      have g1:=eg hA (hget e hle)
      rw [←hy] at g1
      have c1:=hkd e
      have u1:qi 0 (a0d (gb l e))=false:=el hA (d2U (fun h'=>by rw [(hkp e).1 h'] at h;cases h))
      generalize a0d (gb l e)=kc at *
      generalize gb l e=ce at *
      iterate 2 (try cbv;repeat ((first|with_reducible apply f8 hA|rw [q0]|rw [u0]|rw [g1]|rw [u1]|rw [u3]|refine f9 hA _ c1 rfl ?_|refine i7 hA _ c1 ?_);cbv))
      try simp (maxSteps:=4000000) only [nc] at *
     all_goals
      have y1:=yk k e hke hel
      have x1:=a9E ((l.drop k).take (e - k))
      have hSl:(strOfNums (J2 l k)).size=e - k:=by rw [a61,hE2]
      have d0:=c8o (strOfNums (J2 l k)) z (by omega) (by omega)
      have hR:=c5t (strOfNums (J2 l k)) z
      have e0:=fun h0=>c1u (rc:=(a0k (strOfNums (J2 l k)) (k:Int)).2) (t:=(a0k (strOfNums (J2 l k)) (k:Int)).1) hb h9 hr rfl hE2 hlt rfl h0 rfl ts
      have e1:=fun h0=>b7w (rc:=(a0k (strOfNums (J2 l k)) (k:Int)).2) hb h9 hr rfl rfl h0 ts
      rw [←hz] at e0 e1 y1
      rw [←hy,←hE1] at y1
      rw [←hE1] at x1
      unfold b4l at d0
      generalize strOfNums (J2 l k)=S at *
      generalize K7 (J2 l k)=R1 at *
      have u4:=esb hA y1
      have u5:qx R1=some S:=(f1 _).trans x1
      obtain ⟨hR1,hR2⟩:=hR
      rw [←hR1] at e0 e1 hR2
      have e2:=fun h=>(e0 h).trans (by rw [←hR2 h])
      clear e0 hR1 hR2 y1 x1
      generalize a0k S z=rS at *
      generalize b6w S z=rs at *
      obtain ⟨⟨kd,tx,nn,at_⟩,rc⟩:=rs
      by_cases h0:rc=0
      ·have u6:qk rc 0=true:=eb hA (by rw [h0];rfl)
       have u7:ve L [[.sc (.int .u8 kd),.sc (.string tx),.sc (.int .i64 nn),.sc (.int .i64 at_)]]=L++[[.sc (.int .u8 kd),.sc (.string tx),.sc (.int .i64 nn),.sc (.int .i64 at_)]]:=by rw [r4]
       have hi2:inv (y,false,L++[[.sc (.int .u8 kd),.sc (.string tx),.sc (.int .i64 nn),.sc (.int .i64 at_)]]):=by
        rw [hi]
        exact ⟨e,ts++[⟨kd,tx,nn,at_⟩],hy,by rw [a62,hL];rfl,hel,by rw [d2R];simp;omega,hE.trans (e2 h0)⟩
       have hm:mu (y,false,L++[[.sc (.int .u8 kd),.sc (.string tx),.sc (.int .i64 nn),.sc (.int .i64 at_)]])<mu (z,false,L):=by
        rw [hmz,hmu]
        show l.length - y.toNat<_
        omega
       generalize L++[[.sc (.int .u8 kd),.sc (.string tx),.sc (.int .i64 nn),.sc (.int .i64 at_)]]=L2 at *
       iterate 2 (try cbv;repeat ((first|with_reducible apply f8 hA|rw [u4]|rw [u5]|rw [u6]|rw [u7]|refine f9 hA _ d0 rfl ?_|refine i7 hA _ d0 ?_|refine A6 hA true ?_|(refine B3 hA (by simp only [d2X,d3g];omega) ?_));cbv))
       try simp (maxSteps:=4000000) only [nc] at *
       refine ⟨_,hi2,hm,?_⟩
       cbv
      ·have u6:qk rc 0=false:=eb hA (d2Y h0)
       obtain ⟨rfl,rfl,rfl⟩:=hX _ (hE.trans (e1 h0))
       iterate 2 (try cbv;repeat ((first|refine a55 hA 2 4 [] rfl rfl ?_|with_reducible apply f8 hA|rw [u4]|rw [u5]|rw [u6]|refine f9 hA _ d0 rfl ?_|refine i7 hA _ d0 ?_);cbv))
   ·have hkp:=b4g (gb l k)
    have c1:=a9X (gb l k)
    rw [←hc] at hkp c1
    have hfs:=b9A hb h9
    have hns:=fun hs=>a7L (out:=ts) h9 h0 (by rw [←hc];exact hbl) (by rw [←hc];exact h35) (by rw [←hc];exact hr) hs
    have hys:=fun hs=>b1v (out:=ts) h9 h0 (by rw [←hc];exact hbl) (by rw [←hc];exact h35) (by rw [←hc];exact hr) hs
    have hsl:=b7v h9
    have hsz:(strOfNums ((l.drop k).take (E2 (l.drop k)))).size=E2 (l.drop k):=by
     rw [a61,d3v,d3x];omega
    generalize strOfNums ((l.drop k).take (E2 (l.drop k)))=F at *
    obtain ⟨b1,b2,b3,b4⟩:=a7M hbl
    have t1:=eb hA b1
    have t2:=eb hA b2
    have t3:=eb hA b3
    have t4:=eb hA b4
    have t5:qk c 35=false:=eb hA (d2Y h35)
    have t6:qi 0 (a0d c)=false:=el hA (d2U (fun h'=>by rw [hkp.1 h'] at hr;cases hr))
    have t7:qi z z=false:=el hA (d2U (Int.lt_irrefl _))
    clear b1 b2 b3 b4 hstep hs hbl h35 hkp hr
    generalize a0d c=kc at *
    try cbv;refine gr ?_;try simp only [nc] at *
    obtain ⟨iv2,hv2⟩:∃iv2:Int→Prop,iv2=fun y=>y=z:=⟨_,rfl⟩
    refine j9 hA (γ:=Int) (fun y=>[(13,vi .i64 y),(30,.jk),(33,.jk)]) (fun y=>[]) iv2 (fun y=>0) z (by rw [hv2]) ?_ ?_
    ·cbv
    ·intro y hj
     cbv;refine gn ?_;try simp only [nc] at *
     rw [hv2] at hj
     replace hj:=hj.symm
     subst hj
     try cbv;refine gr ?_;try simp only [nc] at *
     obtain ⟨iv3,hv3⟩:∃iv3:ByteArray×Int→Prop,iv3=fun x=>∃j:Nat,x.2=(j:Int)∧j≤25∧(x.1=⟨⟨[]⟩⟩→a47 l k (H7.drop j)=F)∧(x.1≠⟨⟨[]⟩⟩→F=x.1):=⟨_,rfl⟩
     have h30:iv3 (⟨⟨[]⟩⟩,0):=by rw [hv3];exact ⟨0,rfl,by decide,fun _=>hfs,fun h=>absurd rfl h⟩
     have q2:=en hA nW
     refine j9 hA (γ:=ByteArray×Int) (fun x=>[(16,vs x.1),(17,vi .i64 x.2),(30,.jk),(33,.jk)]) (fun x=>[]) iv3 (fun x=>25 - x.2.toNat) (⟨⟨[]⟩⟩,0) h30 ?_ ?_
     ·cbv
     ·intro x hx
      obtain ⟨f,y⟩:=x
      cbv;refine gn ?_;try simp only [nc] at *
      rw [hv3] at hx
      obtain ⟨j,hy,hj,hf0,hf1⟩:=hx
      replace hy:y=(j:Int):=hy
      replace hf0:f=⟨⟨[]⟩⟩→a47 l k (H7.drop j)=F:=hf0
      replace hf1:f≠⟨⟨[]⟩⟩→F=f:=hf1
      have hE3:=hE
      by_cases hf:f=⟨⟨[]⟩⟩
      ·have u1:qm (qp f) (qp ⟨⟨[]⟩⟩)=true:=by rw [hf,s1];exact d3C _
       by_cases h25:j<25
       ·have u0:qi y 25=true:=el hA (d3a (by omega))
        have gw:=eg hA (hW j h25)
        rw [←hy] at gw
        obtain ⟨hs1,hs2⟩:=c3f h25
        have hst:=b9B (l:=l) (a:=k) (j:=j) (ws:=H7) (x:=H7.getD j ByteArray.empty) h25 rfl
        generalize H7.getD j ByteArray.empty=w at *
        unfold b99 at hst
        obtain ⟨m,hm⟩:∃m,m=(w.size:Int):=⟨_,rfl⟩
        have u2:qu w=m:=by rw [s5];exact hm.symm
        obtain ⟨z2,hz2⟩:∃z2,z2=z+m:=⟨_,rfl⟩
        have u3:qa .i64 (qb z m)=z2:=ew hA (by rw [IntWalk.i64_in _ (by omega)];exact hz2.symm)
        have u7:qa .i64 (qb y 1)=((j+1:Nat):Int):=ew hA (by rw [IntWalk.i64_in _ (by omega)];omega)
        have hmu3:25 - ((j+1:Nat):Int).toNat<25 - y.toNat:=by omega
        have hnext:∀f',(f'=⟨⟨[]⟩⟩→a47 l k (H7.drop (j+1))=F)→(f'≠⟨⟨[]⟩⟩→F=f')→iv3 (f',((j+1:Nat):Int)):=fun f' h1 h2=>by rw [hv3];exact ⟨j+1,rfl,h25,h1,h2⟩
        generalize ((j+1:Nat):Int)=y1 at *
        have hF0:=(hf0 hf).symm.trans hst
        by_cases hle:k+w.size≤l.length
        ·have u4:qj z2 N=true:=em hA (d3a (by omega))
         have y3:=yk k (k+w.size) (by omega) hle
         have x1:=a9E ((l.drop k).take (k+w.size - k))
         rw [show k+w.size - k=w.size by omega] at y3 x1
         rw [d3a hle,d44] at hF0
         rw [←hz,show ((k+w.size:Nat):Int)=z2 by omega] at y3
         generalize strOfNums ((l.drop k).take w.size)=S at *
         generalize K7 ((l.drop k).take w.size)=R1 at *
         have u5:=esb hA y3
         have u6:qx R1=some S:=(f1 _).trans x1
         obtain ⟨b,hbq⟩:∃b,b=(S.toList == w.toList):=⟨_,rfl⟩
         have u8:qm (qp S) (qp w)=b:=by rw [s1,s3,s3,hbq]
         rw [←hbq] at hF0
         cases b
         ·have hn2:=hnext f (fun _=>by rw [hF0,d2T (by decide)]) (fun h=>absurd hf h)
          iterate 2 (try cbv;repeat ((first|with_reducible apply f8 hA|rw [q0]|rw [q2]|rw [u0]|rw [u1]|rw [gw]|rw [u2]|rw [u3]|rw [u4]|rw [u5]|rw [u6]|rw [u7]|rw [u8]);cbv))
          try simp (maxSteps:=4000000) only [nc] at *
          refine ⟨_,hn2,hmu3,?_⟩
          cbv
         ·have hn2:=hnext w (fun h=>by rw [h] at hs1;exact absurd hs1 (by decide)) (fun _=>by rw [hF0,d2S rfl])
          iterate 2 (try cbv;repeat ((first|with_reducible apply f8 hA|rw [q0]|rw [q2]|rw [u0]|rw [u1]|rw [gw]|rw [u2]|rw [u3]|rw [u4]|rw [u5]|rw [u6]|rw [u7]|rw [u8]);cbv))
          try simp (maxSteps:=4000000) only [nc] at *
          refine ⟨_,hn2,hmu3,?_⟩
          cbv
        ·have u4:qj z2 N=false:=em hA (d2U (by omega))
         rw [d2U hle,d5b,d2T (by decide)] at hF0
         have hn2:=hnext f (fun _=>hF0.symm) (fun h=>absurd hf h)
         iterate 2 (try cbv;repeat ((first|with_reducible apply f8 hA|rw [q0]|rw [q2]|rw [u0]|rw [u1]|rw [gw]|rw [u2]|rw [u3]|rw [u4]|rw [u7]);cbv))
         try simp (maxSteps:=4000000) only [nc] at *
         refine ⟨_,hn2,hmu3,?_⟩
         cbv
       ·have u0:qi y 25=false:=el hA (d2U (by omega))
        have hF0:=hf0 hf
        rw [d3A (by rw [b9C];omega)] at hF0
        have hs0:E2 (l.drop k)=0:=by rw [←hsz,←hF0];rfl
        obtain ⟨rfl,rfl,rfl⟩:=hX _ (hE.trans (hns hs0))
        rw [←hz]
        iterate 2 (try cbv;repeat ((first|refine a55 hA 2 4 [] rfl rfl ?_|with_reducible apply f8 hA|rw [q0]|rw [q2]|rw [u0]|rw [u1]);cbv))
      have hFf:=hf1 hf
      have hfz:f.size≠0:=fun h=>hf (by
       apply d5z
       apply Array.eq_empty_of_size_eq_zero
       rw [ByteArray.size_data]
       exact h)
      have u1:qm (qp f) (qp ⟨⟨[]⟩⟩)=false:=by rw [s1,s3,s3,ByteArray.toList_eq ⟨⟨[]⟩⟩];exact c1x hfz
      rw [hFf] at hsz hys
      have hsc:=hE.trans (hys (by omega))
      obtain ⟨m,hm⟩:∃m,m=(f.size:Int):=⟨_,rfl⟩
      have u2:qu f=m:=by rw [s5];exact hm.symm
      obtain ⟨z2,hz2⟩:∃z2,z2=z+m:=⟨_,rfl⟩
      have u3:qa .i64 (qb z m)=z2:=ew hA (by rw [IntWalk.i64_in _ (by omega)];exact hz2.symm)
      have u7:ve L [[.sc (.int .u8 3),.sc (.string f),.sc (.int .i64 0),.sc (.int .i64 z)]]=L++[[.sc (.int .u8 3),.sc (.string f),.sc (.int .i64 0),.sc (.int .i64 z)]]:=by rw [r4]
      have hi2:inv (z2,false,L++[[.sc (.int .u8 3),.sc (.string f),.sc (.int .i64 0),.sc (.int .i64 z)]]):=by
       rw [hi]
       exact ⟨k+E2 (l.drop k),ts++[⟨3,f,0,z⟩],by show z2=_;omega,by rw [a62,hL];rfl,hsl,by rw [d2R];simp;omega,by rw [hsc,hz]⟩
      have hmm:mu (z2,false,L++[[.sc (.int .u8 3),.sc (.string f),.sc (.int .i64 0),.sc (.int .i64 z)]])<mu (z,false,L):=by
       rw [hmz,hmu]
       show l.length - z2.toNat<_
       omega
      generalize L++[[.sc (.int .u8 3),.sc (.string f),.sc (.int .i64 0),.sc (.int .i64 z)]]=L2 at *
      have key:qi y 25=false∨qi y 25=true:=by cases qi y 25 <;> simp
      rcases key with u0|u0
      all_goals
       iterate 2 (try cbv;repeat ((first|with_reducible apply f8 hA|rw [q0]|rw [q2]|rw [u0]|rw [u1]|rw [u2]|rw [u3]|rw [u7]|refine A6 hA true ?_|(refine B3 hA (by simp only [d2X,d3g];omega) ?_));cbv))
       try simp (maxSteps:=4000000) only [nc] at *
       refine ⟨_,hi2,hmm,?_⟩
       cbv
  ·have p0:qi z N=false:=el hA (d2U (by omega))
   obtain ⟨hX1,rfl,rfl⟩:=hX _ (hE.trans (a6z (by omega)))
   have hX2:X=L++[[.sc (.int .u8 4),.sc (.string ⟨⟨[]⟩⟩),.sc (.int .i64 0),.sc (.int .i64 N)]]:=by rw [hX1,a62,hL,hN];rfl
   have p2:ve L [[.sc (.int .u8 4),.sc (.string ⟨⟨[]⟩⟩),.sc (.int .i64 0),.sc (.int .i64 N)]]=X:=by rw [r4,hX2]
   clear hX1 hX2
   try cbv;exact fr
end Go.Proofs.YtahpnackkmbmgaaGreat.Vm
end

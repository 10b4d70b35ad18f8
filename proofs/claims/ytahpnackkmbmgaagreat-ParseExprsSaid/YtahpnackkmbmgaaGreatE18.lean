/- Part 18 of the proof. Conditions: none. -/
import Derived.Test.YtahpnackkmbmgaaGreatE4
import Derived.Test.YtahpnackkmbmgaaGreatE10
import Derived.Test.YtahpnackkmbmgaaGreatE14
import Derived.Test.YtahpnackkmbmgaaGreatE15
import Derived.Test.YtahpnackkmbmgaaGreatE17
import Derived.Test.YtahpnackkmbmgaaGreatE0
set_option linter.all false
set_option linter.unusedVariables false
set_option linter.unusedSimpArgs false
section
namespace Go.Proofs.YtahpnackkmbmgaaGreat.Vm
open Go.RowKit
set_option maxRecDepth 100000
set_option maxHeartbeats 4000000
abbrev a0F:Tm:=.mk 0 F8 F8 0 false r7 []
def zPL:PL:=(a0F,[])
def y8 (op:Int) (nm ar:ByteArray) (n:Int) (h:Bool) (ann:Ty) (a:Int) (ks:List PL):PL:=(.mk op nm ar n h ann (ks.map fun p=>p.1),a::ks.flatMap fun p=>p.2)
abbrev s8 (op:Int) (nm ar:ByteArray) (a:Int) (ks:List PL):PL:=y8 op nm ar 0 false r7 a ks
def J3 (op:Int) (nm:ByteArray) (n a:Int):PL:=(.mk op nm F8 n false r7 [],[a])
theorem b0f:cP zPL=cZ:=by
 unfold cP zPL a0F r7
 rw [cM,cT,rT,rM]
 rfl
theorem B0.reread {f:Nat} {vs:List V} {os:List O} {r r2:List V} (h:B0 f vs os (fun res os2=>res=r∧os2=os)) (hv:∀(I:Nat→Nat→Prop) (w:World) (g:Nat→Value) (us:List Value),m8 I w g us r→m8 I w g us r2):B0 f vs os (fun res os2=>res=r2∧os2=os) :=
 ⟨h.1,fun I w g args hr=>(h.2 I w g args hr).mono fun e w' ⟨us,res,os2,I',g',e1,⟨⟨q1,q2⟩,e2⟩,e3⟩=>⟨us,r2,os2,I',g',e1,⟨⟨rfl,q2⟩,e2⟩,⟨e3.im,e3.lt,e3.fr,e3.kp,e3.lo,e3.st,e3.obj,e3.dis,e3.out,hv _ _ _ _ (q1 ▸ e3.tmp),e3.dfr⟩⟩⟩
theorem b3d {I:Nat→Nat→Prop} {w:World} {g:Nat→Value} {op n:Int} {nm ar:ByteArray} {h:Bool} {x:List V} {us:List Value} (hv:m8 I w g us (.ag (b2Z op nm ar n h)::x)):m8 I w g us (.ag (b3a op nm ar n h (.sc (.int .u8 0)) (.sc (.string ⟨#[]⟩)) (.sc (.int .i64 0)) (.sl 4 []))::x):=by
 obtain ⟨u,us,rfl,h1,h2⟩:=hv.uncons
 obtain ⟨vs,rfl,h3⟩:=h1.unag
 exact .cons (Y4 (b3c (cs:=b2Z op nm ar n h) ⟨.inl rfl,.inl rfl,.inl rfl,.inl rfl,.inl rfl,.inl rfl,.inl rfl,.inl rfl,.inr ⟨rfl,_,rfl⟩,.inl rfl,trivial⟩ h3)) h2
theorem a2s (op:Int) (nm ar:ByteArray) (n:Int) (h:Bool) (a:Int) (ks:List PL) (hn:ks.length≤1048576) (hf:(ks.flatMap fun p=>p.2).length≤1048576) :
  B0 46 [.ag (b2Z op nm ar n h),vi .i64 a,.d (.sl 11 (rP ks))] [] (fun res os=>res=[.ag (A7 (cP (y8 op nm ar n h r7 a ks)))]∧os=[]):=by
 have h1:=(c2l op nm ar n h (.sc (.int .u8 0)) (.sc (.string ⟨#[]⟩)) (.sc (.int .i64 0)) (.sl 4 []) a ks hn hf).args fun I w g us hv=>b3d hv
 have e:A7 (cP (y8 op nm ar n h r7 a ks))=[vi .u8 op,vs nm,vs ar,vi .i64 n,vb h,.d (.sc (.int .u8 0)),.d (.sc (.string ⟨#[]⟩)),.d (.sc (.int .i64 0)),.d (.sl 4 []),.d (.sl 10 (rM (ks.map fun p=>p.1))),.d (.sl 1 (rZ (a::ks.flatMap fun p=>p.2)))]:=by
  unfold cP y8 r7
  rw [cM,cT,rT]
  rfl
 rw [e]
 exact h1
theorem c23 (op:Int) (nm ar:ByteArray) (n:Int) (h:Bool) (t:Ty) (y:Nat→D) (hy:cT t=c4 y) (a:Int) (ks:List PL) (hn:ks.length≤1048576) (hf:(ks.flatMap fun p=>p.2).length≤1048576) :
  B0 46 [.ag (b3a op nm ar n h (y 0) (y 1) (y 2) (y 3)),vi .i64 a,.d (.sl 11 (rP ks))] [] (fun res os=>res=[.ag (A7 (cP (y8 op nm ar n h t a ks)))]∧os=[]):=by
 have h1:=c2l op nm ar n h (y 0) (y 1) (y 2) (y 3) a ks hn hf
 have e:A7 (cP (y8 op nm ar n h t a ks))=[vi .u8 op,vs nm,vs ar,vi .i64 n,vb h,.d (y 0),.d (y 1),.d (y 2),.d (y 3),.d (.sl 10 (rM (ks.map fun p=>p.1))),.d (.sl 1 (rZ (a::ks.flatMap fun p=>p.2)))]:=by
  unfold cP y8
  rw [cM,hy]
  rfl
 rw [e]
 exact h1
theorem b6j (op:Int) (nm:ByteArray) (n a:Int):B0 80 [.ag (b2Z op nm ⟨#[]⟩ n false),vi .i64 a] [] (fun res os=>res=[.ag (A7 (cP (J3 op nm n a)))]∧os=[]):=by
 have h1:=(c7p (op:=op) (nm:=nm) (ar:=⟨#[]⟩) (n:=n) (h:=false) (a:=a) (y0:=.sc (.int .u8 0)) (y1:=.sc (.string ⟨#[]⟩)) (y2:=.sc (.int .i64 0)) (y3:=.sl 4 [])).args fun I w g us hv=>b3d hv
 have e:A7 (cP (J3 op nm n a))=[vi .u8 op,vs nm,vs ⟨#[]⟩,vi .i64 n,vb false,.d (.sc (.int .u8 0)),.d (.sc (.string ⟨#[]⟩)),.d (.sc (.int .i64 0)),.d (.sl 4 []),.d (.sl 10 []),.d (.sl 1 [[.sc (.int .i64 a)]])]:=by
  unfold cP J3 r7
  rw [cM,cT,rT,rM]
  rfl
 rw [e]
 refine h1.reread fun I w g us hv=>?_
 obtain ⟨u,us,rfl,h1,h2⟩:=hv.uncons
 obtain ⟨vs,rfl,h3⟩:=h1.unag
 refine .cons (Y4 (h3.reset (i:=9) fun v hv=>?_)) h2
 have h4:=h3.2 9 v _ hv rfl
 cases h4 with
 | d h4=>exact .d (h4.empty 10)
def b3e (f:ByteArray→Bool):List ByteArray→ByteArray
 | []=>F8
 | s::l=>if f s=true then s else b3e f l
theorem b9l (f:ByteArray→Bool) {l:List ByteArray} {k:Nat} {s:ByteArray} (h:l[k]?=some s):b3e f (l.drop k)=if f s=true then s else b3e f (l.drop (k+1)):=by
 obtain ⟨hk,e⟩:=d2Q.1 h
 rw [d3r hk,e,b3e]
theorem c4L {T:List (List D)} {a:Int} {l:List ByteArray} (f:ByteArray→Bool) (hn:l.length≤1000) (hs:∀s∈l,S6N T s a (f s)):AmN T a l (b3e f l):=by
 obtain ⟨R,hR⟩:∃R:List (List D),R=l.map fun s=>[.sc (.string s)]:=⟨_,rfl⟩
 unfold AmN
 rw [←hR]
 have hlen:R.length=l.length:=by rw [hR,d3o]
 obtain ⟨r,hr⟩:∃r,r=b3e f l:=⟨_,rfl⟩
 rw [←hr]
 obtain ⟨inv,hv⟩:∃inv:Int→Prop,inv=fun z=>∃k:Nat,z=(k:Int)∧k≤l.length∧r=b3e f (l.drop k):=⟨_,rfl⟩
 have hi0:inv 0:=by rw [hv];exact ⟨0,rfl,d3t _,by rw [hr,d4g]⟩
 refine N2 Tryz.func54 rfl ?_;intro qa qb _ _ _ _ _ qi _ _ _ _ _ _ _ _ _ _ _ _ _ _ va vc;intros;rename_i hA
 obtain ⟨e1,e2,e3,e4,e5,e6,e7,e8,e9⟩:=j7 hA
 obtain ⟨r1,r2,r3,r4⟩:=A8 hA
 try cbv;refine gr ?_;try simp only [nc] at *
 refine j9 hA (γ:=Int) (fun z=>[(7,vi .i64 z)]) (fun _=>[]) inv (fun z=>l.length - z.toNat) 0 hi0 ?_ ?_
 ·cbv
 ·intro z hinv
  cbv;refine gn ?_;try simp only [nc] at *
  rw [hv] at hinv
  obtain ⟨k,hz,hk,hr⟩:=hinv
  replace hz:z=(k:Int):=hz
  have hlt:qi z (va R)=decide (k<l.length):=by rw [e7,r1,hlen,hz];exact d3l.2 (by omega)
  by_cases h9:k<l.length
  ·rw [d3a h9] at hlt
   obtain ⟨s,hs'⟩:∃s,l[k]?=some s:=⟨_,d2P h9⟩
   have gx:vc R z=some [.sc (.string s)]:=by rw [r2,hz,d2S (by omega),show ((k:Int)).toNat=k by omega,hR,d3u,hs'];rfl
   have h0:=hs s (d3e hs')
   have hz1:qa .i64 (qb z 1)=((k+1:Nat):Int):=by rw [e1,e2,hz,IntWalk.i64_in _ (by omega)];omega
   have hm:l.length - (qa .i64 (qb z 1)).toNat<l.length - z.toNat:=by rw [hz1,hz];omega
   rw [b9l f hs'] at hr
   rw [hlt]
   cases hb:f s
   ·rw [hb,d2T (by decide)] at hr
    rw [hb] at h0
    have hi:inv (qa .i64 (qb z 1)):=by rw [hv];exact ⟨k+1,hz1,by omega,hr⟩
    iterate 2 (try cbv;repeat ((first|with_reducible apply f8 hA|rw [gx]|refine f9 hA _ h0 rfl ?_|refine i7 hA _ h0 ?_);cbv))
    try simp (maxSteps:=4000000) only [nc] at *
    refine ⟨_,hi,hm,?_⟩
    cbv
   ·rw [hb,d2S rfl] at hr
    rw [hb] at h0
    rw [hr]
    iterate 2 (try cbv;repeat ((first|with_reducible apply f8 hA|rw [gx]|refine f9 hA _ h0 rfl ?_|refine i7 hA _ h0 ?_);cbv))
  ·rw [d2U h9] at hlt
   have hr:r=⟨#[]⟩:=by rw [hr,d4z (by omega)];rfl
   rw [hr,hlt]
   try cbv;exact fr
def cG (g:PL×PE):List D:=cP g.1++[.sc (.int .i64 (g.2.1:Int)),.sc (.int .i64 g.2.2)]
theorem c76 {g:PL×PE} {x:Nat→D} (h:cP g.1=cE x):cG g=gG x g.2.1 g.2.2:=by unfold cG;rw [h];rfl
theorem a4x (g:PL×PE):∃x,cP g.1=cE x∧cG g=gG x g.2.1 g.2.2:=by
 obtain ⟨x,h⟩:=C2 g.1
 exact ⟨x,h,c76 h⟩
def a1J:List (PL×PE)→Option (PL×PE)
 | []=>none
 | g::l=>if g.2.2=0 then a1J l else some g
theorem b9m {l:List (PL×PE)} {k:Nat} {g:PL×PE} (h:l[k]?=some g):a1J (l.drop k)=if g.2.2=0 then a1J (l.drop (k+1)) else some g:=by
 obtain ⟨hk,e⟩:=d2Q.1 h
 rw [d3r hk,e,a1J]
def d1Y (p:Int) (ks:List (PL×PE)) (r:Option (PL×PE)) (x:Int×List (List D)×List (List D)):Prop:=∃k:Nat,x.1=(k:Int)∧k≤ks.length∧x.2.1=rM ((ks.take k).map fun g=>g.1.1)∧x.2.2=rZ (p::(ks.take k).flatMap fun g=>g.1.2)∧r=a1J (ks.drop k)
theorem c24 (op:Int) (nm ar:ByteArray) (n:Int) (h:Bool) (y0 y1 y2 y3:D) (p m:Int) (ks:List (PL×PE)) (hn:ks.length≤1048576) (hf:(ks.flatMap fun g=>g.1.2).length≤1048576) (X:List D) (hX:X=match a1J ks with
   | some g=>cG g
   | none=>[.sc (.int .u8 op),.sc (.string nm),.sc (.string ar),.sc (.int .i64 n),.sc (.bool h),y0,y1,y2,y3,.sl 10 (rM (ks.map fun g=>g.1.1)),.sl 1 (rZ (p::ks.flatMap fun g=>g.1.2)),.sc (.int .i64 m),.sc (.int .i64 0)]) :
  B0 57 [.ag (b3a op nm ar n h y0 y1 y2 y3),vi .i64 p,vi .i64 m,.d (.sl 13 (ks.map cG))] [] (fun res os=>res=[.ag (A7 X)]∧os=[]):=by
 obtain ⟨N,hN⟩:∃N,N=ks.length:=⟨_,rfl⟩
 rw [←hN] at hn
 have hft:=fun k=>a4Q (fun g:PL×PE=>g.1.2) ks k
 have hfo:=fun k q h=>a4w (fun g:PL×PE=>g.1.2) ks k q h
 obtain ⟨F,hF⟩:∃F,F=(ks.flatMap fun g=>g.1.2).length:=⟨_,rfl⟩
 rw [←hF] at hf
 simp only [←hF] at hft hfo
 obtain ⟨R0,hK0⟩:∃R0,R0=ks.map cG:=⟨_,rfl⟩
 rw [←hK0]
 have hlen:R0.length=N:=by rw [hK0,d3o,hN]
 obtain ⟨inv,hv⟩:∃inv,inv=d1Y p ks (a1J ks):=⟨_,rfl⟩
 have hi0:inv (0,[],[[.sc (.int .i64 p)]]):=by rw [hv];exact ⟨0,rfl,d3t _,by rw [d5d,d35,rM],rfl,by rw [d4g]⟩
 refine a06 Tryz.func57 rfl (by kernel_rfl) (by kernel_rfl) (by kernel_rfl) rfl ?_;intro qa qb _ _ _ _ _ qi _ qk _ _ _ _ _ _ _ _ _ _ _ _ va vc _ ve;intros;rename_i hA K hK
 obtain ⟨e1,e2,e3,e4,e5,e6,e7,e8,e9⟩:=j7 hA
 obtain ⟨r1,r2,r3,r4⟩:=A8 hA
 iterate 2 (try cbv;repeat ((first|refine a7u hA 4 9 30 true rfl rfl ?_|with_reducible apply f8 hA|refine A6 hA false ?_|refine a1E hA true ?_);cbv))
 try simp (maxSteps:=4000000) only [nc] at *
 refine j9 hA (γ:=Int×List (List D)×List (List D)) (fun x=>[(10,vi .i64 x.1),(13,.jk),(15,.jk)]) (fun x=>[(0,.kl [3,5]),(3,.row true 3 x.2.2),(5,.row true 30 x.2.1)]) inv (fun x=>N - x.1.toNat) (0,[],[[.sc (.int .i64 p)]]) hi0 ?_ ?_
 ·cbv
 ·intro x hinv
  obtain ⟨z,KL,AL⟩:=x
  cbv;refine gn ?_;try simp only [nc] at *
  rw [hv] at hinv
  obtain ⟨k,hz,hk,hKL,hAL,hb⟩:=hinv
  replace hz:z=(k:Int):=hz
  replace hKL:KL=rM ((ks.take k).map fun g=>g.1.1):=hKL
  replace hAL:AL=rZ (p::(ks.take k).flatMap fun g=>g.1.2):=hAL
  have hkl:KL.length=k:=by rw [hKL,a2I,d3o,d3v];omega
  have hal:AL.length≤1048577:=by rw [hAL,a5O,d2X];have:=hft k;omega
  have hlt:qi z (va R0)=decide (k<N):=by rw [e7,r1,hlen,hz];exact d3l.2 (by omega)
  by_cases h9:k<N
  ·rw [d3a h9] at hlt
   obtain ⟨q,hq⟩:∃q,ks[k]?=some q:=⟨_,d2P (by omega)⟩
   obtain ⟨d0,d1,d2,d3,d4,d5,d6,d7,d8,d9,hd⟩:=a4v q.1.1
   have hcg:cG q=[d0,d1,d2,d3,d4,d5,d6,d7,d8,d9,.sl 1 (rZ q.1.2),.sc (.int .i64 (q.2.1:Int)),.sc (.int .i64 q.2.2)]:=by unfold cG cP;rw [hd];rfl
   have gx:vc R0 z=some [d0,d1,d2,d3,d4,d5,d6,d7,d8,d9,.sl 1 (rZ q.1.2),.sc (.int .i64 (q.2.1:Int)),.sc (.int .i64 q.2.2)]:=by rw [r2,hz,d2S (by omega),show ((k:Int)).toNat=k by omega,hK0,d3u,hq,←hcg];rfl
   rw [b9m hq] at hb
   have hz1:qa .i64 (qb z 1)=((k+1:Nat):Int):=by rw [e1,e2,hz,IntWalk.i64_in _ (by omega)];omega
   have hm:N - (qa .i64 (qb z 1)).toNat<N - z.toNat:=by rw [hz1,hz];omega
   have hq2:(rZ q.1.2).length≤1048576:=by rw [a5O];have:=hfo k q hq;omega
   rw [hlt]
   by_cases h0:q.2.2=0
   ·have q0:qk q.2.2 0=true:=by rw [e9,h0];rfl
    rw [d2S h0] at hb
    have hi:inv (qa .i64 (qb z 1),KL++[[d0,d1,d2,d3,d4,d5,d6,d7,d8,d9]],AL++rZ q.1.2):=by
     rw [hv]
     refine ⟨k+1,hz1,by omega,?_,?_,hb⟩
     ·show KL++_=_
      rw [hKL,a1H,a1H,←hd,a1a hq]
      simp
     ·show AL++_=_
      rw [hAL,←c2j,a1a hq]
      simp
    generalize rZ q.1.2=Q at *
    generalize q.2.2=c2 at *
    generalize (q.2.1:Int)=m2 at *
    have q1:ve KL [[d0,d1,d2,d3,d4,d5,d6,d7,d8,d9]]=KL++[[d0,d1,d2,d3,d4,d5,d6,d7,d8,d9]]:=by rw [r4]
    have q2:ve AL Q=AL++Q:=by rw [r4]
    iterate 2 (try cbv;repeat ((first|with_reducible apply f8 hA|rw [gx]|rw [q0]|rw [q1]|rw [q2]|refine A6 hA true ?_|(refine B3 hA (by simp only [d2X,d3g];omega) ?_)|refine B3 hA (by omega) ?_);cbv))
    try simp (maxSteps:=4000000) only [nc] at *
    refine ⟨_,hi,hm,?_⟩
    cbv
   ·have q0:qk q.2.2 0=false:=by rw [e9];exact d2U h0
    rw [d2T h0] at hb
    rw [hb] at hX
    replace hX:X=cG q:=hX
    rw [hX,hcg] at hK
    generalize rZ q.1.2=Q at *
    generalize q.2.2=c2 at *
    generalize (q.2.1:Int)=m2 at *
    iterate 2 (try cbv;repeat ((first|with_reducible apply f8 hA|rw [gx]|rw [q0]);cbv))
    try simp (maxSteps:=4000000) only [nc] at *
    exact hK _ rfl
  ·rw [d2U h9] at hlt
   have hk2:ks.take k=ks:=d31 (by omega)
   rw [d4z (by omega)] at hb
   rw [hb] at hX
   replace hX:X=[.sc (.int .u8 op),.sc (.string nm),.sc (.string ar),.sc (.int .i64 n),.sc (.bool h),y0,y1,y2,y3,.sl 10 KL,.sl 1 AL,.sc (.int .i64 m),.sc (.int .i64 0)]:=by rw [hX,hKL,hAL,hk2];rfl
   rw [hX] at hK
   rw [hlt]
   try cbv;refine gr ?_;try simp only [nc] at *
   exact hK _ rfl
abbrev PF:=PE→PL×PE
structure FitP (ts:List Tok) (p:PE) (r:PL×PE):Prop where
 lo:p.1≤r.2.1
 hi:r.2.1<ts.length
 sz:r.1.2.length+2 * p.1≤2 * r.2.1+2
 ok:r.2.2=0→p.2=0∧r.1.2.length+2 * p.1+1≤2 * r.2.1
def B8 (ts:List Tok) (nx:PF):Prop:=∀p:PE,p.1<ts.length→FitP ts p (nx p)
def Z3 (sg:List ByteArray) (nx:PF) (ts:List Tok) (a:Int):Nat→PL×PE→PL×PE
 | 0,s=>s
 | k+1,s=>match n8 ts sg s.2 with
  | none=>s
  | some g=>Z3 sg nx ts a k (s8 40 g F8 a [s.1,(nx (s.2.1+1,0)).1],(nx (s.2.1+1,0)).2)
theorem P8 {ts:List Tok} (hE:o5 ts) {p:PE} (hp:p.1<ts.length):∀ {l:List ByteArray} {g:ByteArray},n8 ts l p=some g→p.2=0∧p.1+1<ts.length∧g∈l
 | s::l,g,h=>by
  rw [n8] at h
  split at h
  ·rename_i hs
   injection h with h
   subst h
   obtain ⟨h1,h2⟩:=I8 hE hp hs
   exact ⟨h1,h2,d2V ..⟩
  ·obtain ⟨h1,h2,h3⟩:=P8 hE hp h
   exact ⟨h1,h2,d2W _ h3⟩
theorem b1G {sg:List ByteArray} {nx:PF} {ts:List Tok} {a:Int} (hE:o5 ts) (hf:B8 ts nx):∀(k m:Nat) (s:PL×PE),s.2.1<ts.length→ts.length - s.2.1≤k→ts.length - s.2.1≤m→Z3 sg nx ts a k s=Z3 sg nx ts a m s
 | 0,m,s,h,h1,h2=>by omega
 | k+1,0,s,h,h1,h2=>by omega
 | k+1,m+1,s,h,h1,h2=>by
  rw [Z3,Z3]
  cases hs:n8 ts sg s.2 with
  | none=>rfl
  | some g =>
   obtain ⟨_,h4,_⟩:=P8 hE h hs
   have hn:=hf (s.2.1+1,0) h4
   exact b1G hE hf k m _ hn.hi (by have:=hn.lo;show ts.length - (nx (s.2.1+1,0)).2.1≤k;omega) (by have:=hn.lo;show ts.length - (nx (s.2.1+1,0)).2.1≤m;omega)
def SzP (b:Nat) (s:PL×PE):Prop:=b≤s.2.1∧s.1.2.length+2 * b≤2 * s.2.1+2∧(s.2.2=0→s.1.2.length+2 * b+1≤2 * s.2.1)
theorem a4R {nx:PF} {ts:List Tok} (hE:o5 ts) (hf:B8 ts nx) {b:Nat} {op:Int} {nm ar:ByteArray} {a:Int} {s:PL×PE} (hs:SzP b s) (h0:s.2.2=0) (h:s.2.1+1<ts.length):SzP b (s8 op nm ar a [s.1,(nx (s.2.1+1,0)).1],(nx (s.2.1+1,0)).2):=by
 have hn:=hf (s.2.1+1,0) h
 obtain ⟨h1,h2,h3⟩:=hs
 have h3:=h3 h0
 have l1:=hn.lo
 have l2:=hn.sz
 have l3:=hn.ok
 simp only at l1 l2 l3
 unfold SzP s8 y8
 simp only [d3j,d3m,d3f,d2X,d2R]
 exact ⟨by omega,by omega,fun h=>by have:=(l3 h).2;omega⟩
def c9V (ts:List Tok) (b:Nat) (sg:List ByteArray) (nx:PF) (a:Int) (r:PL×PE) (x:(Nat→D)×Int×Int×Int):Prop:=∃y:PL×PE,cP y.1=cE x.1∧(x.2.1,x.2.2.1,x.2.2.2)=stP ts y.2∧y.2.1<ts.length∧SzP b y∧r=Z3 sg nx ts a ts.length y
theorem b3f {sg:List ByteArray} {nx:PF} {ts:List Tok} {a:Int} (hE:o5 ts) (hf:B8 ts nx) {y:PL×PE} (h:y.2.1<ts.length):Z3 sg nx ts a ts.length y=match n8 ts sg y.2 with
  | none=>y
  | some g=>Z3 sg nx ts a ts.length (s8 40 g F8 a [y.1,(nx (y.2.1+1,0)).1],(nx (y.2.1+1,0)).2):=by
 have e:Z3 sg nx ts a ts.length y=Z3 sg nx ts a (ts.length+1) y:=b1G hE hf _ _ y h (by omega) (by omega)
 rw [e,Z3]
abbrev a4y:List ByteArray:=[⟨#[43]⟩,⟨#[45]⟩]
def b9n (nx:PF) (ts:List Tok) (p:PE):PL×PE:=Z3 a4y nx ts (j6 ts p.1).at_ ts.length (nx p)
theorem c9W {ts:List Tok} (hE:o5 ts) (hl:ts.length≤65537) {L:Int} {nx:PF} (hf:B8 ts nx) (hx:∀p:PE,p.1<ts.length→L3 81 [vi .i64 L] ts p [.ag (A7 (cP (nx p).1))] (nx p).2) (p:PE) (hp:p.1<ts.length) :
  L3 47 [vi .i64 L] ts p [.ag (A7 (cP (b9n nx ts p).1))] (b9n nx ts p).2:=by
 have hh:=a5o (by omega:ts.length≤1048576) hp
 have hn:=hf p hp
 have h1:=hx p hp
 have hsg:∀q:PE,q.1<ts.length→L3 82 [.d (.sl 1 [[.sc (.string ⟨#[43]⟩)],[.sc (.string ⟨#[45]⟩)]])] ts q [vs ((n8 ts a4y q).getD F8)] (a24 ts a4y q):=fun q hq=>b0e (by omega) hq a4y (by decide)
 have hov:=fun g a x y hf=>a2s 40 g ⟨#[]⟩ 0 false a [x,y] (by simp only [d2X,d3g];omega) hf
 unfold b9n
 generalize (j6 ts p.1).at_=pl at *
 obtain ⟨rr,hrr⟩:∃rr,rr=Z3 a4y nx ts pl ts.length (nx p):=⟨_,rfl⟩
 rw [←hrr]
 obtain ⟨x1,hx1⟩:=C2 (nx p).1
 unfold L3 at hh h1 ⊢
 rw [hx1] at h1
 obtain ⟨s0,hs0⟩:∃s0,s0=stP ts p:=⟨_,rfl⟩
 obtain ⟨s1,hs1⟩:∃s1,s1=stP ts (nx p).2:=⟨_,rfl⟩
 obtain ⟨s9,hs9⟩:∃s9,s9=stP ts rr.2:=⟨_,rfl⟩
 obtain ⟨R9,hR9⟩:∃R9,R9=cP rr.1:=⟨_,rfl⟩
 rw [←hs0] at hh h1
 rw [←hs1] at h1
 rw [←hs0,←hs9,←hR9]
 obtain ⟨inv,hi⟩:∃inv,inv=c9V ts p.1 a4y nx pl rr:=⟨_,rfl⟩
 have hi0:inv (x1,s1.1,s1.2.1,s1.2.2):=by rw [hi];exact ⟨nx p,hx1,hs1,hn.hi,⟨hn.lo,hn.sz,fun h=>(hn.ok h).2⟩,hrr⟩
 obtain ⟨mu,hmu⟩:∃mu:(Nat→D)×Int×Int×Int→Nat,mu=fun x=>ts.length - x.2.2.2.toNat:=⟨_,rfl⟩
 generalize hT:C9 ts=T at *
 obtain ⟨a0,b0,d0⟩:=s0
 obtain ⟨a1,b1,d1⟩:=s1
 obtain ⟨a9,b9,d9⟩:=s9
 refine Z5 Tryz.func47 rfl ?_;intro _ _ _ _ _ _ _ _ _ _ _ qm _ qp _ _ _ _ _ _ _ _ _ _ _ _ _ _ _ _ _ _ _ _ _ _ _ _ _ _ _ vw;intros;rename_i hA
 obtain ⟨e1,e2,e3,e4,e5,e6,e7,e8,e9⟩:=j7 hA
 obtain ⟨c1,c2,c3,c4_,c5,c6,c7⟩:=G1 hA
 iterate 2 (try cbv;repeat ((first|with_reducible apply f8 hA|refine A4 hA [0,1] hh ?_|refine A4 hA [0,1] h1 ?_);cbv))
 try simp (maxSteps:=4000000) only [nc] at *
 refine j9 hA (γ:=(Nat→D)×Int×Int×Int) (fun x=>[(12,.jk)]) (fun x=>[(0,.box [.ptr 1 0,vi .u8 x.2.1,vi .i64 x.2.2.1]),(1,.box [.d (.sl 4 T),vi .i64 x.2.2.2]),(3,.box (A7 (cE x.1)))]) inv mu (x1,a1,b1,d1) hi0 ?_ ?_
 ·cbv
 ·intro x hinv
  obtain ⟨x,e,q,a⟩:=x
  cbv;refine gn ?_;try simp only [nc] at *
  rw [hi] at hinv
  obtain ⟨y,hy1,hy2,hyl,hsz,hr⟩:=hinv
  replace hy1:cP y.1=cE x:=hy1
  replace hy2:((e,q,a):ST)=stP ts y.2:=hy2
  rw [b3f hE hf hyl] at hr
  have hs:=hsg y.2 hyl
  unfold L3 a24 at hs
  rw [←hy2,hT] at hs
  cases hso:n8 ts a4y y.2 with
  | none =>
   rw [hso] at hr hs
   dsimp only at hr hs
   rw [←hy2] at hs
   have hR:R9=cE x:=by rw [hR9,hr,hy1]
   have hss:((a9,b9,d9):ST)=(e,q,a):=by rw [hs9,hr,←hy2]
   injection hss with f0 f1
   injection f1 with f1 f2
   subst f0;subst f1;subst f2
   rw [hR]
   have q1:qm (qp ⟨#[]⟩) (qp ⟨#[]⟩)=true:=by rw [c1];exact d3C _
   clear hs9 hR9 hr hy2 hso hi0
   have p0:=hs;exact I5
  | some g =>
   rw [hso] at hr hs
   dsimp only [d5g] at hr hs
   obtain ⟨k1,k2,k3⟩:=P8 hE hyl hso
   have hsz2:=a4R hE hf (op:=40) (nm:=g) (ar:=F8) (a:=pl) hsz k1 k2
   have hn2:=hf (y.2.1+1,0) k2
   have hp2:=hx (y.2.1+1,0) k2
   unfold L3 at hp2
   have ho:=hov g pl y.1 (nx (y.2.1+1,0)).1 (by
    have h1:=hsz2.2.1
    have h2:=hn2.hi
    simp only [s8,y8,d3j,d3m,d3f,d2X,d2R] at h1 ⊢
    omega)
   have q1:qm (qp g) (qp ⟨#[]⟩)=false:=by
    simp only [d3d,d4p,d5x] at k3
    rcases k3 with rfl|rfl <;> (simp only [c1,c3,ByteArray.toList_eq];rfl)
   obtain ⟨z,hz⟩:∃z,z=s8 40 g F8 pl [y.1,(nx (y.2.1+1,0)).1]:=⟨_,rfl⟩
   obtain ⟨x2,hx2⟩:=C2 (nx (y.2.1+1,0)).1
   obtain ⟨x3,hx3⟩:=C2 z
   rw [show rP [y.1,(nx (y.2.1+1,0)).1]=[cE x,cE x2] by unfold rP;rw [d3c,d3c,d35,hy1,hx2],show cP (y8 40 g ⟨#[]⟩ 0 false r7 pl [y.1,(nx (y.2.1+1,0)).1])=cE x3 by rw [←hx3,hz]] at ho
   rw [hx2,hT] at hp2
   have ha:a=(y.2.1:Int):=congrArg (fun s:ST=>s.2.2) hy2
   have hin:inv (x3,stP ts (nx (y.2.1+1,0)).2):=by rw [hi];exact ⟨(z,(nx (y.2.1+1,0)).2),hx3,rfl,hn2.hi,by rw [hz];exact hsz2,by rw [hz];exact hr⟩
   have hmu9:mu (x3,stP ts (nx (y.2.1+1,0)).2)<mu (x,e,q,a):=by
    rw [hmu]
    show ts.length - (((nx (y.2.1+1,0)).2.1:Nat):Int).toNat<ts.length - a.toNat
    have:=hn2.lo
    rw [ha]
    simp only [d3q] at this ⊢
    omega
   generalize stP ts (y.2.1+1,0)=s2 at *
   generalize stP ts (nx (y.2.1+1,0)).2=s3 at *
   obtain ⟨a2,b2,d2⟩:=s2
   obtain ⟨a3,b3,d3⟩:=s3
   have hp2b:=v8.box hp2 rfl
   clear hs9 hR9 hr hy2 hso hi0 hsz2 hn2 hz hx3 hx2 hy1
   have p0:=hs;have p1:=hp2;have o0:=ho;have hi:=hin;have hm:=hmu9;exact I5
abbrev a1K:List ByteArray:=[⟨#[42]⟩,⟨#[47]⟩,⟨#[37]⟩]
def a7T (nx:PF) (ts:List Tok) (p:PE):PL×PE:=Z3 a1K nx ts (j6 ts p.1).at_ ts.length (nx p)
theorem c77 {ts:List Tok} (hE:o5 ts) (hl:ts.length≤65537) {L:Int} {nx:PF} (hf:B8 ts nx) (hx:∀p:PE,p.1<ts.length→L3 108 [vi .i64 L] ts p [.ag (A7 (cP (nx p).1))] (nx p).2) (p:PE) (hp:p.1<ts.length) :
  L3 81 [vi .i64 L] ts p [.ag (A7 (cP (a7T nx ts p).1))] (a7T nx ts p).2:=by
 have hh:=a5o (by omega:ts.length≤1048576) hp
 have hn:=hf p hp
 have h1:=hx p hp
 have hsg:∀q:PE,q.1<ts.length→L3 82 [.d (.sl 1 [[.sc (.string ⟨#[42]⟩)],[.sc (.string ⟨#[47]⟩)],[.sc (.string ⟨#[37]⟩)]])] ts q [vs ((n8 ts a1K q).getD F8)] (a24 ts a1K q):=fun q hq=>b0e (by omega) hq a1K (by decide)
 have hov:=fun g a x y hf=>a2s 40 g ⟨#[]⟩ 0 false a [x,y] (by simp only [d2X,d3g];omega) hf
 unfold a7T
 generalize (j6 ts p.1).at_=pl at *
 obtain ⟨rr,hrr⟩:∃rr,rr=Z3 a1K nx ts pl ts.length (nx p):=⟨_,rfl⟩
 rw [←hrr]
 obtain ⟨x1,hx1⟩:=C2 (nx p).1
 unfold L3 at hh h1 ⊢
 rw [hx1] at h1
 obtain ⟨s0,hs0⟩:∃s0,s0=stP ts p:=⟨_,rfl⟩
 obtain ⟨s1,hs1⟩:∃s1,s1=stP ts (nx p).2:=⟨_,rfl⟩
 obtain ⟨s9,hs9⟩:∃s9,s9=stP ts rr.2:=⟨_,rfl⟩
 obtain ⟨R9,hR9⟩:∃R9,R9=cP rr.1:=⟨_,rfl⟩
 rw [←hs0] at hh h1
 rw [←hs1] at h1
 rw [←hs0,←hs9,←hR9]
 obtain ⟨inv,hi⟩:∃inv,inv=c9V ts p.1 a1K nx pl rr:=⟨_,rfl⟩
 have hi0:inv (x1,s1.1,s1.2.1,s1.2.2):=by rw [hi];exact ⟨nx p,hx1,hs1,hn.hi,⟨hn.lo,hn.sz,fun h=>(hn.ok h).2⟩,hrr⟩
 obtain ⟨mu,hmu⟩:∃mu:(Nat→D)×Int×Int×Int→Nat,mu=fun x=>ts.length - x.2.2.2.toNat:=⟨_,rfl⟩
 generalize hT:C9 ts=T at *
 obtain ⟨a0,b0,d0⟩:=s0
 obtain ⟨a1,b1,d1⟩:=s1
 obtain ⟨a9,b9,d9⟩:=s9
 refine Z5 Tryz.func81 rfl ?_;intro _ _ _ _ _ _ _ _ _ _ _ qm _ qp _ _ _ _ _ _ _ _ _ _ _ _ _ _ _ _ _ _ _ _ _ _ _ _ _ _ _ vw;intros;rename_i hA
 obtain ⟨e1,e2,e3,e4,e5,e6,e7,e8,e9⟩:=j7 hA
 obtain ⟨c1,c2,c3,c4_,c5,c6,c7⟩:=G1 hA
 iterate 2 (try cbv;repeat ((first|with_reducible apply f8 hA|refine A4 hA [0,1] hh ?_|refine A4 hA [0,1] h1 ?_);cbv))
 try simp (maxSteps:=4000000) only [nc] at *
 refine j9 hA (γ:=(Nat→D)×Int×Int×Int) (fun x=>[(12,.jk)]) (fun x=>[(0,.box [.ptr 1 0,vi .u8 x.2.1,vi .i64 x.2.2.1]),(1,.box [.d (.sl 4 T),vi .i64 x.2.2.2]),(3,.box (A7 (cE x.1)))]) inv mu (x1,a1,b1,d1) hi0 ?_ ?_
 ·cbv
 ·intro x hinv
  obtain ⟨x,e,q,a⟩:=x
  cbv;refine gn ?_;try simp only [nc] at *
  rw [hi] at hinv
  obtain ⟨y,hy1,hy2,hyl,hsz,hr⟩:=hinv
  replace hy1:cP y.1=cE x:=hy1
  replace hy2:((e,q,a):ST)=stP ts y.2:=hy2
  rw [b3f hE hf hyl] at hr
  have hs:=hsg y.2 hyl
  unfold L3 a24 at hs
  rw [←hy2,hT] at hs
  cases hso:n8 ts a1K y.2 with
  | none =>
   rw [hso] at hr hs
   dsimp only at hr hs
   rw [←hy2] at hs
   have hR:R9=cE x:=by rw [hR9,hr,hy1]
   have hss:((a9,b9,d9):ST)=(e,q,a):=by rw [hs9,hr,←hy2]
   injection hss with f0 f1
   injection f1 with f1 f2
   subst f0;subst f1;subst f2
   rw [hR]
   have q1:qm (qp ⟨#[]⟩) (qp ⟨#[]⟩)=true:=by rw [c1];exact d3C _
   clear hs9 hR9 hr hy2 hso hi0
   have p0:=hs;exact I5
  | some g =>
   rw [hso] at hr hs
   dsimp only [d5g] at hr hs
   obtain ⟨k1,k2,k3⟩:=P8 hE hyl hso
   have hsz2:=a4R hE hf (op:=40) (nm:=g) (ar:=F8) (a:=pl) hsz k1 k2
   have hn2:=hf (y.2.1+1,0) k2
   have hp2:=hx (y.2.1+1,0) k2
   unfold L3 at hp2
   have ho:=hov g pl y.1 (nx (y.2.1+1,0)).1 (by
    have h1:=hsz2.2.1
    have h2:=hn2.hi
    simp only [s8,y8,d3j,d3m,d3f,d2X,d2R] at h1 ⊢
    omega)
   have q1:qm (qp g) (qp ⟨#[]⟩)=false:=by
    simp only [d3d,d4p,d5x] at k3
    rcases k3 with rfl|rfl|rfl <;> (simp only [c1,c3,ByteArray.toList_eq];rfl)
   obtain ⟨z,hz⟩:∃z,z=s8 40 g F8 pl [y.1,(nx (y.2.1+1,0)).1]:=⟨_,rfl⟩
   obtain ⟨x2,hx2⟩:=C2 (nx (y.2.1+1,0)).1
   obtain ⟨x3,hx3⟩:=C2 z
   rw [show rP [y.1,(nx (y.2.1+1,0)).1]=[cE x,cE x2] by unfold rP;rw [d3c,d3c,d35,hy1,hx2],show cP (y8 40 g ⟨#[]⟩ 0 false r7 pl [y.1,(nx (y.2.1+1,0)).1])=cE x3 by rw [←hx3,hz]] at ho
   rw [hx2,hT] at hp2
   have ha:a=(y.2.1:Int):=congrArg (fun s:ST=>s.2.2) hy2
   have hin:inv (x3,stP ts (nx (y.2.1+1,0)).2):=by rw [hi];exact ⟨(z,(nx (y.2.1+1,0)).2),hx3,rfl,hn2.hi,by rw [hz];exact hsz2,by rw [hz];exact hr⟩
   have hmu9:mu (x3,stP ts (nx (y.2.1+1,0)).2)<mu (x,e,q,a):=by
    rw [hmu]
    show ts.length - (((nx (y.2.1+1,0)).2.1:Nat):Int).toNat<ts.length - a.toNat
    have:=hn2.lo
    rw [ha]
    simp only [d3q] at this ⊢
    omega
   generalize stP ts (y.2.1+1,0)=s2 at *
   generalize stP ts (nx (y.2.1+1,0)).2=s3 at *
   obtain ⟨a2,b2,d2⟩:=s2
   obtain ⟨a3,b3,d3⟩:=s3
   have hp2b:=v8.box hp2 rfl
   clear hs9 hR9 hr hy2 hso hi0 hsz2 hn2 hz hx3 hx2 hy1
   have p0:=hs;have p1:=hp2;have o0:=ho;have hi:=hin;have hm:=hmu9;exact I5
theorem b4E {sg:List ByteArray} {nx:PF} {ts:List Tok} {a:Int} {b:Nat} (hE:o5 ts) (hf:B8 ts nx):∀(k:Nat) (s:PL×PE),SzP b s→s.2.1<ts.length→SzP b (Z3 sg nx ts a k s)∧(Z3 sg nx ts a k s).2.1<ts.length
 | 0,s,h,h1=>⟨h,h1⟩
 | k+1,s,h,h1=>by
  rw [Z3]
  cases hs:n8 ts sg s.2 with
  | none=>exact ⟨h,h1⟩
  | some g =>
   obtain ⟨h3,h4,_⟩:=P8 hE h1 hs
   exact b4E hE hf k _ (a4R hE hf h h3 h4) (hf (s.2.1+1,0) h4).hi
theorem a1b {ts:List Tok} {p:PE} (h:p.2≠0):∀l:List ByteArray,n8 ts l p=none
 | []=>rfl
 | s::l=>by rw [n8,d2T (by unfold A2;rw [d2Y h,d5b];decide),a1b h l]
theorem c25 {sg:List ByteArray} {nx:PF} {ts:List Tok} {a:Int} {s:PL×PE} (h:s.2.2≠0):∀k,Z3 sg nx ts a k s=s
 | 0=>rfl
 | k+1=>by rw [Z3,a1b h]
theorem SzP.fit {ts:List Tok} {p:PE} {r:PL×PE} (h:SzP p.1 r) (h1:r.2.1<ts.length) (h2:r.2.2=0→p.2=0):FitP ts p r:=⟨h.1,h1,h.2.1,fun h0=>⟨h2 h0,h.2.2 h0⟩⟩
theorem FitP.size {ts:List Tok} {p:PE} {r:PL×PE} (h:FitP ts p r):SzP p.1 r:=⟨h.lo,h.sz,fun h0=>(h.ok h0).2⟩
theorem c78 {sg:List ByteArray} {nx:PF} {ts:List Tok} {a:PE→Int} (hE:o5 ts) (hf:B8 ts nx):B8 ts fun p=>Z3 sg nx ts (a p) ts.length (nx p):=fun p hp=>by
 have h:=hf p hp
 obtain ⟨h1,h2⟩:=b4E (sg:=sg) (a:=a p) hE hf ts.length (nx p) h.size h.hi
 refine h1.fit h2 fun h0=>?_
 by_cases hz:(nx p).2.2=0
 ·exact (h.ok hz).1
 ·rw [c25 hz] at h0;exact absurd h0 hz
abbrev a4S:List ByteArray:=[⟨#[64]⟩,⟨#[94]⟩,⟨#[116,114,117,101]⟩,⟨#[102,97,108,115,101]⟩,⟨#[40]⟩,⟨#[123]⟩,⟨#[99,97,115,101]⟩]
def T7 (t:Tok):Bool:=t.kind == 1 || (t.kind == 2 || (t.kind == 3 && a4S.any fun s=>t.text.toList == s.toList))
theorem c26 (t:Tok):o9 123 [.ag (tkD t)] [.one (.sc (.bool (T7 t)))]:=by
 unfold tkD T7 a4S
 generalize t.kind=k
 generalize t.text=x
 generalize t.n=n
 generalize t.at_=p
 simp only [List.any_cons,List.any_nil,Bool.or_false]
 obtain ⟨b0,hb0⟩:∃b,b=(x.toList == (⟨#[64]⟩:ByteArray).toList):=⟨_,rfl⟩
 obtain ⟨b1,hb1⟩:∃b,b=(x.toList == (⟨#[94]⟩:ByteArray).toList):=⟨_,rfl⟩
 obtain ⟨b2,hb2⟩:∃b,b=(x.toList == (⟨#[116,114,117,101]⟩:ByteArray).toList):=⟨_,rfl⟩
 obtain ⟨b3,hb3⟩:∃b,b=(x.toList == (⟨#[102,97,108,115,101]⟩:ByteArray).toList):=⟨_,rfl⟩
 obtain ⟨b4,hb4⟩:∃b,b=(x.toList == (⟨#[40]⟩:ByteArray).toList):=⟨_,rfl⟩
 obtain ⟨b5,hb5⟩:∃b,b=(x.toList == (⟨#[123]⟩:ByteArray).toList):=⟨_,rfl⟩
 obtain ⟨b6,hb6⟩:∃b,b=(x.toList == (⟨#[99,97,115,101]⟩:ByteArray).toList):=⟨_,rfl⟩
 rw [←hb0,←hb1,←hb2,←hb3,←hb4,←hb5,←hb6]
 obtain ⟨k1,hk1⟩:∃b,b=(k == 1):=⟨_,rfl⟩
 obtain ⟨k2,hk2⟩:∃b,b=(k == 2):=⟨_,rfl⟩
 obtain ⟨k3,hk3⟩:∃b,b=(k == 3):=⟨_,rfl⟩
 rw [←hk1,←hk2,←hk3]
 refine N2 Tryz.func123 rfl ?_;intro _ _ _ _ _ _ _ _ _ qk _ qm _ qp;intros;rename_i hA
 obtain ⟨e1,e2,e3,e4,e5,e6,e7,e8,e9⟩:=j7 hA
 obtain ⟨c1,c2,c3,c4_,c5,c6,c7⟩:=G1 hA
 have q1:qk k 1=k1:=by rw [e9,hk1]
 have q2:qk k 2=k2:=by rw [e9,hk2]
 have q3:qk k 3=k3:=by rw [e9,hk3]
 have r0:qm (qp x) (qp ⟨#[64]⟩)=b0:=by rw [c1,c3,c3,hb0]
 have r1:qm (qp x) (qp ⟨#[94]⟩)=b1:=by rw [c1,c3,c3,hb1]
 have r2:qm (qp x) (qp ⟨#[116,114,117,101]⟩)=b2:=by rw [c1,c3,c3,hb2]
 have r3:qm (qp x) (qp ⟨#[102,97,108,115,101]⟩)=b3:=by rw [c1,c3,c3,hb3]
 have r4:qm (qp x) (qp ⟨#[40]⟩)=b4:=by rw [c1,c3,c3,hb4]
 have r5:qm (qp x) (qp ⟨#[123]⟩)=b5:=by rw [c1,c3,c3,hb5]
 have r6:qm (qp x) (qp ⟨#[99,97,115,101]⟩)=b6:=by rw [c1,c3,c3,hb6]
 clear hb0 hb1 hb2 hb3 hb4 hb5 hb6 hk1 hk2 hk3
 cases k1
 ·cases k2
  ·cases k3
   ·try cbv;exact fr
   ·cases b0
    ·cases b1
     ·cases b2
      ·cases b3
       ·cases b4
        ·cases b5
         ·cases b6
          ·iterate 2 (try cbv;repeat ((first|with_reducible apply f8 hA|rw [q1]|rw [q2]|rw [q3]|rw [r0]|rw [r1]|rw [r2]|rw [r3]|rw [r4]|rw [r5]|rw [r6]);cbv))
          ·iterate 2 (try cbv;repeat ((first|with_reducible apply f8 hA|rw [q1]|rw [q2]|rw [q3]|rw [r0]|rw [r1]|rw [r2]|rw [r3]|rw [r4]|rw [r5]|rw [r6]);cbv))
         ·iterate 2 (try cbv;repeat ((first|with_reducible apply f8 hA|rw [q1]|rw [q2]|rw [q3]|rw [r0]|rw [r1]|rw [r2]|rw [r3]|rw [r4]|rw [r5]);cbv))
        ·iterate 2 (try cbv;repeat ((first|with_reducible apply f8 hA|rw [q1]|rw [q2]|rw [q3]|rw [r0]|rw [r1]|rw [r2]|rw [r3]|rw [r4]);cbv))
       ·iterate 2 (try cbv;repeat ((first|with_reducible apply f8 hA|rw [q1]|rw [q2]|rw [q3]|rw [r0]|rw [r1]|rw [r2]|rw [r3]);cbv))
      ·iterate 2 (try cbv;repeat ((first|with_reducible apply f8 hA|rw [q1]|rw [q2]|rw [q3]|rw [r0]|rw [r1]|rw [r2]);cbv))
     ·iterate 2 (try cbv;repeat ((first|with_reducible apply f8 hA|rw [q1]|rw [q2]|rw [q3]|rw [r0]|rw [r1]);cbv))
    ·iterate 2 (try cbv;repeat ((first|with_reducible apply f8 hA|rw [q1]|rw [q2]|rw [q3]|rw [r0]);cbv))
  ·try cbv;exact fr
 ·try cbv;exact fr
def StF (ts:List Tok) (pr:PF):Prop:=∀p:PE,p.1<ts.length→p.2=0→T7 (j6 ts p.1)=true→p.1<(pr p).2.1
def a1L (pr:PF) (ts:List Tok) (a:Int):Nat→PL×PE→PL×PE
 | 0,s=>s
 | k+1,s=>if s.2.2=0∧T7 (j6 ts s.2.1)=true then a1L pr ts a k (s8 37 F8 F8 a [s.1,(pr s.2).1],(pr s.2).2) else s
theorem b1H {pr:PF} {ts:List Tok} {a:Int} (hf:B8 ts pr) (hst:StF ts pr):∀(k m:Nat) (s:PL×PE),s.2.1<ts.length→ts.length - s.2.1≤k→ts.length - s.2.1≤m→a1L pr ts a k s=a1L pr ts a m s
 | 0,m,s,h,h1,h2=>by omega
 | k+1,0,s,h,h1,h2=>by omega
 | k+1,m+1,s,h,h1,h2=>by
  rw [a1L,a1L]
  by_cases hs:s.2.2=0∧T7 (j6 ts s.2.1)=true
  ·rw [d2S hs,d2S hs]
   have hn:=hf s.2 h
   have h3:=hst s.2 h hs.1 hs.2
   exact b1H hf hst k m _ hn.hi (by show ts.length - (pr s.2).2.1≤k;omega) (by show ts.length - (pr s.2).2.1≤m;omega)
  ·rw [d2T hs,d2T hs]
theorem b7K {pr:PF} {ts:List Tok} {a:Int} (hf:B8 ts pr) (hst:StF ts pr) {y:PL×PE} (h:y.2.1<ts.length):a1L pr ts a ts.length y=if y.2.2=0∧T7 (j6 ts y.2.1)=true then a1L pr ts a ts.length (s8 37 F8 F8 a [y.1,(pr y.2).1],(pr y.2).2) else y:=by
 have e:a1L pr ts a ts.length y=a1L pr ts a (ts.length+1) y:=b1H hf hst _ _ y h (by omega) (by omega)
 rw [e,a1L]
theorem b0g {pr:PF} {ts:List Tok} (hf:B8 ts pr) {b:Nat} {a:Int} {s:PL×PE} (hs:SzP b s) (h0:s.2.2=0) (h:s.2.1<ts.length):SzP b (s8 37 F8 F8 a [s.1,(pr s.2).1],(pr s.2).2):=by
 have hn:=hf s.2 h
 obtain ⟨h1,h2,h3⟩:=hs
 have h3:=h3 h0
 have l1:=hn.lo
 have l2:=hn.sz
 have l3:=hn.ok
 unfold SzP s8 y8
 simp only [d3j,d3m,d3f,d2X,d2R]
 exact ⟨by omega,by omega,fun h=>by have:=(l3 h).2;omega⟩
theorem b4F {pr:PF} {ts:List Tok} {a:Int} {b:Nat} (hf:B8 ts pr):∀(k:Nat) (s:PL×PE),SzP b s→s.2.1<ts.length→SzP b (a1L pr ts a k s)∧(a1L pr ts a k s).2.1<ts.length
 | 0,s,h,h1=>⟨h,h1⟩
 | k+1,s,h,h1=>by
  rw [a1L]
  by_cases hs:s.2.2=0∧T7 (j6 ts s.2.1)=true
  ·rw [d2S hs]
   exact b4F hf k _ (b0g hf h hs.1 h1) (hf s.2 h1).hi
  ·rw [d2T hs]
   exact ⟨h,h1⟩
def a73 (pr:PF) (ts:List Tok) (p:PE):PL×PE:=a1L pr ts (j6 ts p.1).at_ ts.length (pr p)
theorem b9o {pr:PF} {ts:List Tok} (hf:B8 ts pr):B8 ts (a73 pr ts):=fun p hp=>by
 have h:=hf p hp
 unfold a73
 obtain ⟨h1,h2⟩:=b4F (a:=(j6 ts p.1).at_) hf ts.length (pr p) h.size h.hi
 refine h1.fit h2 fun h0=>?_
 by_cases hz:(pr p).2.2=0
 ·exact (h.ok hz).1
 ·have e:∀k,a1L pr ts (j6 ts p.1).at_ k (pr p)=pr p:=fun k=>by cases k with|zero=>rfl|succ k=>rw [a1L,d2T (fun h=>hz h.1)]
  rw [e] at h0
  exact absurd h0 hz
def d1Z (ts:List Tok) (b:Nat) (nx:PF) (a:Int) (r:PL×PE) (x:(Nat→D)×Int×Int×Int):Prop:=∃y:PL×PE,cP y.1=cE x.1∧(x.2.1,x.2.2.1,x.2.2.2)=stP ts y.2∧y.2.1<ts.length∧SzP b y∧r=a1L nx ts a ts.length y
theorem c9Y {ts:List Tok} (hl:ts.length≤65537) {L:Int} {nx:PF} (hf:B8 ts nx) (hst:StF ts nx) (hx:∀p:PE,p.1<ts.length→L3 122 [vi .i64 L] ts p [.ag (A7 (cP (nx p).1))] (nx p).2) (p:PE) (hp:p.1<ts.length) :
  L3 108 [vi .i64 L] ts p [.ag (A7 (cP (a73 nx ts p).1))] (a73 nx ts p).2:=by
 have hl2:ts.length≤1048576:=by omega
 have hh:=a5o hl2 hp
 have hn:=hf p hp
 have h1:=hx p hp
 have hok:=fun (q:PE) hq=>okP hl2 (p:=q) hq
 have hpk:=fun a ha=>c2r hl2 (a:=a) ha
 have hstt:=fun t=>c26 t
 have hov:=fun a x y hf=>a2s 37 F8 ⟨#[]⟩ 0 false a [x,y] (by simp only [d2X,d3g];omega) hf
 unfold a73
 generalize (j6 ts p.1).at_=pl at *
 obtain ⟨rr,hrr⟩:∃rr,rr=a1L nx ts pl ts.length (nx p):=⟨_,rfl⟩
 rw [←hrr]
 obtain ⟨x1,hx1⟩:=C2 (nx p).1
 unfold L3 at hh h1 ⊢
 rw [hx1] at h1
 obtain ⟨s0,hs0⟩:∃s0,s0=stP ts p:=⟨_,rfl⟩
 obtain ⟨s1,hs1⟩:∃s1,s1=stP ts (nx p).2:=⟨_,rfl⟩
 obtain ⟨s9,hs9⟩:∃s9,s9=stP ts rr.2:=⟨_,rfl⟩
 obtain ⟨R9,hR9⟩:∃R9,R9=cP rr.1:=⟨_,rfl⟩
 rw [←hs0] at hh h1
 rw [←hs1] at h1
 rw [←hs0,←hs9,←hR9]
 obtain ⟨inv,hi⟩:∃inv,inv=d1Z ts p.1 nx pl rr:=⟨_,rfl⟩
 have hi0:inv (x1,s1.1,s1.2.1,s1.2.2):=by rw [hi];exact ⟨nx p,hx1,hs1,hn.hi,hn.size,hrr⟩
 obtain ⟨mu,hmu⟩:∃mu:(Nat→D)×Int×Int×Int→Nat,mu=fun x=>ts.length - x.2.2.2.toNat:=⟨_,rfl⟩
 generalize hT:C9 ts=T at *
 obtain ⟨a0,b0,d0⟩:=s0
 obtain ⟨a1,b1,d1⟩:=s1
 obtain ⟨a9,b9,d9⟩:=s9
 refine Z5 Tryz.func108 rfl ?_;intro _ _ _ _ _ _ _ _ _ _ _ _ _ _ _ _ _ _ _ _ _ _ _ _ _ _ _ _ _ _ _ _ _ _ _ _ _ _ _ _ _ vw;intros;rename_i hA
 iterate 2 (try cbv;repeat ((first|with_reducible apply f8 hA|refine A4 hA [0,1] hh ?_|refine A4 hA [0,1] h1 ?_);cbv))
 try simp (maxSteps:=4000000) only [nc] at *
 refine j9 hA (γ:=(Nat→D)×Int×Int×Int) (fun x=>[(11,.jk)]) (fun x=>[(0,.box [.ptr 1 0,vi .u8 x.2.1,vi .i64 x.2.2.1]),(1,.box [.d (.sl 4 T),vi .i64 x.2.2.2]),(3,.box (A7 (cE x.1)))]) inv mu (x1,a1,b1,d1) hi0 ?_ ?_
 ·cbv
 ·intro x hinv
  obtain ⟨x,e,q,a⟩:=x
  cbv;refine gn ?_;try simp only [nc] at *
  rw [hi] at hinv
  obtain ⟨y,hy1,hy2,hyl,hsz,hr⟩:=hinv
  replace hy1:cP y.1=cE x:=hy1
  replace hy2:((e,q,a):ST)=stP ts y.2:=hy2
  rw [b7K hf hst hyl] at hr
  have ha:a=(y.2.1:Int):=congrArg (fun s:ST=>s.2.2) hy2
  have ho1:=hok y.2 hyl
  unfold L3 at ho1
  rw [←hy2,hT] at ho1
  by_cases hz:y.2.2=0
  ·rw [hz] at ho1
   have hk:=hpk y.2.1 hyl
   have hs:=hstt (j6 ts y.2.1)
   unfold tkD at hs
   rw [←ha] at hk
   by_cases hb:T7 (j6 ts y.2.1)=true
   ·rw [d2S ⟨hz,hb⟩] at hr
    rw [hb] at hs
    have hsz2:=b0g hf (a:=pl) hsz hz hyl
    have hn2:=hf y.2 hyl
    have hp2:=hx y.2 hyl
    have hlt:=hst y.2 hyl hz hb
    unfold L3 at hp2
    have ho:=hov pl y.1 (nx y.2).1 (by
     have h1:=hsz2.2.1
     have h2:=hn2.hi
     simp only [s8,y8,d3j,d3m,d3f,d2X,d2R] at h1 ⊢
     omega)
    obtain ⟨z,hzz⟩:∃z,z=s8 37 F8 F8 pl [y.1,(nx y.2).1]:=⟨_,rfl⟩
    obtain ⟨x2,hx2⟩:=C2 (nx y.2).1
    obtain ⟨x3,hx3⟩:=C2 z
    rw [show rP [y.1,(nx y.2).1]=[cE x,cE x2] by unfold rP;rw [d3c,d3c,d35,hy1,hx2],show cP (y8 37 F8 ⟨#[]⟩ 0 false r7 pl [y.1,(nx y.2).1])=cE x3 by rw [←hx3,hzz]] at ho
    rw [hx2,hT,←hy2] at hp2
    have hin:inv (x3,stP ts (nx y.2).2):=by rw [hi];exact ⟨(z,(nx y.2).2),hx3,rfl,hn2.hi,by rw [hzz];exact hsz2,by rw [hzz];exact hr⟩
    have hmu9:mu (x3,stP ts (nx y.2).2)<mu (x,e,q,a):=by
     rw [hmu]
     show ts.length - (((nx y.2).2.1:Nat):Int).toNat<ts.length - a.toNat
     rw [ha]
     simp only [d3q]
     omega
    generalize stP ts (nx y.2).2=s3 at *
    obtain ⟨a3,b3,d3⟩:=s3
    have hp2b:=v8.box hp2 rfl
    generalize (j6 ts y.2.1).kind=k0 at *
    generalize (j6 ts y.2.1).text=t0 at *
    generalize (j6 ts y.2.1).n=n0 at *
    generalize (j6 ts y.2.1).at_=p0 at *
    clear hs9 hR9 hr hy2 hb hi0 hsz2 hn2 hzz hx3 hx2 hy1
    have h0:=hs;have p0:=ho1;have r0:=hk;have p1:=hp2;have o0:=ho;have hi:=hin;have hm:=hmu9;exact I5
   ·rw [d2T (fun h=>hb h.2)] at hr
    replace hb:T7 (j6 ts y.2.1)=false:=by simpa using hb
    rw [hb] at hs
    have hR:R9=cE x:=by rw [hR9,hr,hy1]
    have hss:((a9,b9,d9):ST)=(e,q,a):=by rw [hs9,hr,←hy2]
    injection hss with f0 f1
    injection f1 with f1 f2
    subst f0;subst f1;subst f2
    rw [hR]
    generalize (j6 ts y.2.1).kind=k0 at *
    generalize (j6 ts y.2.1).text=t0 at *
    generalize (j6 ts y.2.1).n=n0 at *
    generalize (j6 ts y.2.1).at_=p0 at *
    clear hs9 hR9 hr hy2 hb hi0 hy1
    have h0:=hs;have p0:=ho1;have r0:=hk;exact I5
  ·rw [d2Y hz] at ho1
   rw [d2T (fun h=>hz h.1)] at hr
   have hR:R9=cE x:=by rw [hR9,hr,hy1]
   have hss:((a9,b9,d9):ST)=(e,q,a):=by rw [hs9,hr,←hy2]
   injection hss with f0 f1
   injection f1 with f1 f2
   subst f0;subst f1;subst f2
   rw [hR]
   clear hs9 hR9 hr hy2 hi0 hy1
   have p0:=ho1;exact I5
abbrev c79:ByteArray:=⟨#[46]⟩
abbrev c5M:ByteArray:=⟨#[92]⟩
abbrev a1c:List ByteArray:=[c79,c5M]
def a2t (g:ByteArray):Int:=if g.toList=c79.toList then 43 else 44
def M5 (ts:List Tok) (a:Int):Nat→PL×PE→PL×PE
 | 0,s=>s
 | k+1,s=>match n8 ts a1c s.2 with
  | none=>s
  | some g=>M5 ts a k (s8 (a2t g) (i9 ts (s.2.1+1,0)).1 F8 a [s.1],(i9 ts (s.2.1+1,0)).2)
theorem A0 {ts:List Tok} (hE:o5 ts) {p:PE} (hp:p.1<ts.length):(i9 ts p).2.1<ts.length∧p.1≤(i9 ts p).2.1∧((i9 ts p).2.2=0→p.2=0∧(i9 ts p).2.1=p.1+1):=by
 unfold i9
 split
 ·rename_i h
  exact ⟨hE _ hp (by rw [h.2];decide),Nat.le_succ _,fun _=>⟨h.1,rfl⟩⟩
 ·obtain ⟨h1,h2⟩:=G2 5 (by decide) p
  exact ⟨by show (E7 5 p).1<_;rw [h1];exact hp,by show _≤(E7 5 p).1;rw [h1];exact d3b _,fun h=>absurd h h2⟩
theorem a74 {ts:List Tok} (hE:o5 ts) {b:Nat} {op:Int} {nm ar:ByteArray} {a:Int} {s:PL×PE} (hs:SzP b s) (h0:s.2.2=0) (h:s.2.1+1<ts.length):SzP b (s8 op nm ar a [s.1],(i9 ts (s.2.1+1,0)).2):=by
 obtain ⟨w1,w2,w3⟩:=A0 hE (p:=(s.2.1+1,0)) h
 obtain ⟨h1,h2,h3⟩:=hs
 have h3:=h3 h0
 simp only at w2 w3
 unfold SzP s8 y8
 simp only [d3j,d3m,d3f,d2X]
 exact ⟨by omega,by omega,fun h=>by have:=(w3 h).2;omega⟩
theorem b0h {ts:List Tok} {a:Int} (hE:o5 ts):∀(k m:Nat) (s:PL×PE),s.2.1<ts.length→ts.length - s.2.1≤k→ts.length - s.2.1≤m→M5 ts a k s=M5 ts a m s
 | 0,m,s,h,h1,h2=>by omega
 | k+1,0,s,h,h1,h2=>by omega
 | k+1,m+1,s,h,h1,h2=>by
  rw [M5,M5]
  cases hs:n8 ts a1c s.2 with
  | none=>rfl
  | some g =>
   obtain ⟨_,h4,_⟩:=P8 hE h hs
   obtain ⟨w1,w2,_⟩:=A0 hE (p:=(s.2.1+1,0)) h4
   simp only at w2
   exact b0h hE k m _ w1 (by show ts.length - (i9 ts (s.2.1+1,0)).2.1≤k;omega) (by show ts.length - (i9 ts (s.2.1+1,0)).2.1≤m;omega)
theorem b0i {ts:List Tok} {a:Int} (hE:o5 ts) {y:PL×PE} (h:y.2.1<ts.length):M5 ts a ts.length y=match n8 ts a1c y.2 with
  | none=>y
  | some g=>M5 ts a ts.length (s8 (a2t g) (i9 ts (y.2.1+1,0)).1 F8 a [y.1],(i9 ts (y.2.1+1,0)).2):=by
 have e:M5 ts a ts.length y=M5 ts a (ts.length+1) y:=b0h hE _ _ y h (by omega) (by omega)
 rw [e,M5]
theorem b1I {ts:List Tok} {a:Int} {b:Nat} (hE:o5 ts):∀(k:Nat) (s:PL×PE),SzP b s→s.2.1<ts.length→SzP b (M5 ts a k s)∧(M5 ts a k s).2.1<ts.length
 | 0,s,h,h1=>⟨h,h1⟩
 | k+1,s,h,h1=>by
  rw [M5]
  cases hs:n8 ts a1c s.2 with
  | none=>exact ⟨h,h1⟩
  | some g =>
   obtain ⟨h3,h4,_⟩:=P8 hE h1 hs
   exact b1I hE k _ (a74 hE h h3 h4) (A0 hE (p:=(s.2.1+1,0)) h4).1
def a4z (nx:PF) (ts:List Tok) (p:PE):PL×PE:=M5 ts (j6 ts p.1).at_ ts.length (nx p)
theorem c9Z {nx:PF} {ts:List Tok} (hE:o5 ts) (hf:B8 ts nx):B8 ts (a4z nx ts):=fun p hp=>by
 have h:=hf p hp
 unfold a4z
 obtain ⟨h1,h2⟩:=b1I (a:=(j6 ts p.1).at_) hE ts.length (nx p) h.size h.hi
 refine h1.fit h2 fun h0=>?_
 by_cases hz:(nx p).2.2=0
 ·exact (h.ok hz).1
 ·have e:∀k,M5 ts (j6 ts p.1).at_ k (nx p)=nx p:=fun k=>by cases k with|zero=>rfl|succ k=>rw [M5,a1b hz]
  rw [e] at h0
  exact absurd h0 hz
def d2a (ts:List Tok) (b:Nat) (a:Int) (r:PL×PE) (x:(Nat→D)×Int×Int×Int):Prop:=∃y:PL×PE,cP y.1=cE x.1∧(x.2.1,x.2.2.1,x.2.2.2)=stP ts y.2∧y.2.1<ts.length∧SzP b y∧r=M5 ts a ts.length y
theorem c7A {ts:List Tok} (hE:o5 ts) (hl:ts.length≤65537) {L:Int} {nx:PF} (hf:B8 ts nx) (hx:∀p:PE,p.1<ts.length→L3 142 [vi .i64 L] ts p [.ag (A7 (cP (nx p).1))] (nx p).2) (p:PE) (hp:p.1<ts.length) :
  L3 133 [vi .i64 L] ts p [.ag (A7 (cP (a4z nx ts p).1))] (a4z nx ts p).2:=by
 have hl2:ts.length≤1048576:=by omega
 have hh:=a5o hl2 hp
 have hn:=hf p hp
 have h1:=hx p hp
 have hsg:∀q:PE,q.1<ts.length→L3 82 [.d (.sl 1 [[.sc (.string ⟨#[46]⟩)],[.sc (.string ⟨#[92]⟩)]])] ts q [vs ((n8 ts a1c q).getD F8)] (a24 ts a1c q):=fun q hq=>b0e hl2 hq a1c (by decide)
 have hwd:=fun (q:PE) hq=>a1I hl2 (p:=q) hq
 have hov:=fun op w a x hf=>a2s op w ⟨#[]⟩ 0 false a [x] (by simp only [d2X,d3g];omega) hf
 unfold a4z
 generalize (j6 ts p.1).at_=pl at *
 obtain ⟨rr,hrr⟩:∃rr,rr=M5 ts pl ts.length (nx p):=⟨_,rfl⟩
 rw [←hrr]
 obtain ⟨x1,hx1⟩:=C2 (nx p).1
 unfold L3 at hh h1 ⊢
 rw [hx1] at h1
 obtain ⟨s0,hs0⟩:∃s0,s0=stP ts p:=⟨_,rfl⟩
 obtain ⟨s1,hs1⟩:∃s1,s1=stP ts (nx p).2:=⟨_,rfl⟩
 obtain ⟨s9,hs9⟩:∃s9,s9=stP ts rr.2:=⟨_,rfl⟩
 obtain ⟨R9,hR9⟩:∃R9,R9=cP rr.1:=⟨_,rfl⟩
 rw [←hs0] at hh h1
 rw [←hs1] at h1
 rw [←hs0,←hs9,←hR9]
 obtain ⟨inv,hi⟩:∃inv,inv=d2a ts p.1 pl rr:=⟨_,rfl⟩
 have hi0:inv (x1,s1.1,s1.2.1,s1.2.2):=by rw [hi];exact ⟨nx p,hx1,hs1,hn.hi,hn.size,hrr⟩
 obtain ⟨mu,hmu⟩:∃mu:(Nat→D)×Int×Int×Int→Nat,mu=fun x=>ts.length - x.2.2.2.toNat:=⟨_,rfl⟩
 generalize hT:C9 ts=T at *
 obtain ⟨a0,b0,d0⟩:=s0
 obtain ⟨a1,b1,d1⟩:=s1
 obtain ⟨a9,b9,d9⟩:=s9
 refine Z5 Tryz.func133 rfl ?_;intro _ _ _ _ _ _ _ _ _ _ _ qm _ qp _ _ _ _ _ _ _ _ _ _ _ _ _ _ _ _ _ _ _ _ _ _ _ _ _ _ _ vw;intros;rename_i hA
 obtain ⟨e1,e2,e3,e4,e5,e6,e7,e8,e9⟩:=j7 hA
 obtain ⟨c1,c2,c3,c4_,c5,c6,c7⟩:=G1 hA
 iterate 2 (try cbv;repeat ((first|with_reducible apply f8 hA|refine A4 hA [0,1] hh ?_|refine A4 hA [0,1] h1 ?_);cbv))
 try simp (maxSteps:=4000000) only [nc] at *
 refine j9 hA (γ:=(Nat→D)×Int×Int×Int) (fun x=>[(12,.jk)]) (fun x=>[(0,.box [.ptr 1 0,vi .u8 x.2.1,vi .i64 x.2.2.1]),(1,.box [.d (.sl 4 T),vi .i64 x.2.2.2]),(3,.box (A7 (cE x.1)))]) inv mu (x1,a1,b1,d1) hi0 ?_ ?_
 ·cbv
 ·intro x hinv
  obtain ⟨x,e,q,a⟩:=x
  cbv;refine gn ?_;try simp only [nc] at *
  rw [hi] at hinv
  obtain ⟨y,hy1,hy2,hyl,hsz,hr⟩:=hinv
  replace hy1:cP y.1=cE x:=hy1
  replace hy2:((e,q,a):ST)=stP ts y.2:=hy2
  rw [b0i hE hyl] at hr
  have ha:a=(y.2.1:Int):=congrArg (fun s:ST=>s.2.2) hy2
  have hs:=hsg y.2 hyl
  unfold L3 a24 at hs
  rw [←hy2,hT] at hs
  cases hso:n8 ts a1c y.2 with
  | none =>
   rw [hso] at hr hs
   dsimp only at hr hs
   rw [←hy2] at hs
   have hR:R9=cE x:=by rw [hR9,hr,hy1]
   have hss:((a9,b9,d9):ST)=(e,q,a):=by rw [hs9,hr,←hy2]
   injection hss with f0 f1
   injection f1 with f1 f2
   subst f0;subst f1;subst f2
   rw [hR]
   have q1:qm (qp ⟨#[]⟩) (qp ⟨#[46]⟩)=false:=by simp only [c1,c3,ByteArray.toList_eq];rfl
   have q2:qm (qp ⟨#[]⟩) (qp ⟨#[92]⟩)=false:=by simp only [c1,c3,ByteArray.toList_eq];rfl
   clear hs9 hR9 hr hy2 hso hi0 hy1
   have p0:=hs;exact I5
  | some g =>
   rw [hso] at hr hs
   dsimp only [d5g] at hr hs
   obtain ⟨k1,k2,k3⟩:=P8 hE hyl hso
   have hsz2:=a74 hE (op:=a2t g) (nm:=(i9 ts (y.2.1+1,0)).1) (ar:=F8) (a:=pl) hsz k1 k2
   obtain ⟨n1,n2,n3⟩:=A0 hE (p:=(y.2.1+1,0)) k2
   have hp2:=hwd (y.2.1+1,0) k2
   unfold L3 at hp2
   have ho:=hov (a2t g) (i9 ts (y.2.1+1,0)).1 pl y.1 (by
    have h1:=hsz.2.1
    simp only [d3j,d3m,d3f]
    omega)
   obtain ⟨z,hz⟩:∃z,z=s8 (a2t g) (i9 ts (y.2.1+1,0)).1 F8 pl [y.1]:=⟨_,rfl⟩
   obtain ⟨x3,hx3⟩:=C2 z
   rw [show rP [y.1]=[cE x] by unfold rP;rw [d3c,d35,hy1],show cP (y8 (a2t g) (i9 ts (y.2.1+1,0)).1 ⟨#[]⟩ 0 false r7 pl [y.1])=cE x3 by rw [←hx3,hz]] at ho
   rw [hT] at hp2
   have hin:inv (x3,stP ts (i9 ts (y.2.1+1,0)).2):=by rw [hi];exact ⟨(z,(i9 ts (y.2.1+1,0)).2),hx3,rfl,n1,by rw [hz];exact hsz2,by rw [hz];exact hr⟩
   have hmu9:mu (x3,stP ts (i9 ts (y.2.1+1,0)).2)<mu (x,e,q,a):=by
    rw [hmu]
    show ts.length - (((i9 ts (y.2.1+1,0)).2.1:Nat):Int).toNat<ts.length - a.toNat
    rw [ha]
    simp only [d3q] at n2 ⊢
    omega
   generalize (i9 ts (y.2.1+1,0)).1=w at *
   generalize stP ts (y.2.1+1,0)=s2 at *
   generalize stP ts (i9 ts (y.2.1+1,0)).2=s3 at *
   obtain ⟨a2,b2,d2⟩:=s2
   obtain ⟨a3,b3,d3⟩:=s3
   clear hs9 hR9 hr hy2 hso hi0 hsz2 hz hx3 hy1
   simp only [d3d,d4p,d5x] at k3
   rcases k3 with rfl|rfl
   ·have q1:qm (qp ⟨#[46]⟩) (qp ⟨#[46]⟩)=true:=by rw [c1];exact d3C _
    rw [show a2t ⟨#[46]⟩=43 from d2S rfl] at ho
    have p0:=hs;have p1:=hp2;have o0:=ho;have hi:=hin;have hm:=hmu9;exact I5
   ·have q1:qm (qp ⟨#[92]⟩) (qp ⟨#[46]⟩)=false:=by simp only [c1,c3,ByteArray.toList_eq];rfl
    have q2:qm (qp ⟨#[92]⟩) (qp ⟨#[92]⟩)=true:=by rw [c1];exact d3C _
    rw [show a2t ⟨#[92]⟩=44 from d2T (by rw [ByteArray.toList_eq,ByteArray.toList_eq];decide)] at ho
    have p0:=hs;have p1:=hp2;have o0:=ho;have hi:=hin;have hm:=hmu9;exact I5
section
section
variable {T:List (List D)} {L:Int}
theorem c7B {s:ST} (h0:C5 20 [] T s [vb false] s):C5 121 [vi .i64 L] T s [.ag (A7 (cT r7))] s:=by
 rw [a71]
 refine v8.nils (cs:=[vi .u8 0,vs ⟨#[]⟩,vi .i64 0,.em]) ?_ ⟨.inl rfl,.inl rfl,.inl rfl,.inr ⟨rfl,_,rfl⟩,trivial⟩
 obtain ⟨_,_,_⟩:=s
 refine Z5 Tryz.func121 rfl ?_;intro _ _ _ _ _ _ _ _ _ _ _ _ _ _ _ _ _ _ _ _ _ _ _ _ _ _ _ _ _ _ _ _ _ _ _ _ _ _ _ _ _ vw;intros;rename_i hA
 have p0:=h0;exact I5
theorem c7C {e q a p c a1:Int} {y:Nat→D} (hc:c≠0) (h0:C5 20 [] T (e,q,a) [vb true] (e,q,a)) (h1:RdN T L (A7 (c4 y)) a p c a1):C5 121 [vi .i64 L] T (e,q,a) [.ag (A7 (c4 y))] (c,p,a1):=by
 refine Z5 Tryz.func121 rfl ?_;intro _ _ _ _ _ _ _ _ _ qk;intros;rename_i hA
 obtain ⟨e1,e2,e3,e4,e5,e6,e7,e8,e9⟩:=j7 hA
 have q1:qk c 0=false:=by rw [e9];exact d2U hc
 iterate 2 (try cbv;repeat ((first|with_reducible apply f8 hA|rw [q1]|refine A4 hA [0,1] h0 ?_|refine A4 hA [1] h1 ?_);cbv))
 try simp (maxSteps:=4000000) only [nc] at *
 exact m9 hA [0,1] ⟨rfl,rfl,rfl,rfl,rfl,rfl,rfl,rfl⟩ ⟨rfl,rfl⟩
theorem d0a {q a p a1:Int} {y:Nat→D} (h0:C5 20 [] T (0,q,a) [vb true] (0,q,a)) (h1:RdN T L (A7 (c4 y)) a p 0 a1):C5 121 [vi .i64 L] T (0,q,a) [.ag (A7 (c4 y))] (0,q,a1):=by
 refine Z5 Tryz.func121 rfl ?_;intro _ _ _ _ _ _ _ _ _ qk;intros;rename_i hA
 obtain ⟨e1,e2,e3,e4,e5,e6,e7,e8,e9⟩:=j7 hA
 have q1:qk 0 0=true:=by rw [e9];rfl
 iterate 2 (try cbv;repeat ((first|with_reducible apply f8 hA|rw [q1]|refine A4 hA [0,1] h0 ?_|refine A4 hA [1] h1 ?_);cbv))
 try simp (maxSteps:=4000000) only [nc] at *
 exact m9 hA [0,1] ⟨rfl,rfl,rfl,rfl,rfl,rfl,rfl,rfl⟩ ⟨rfl,rfl⟩
end
def P9 (ts:List Tok) (n:Nat) (p:PE):Ty×PE:=if p.2=0 then ((K5 ts n p.1).1,(K5 ts n p.1).2.2.2,(K5 ts n p.1).2.2.1) else (r7,p)
theorem c27 (ts:List Tok) (n a:Nat):stP ts ((K5 ts n a).2.2.2,(K5 ts n a).2.2.1)=((K5 ts n a).2.2.1,(K5 ts n a).2.1,((K5 ts n a).2.2.2:Int)):=by
 unfold K5
 split
 ·rename_i h
  exact b0d ts _ _ h
 ·rfl
theorem c28 {ts:List Tok} (hE:o5 ts) (hN:a0n ts) (hl:ts.length≤65537) (n:Nat) (L:Int) (hv:T6 n L) {p:PE} (hp:p.1<ts.length) :
  L3 121 [vi .i64 L] ts p [.ag (A7 (cT (P9 ts n p).1))] (P9 ts n p).2:=by
 have hok:=okP (by omega:ts.length≤1048576) hp
 have hr:=c7j hE hN hl n L hv p.1 hp
 have hst:=c27 ts n p.1
 unfold P9
 obtain ⟨a,e⟩:=p
 by_cases h:e=0
 ·subst h
  rw [d2S rfl]
  unfold L3 at hok ⊢
  rw [c7x] at hok ⊢
  simp only at hr hst ⊢
  rw [hst]
  generalize K5 ts n a=r at *
  obtain ⟨t,q,c,a1⟩:=r
  obtain ⟨y,hy⟩:=a6E t
  simp only at hr hst ⊢
  rw [hy] at hr ⊢
  by_cases hc:c=0
  ·subst hc
   have hq:q=0:=(congrArg (fun s:ST=>s.2.1) hst).symm.trans rfl
   subst hq
   exact d0a hok hr
  ·exact c7C hc hok hr
 ·rw [d2T h]
  unfold L3 at hok ⊢
  rw [d2Y (show ((a,e):PE).2≠0 from h)] at hok
  exact c7B hok
end
theorem v8.coer {f:Nat} {vs:List V} {os os1 ex:List O} {r:List V} (h:v8 f vs os (fun res os2=>res=r∧os2=os1++ex)) (hn:os.length≤os1.length) (hl:b06 os1.length (a5j (os1++ex) r)=true) (ho:a2U os1.length os1=true):v8 f vs os (fun res os2=>res=a5j (os1++ex) r∧os2=os1):=by
 refine ⟨h.1,fun I w g args hr=>(h.2 I w g args hr).mono fun e w' hx=>?_⟩
 obtain ⟨us,res,os2,I',g',e1,⟨rfl,rfl⟩,e3⟩:=hx
 have h5:RelI I (Xof g os) ⟨w,g,os.length,[]⟩ I' g' ⟨a5j (os1++ex) res,os1++ex⟩ { tmps:=us.toArray,defers:=[] } w':=⟨e3.im,e3.lt,e3.fr,e3.kp,e3.lo,e3.st,e3.obj,e3.dis,e3.out,b21 e3 e3.tmp,e3.dfr⟩
 have ht:(os1++ex).take os1.length=os1:=by simp
 have h6:=h5.trim (n:=os1.length) hn (by simp) (a8q (fun k hk=>d2S hk) h5.tmp hl) (by show a2U _ ((os1++ex).take os1.length)=true;rw [ht];exact ho)
 have h7:(⟨a5j (os1++ex) res,(os1++ex).take os1.length⟩:S)=⟨a5j (os1++ex) res,os1⟩:=by rw [ht]
 exact ⟨us,_,os1,I',_,e1,⟨rfl,rfl⟩,h7 ▸ h6⟩
section
abbrev c7 (x:Nat→D):List D:=[x 0,x 1,x 2,x 3,x 4,x 5,x 6]
section
variable {T:List (List D)} {L:Int}
theorem c4M {s0 s1:ST} {pl:Int} {w:ByteArray} (h0:C5 29 [] T s0 [vi .i64 pl] s0) (h1:C5 44 [vs ⟨#[40]⟩] T s0 [vb false] s0) (h2:C5 30 [] T s0 [vs w] s1):C5 106 [vi .i64 L] T s0 [.ag [vs w,vb false,vi .u8 0,vs ⟨#[]⟩,vi .i64 0,.d (.sl 4 []),vi .i64 pl]] s1:=by
 refine v8.nils (cs:=[vs w,vb false,vi .u8 0,vs ⟨#[]⟩,vi .i64 0,.em,vi .i64 pl]) ?_ ⟨.inl rfl,.inl rfl,.inl rfl,.inl rfl,.inl rfl,.inr ⟨rfl,_,rfl⟩,.inl rfl,trivial⟩
 obtain ⟨_,_,_⟩:=s0
 obtain ⟨_,_,_⟩:=s1
 refine Z5 Tryz.func106 rfl ?_;intro _ _ _ _ _ _ _ _ _ _ _ _ _ _ _ _ _ _ _ _ _ _ _ _ _ _ _ _ _ _ _ _ _ _ _ _ _ _ _ _ _ vw;intros;rename_i hA
 have p0:=h0;have p1:=h1;have p2:=h2;exact I5
theorem c7D {s0 s1 s2 s3 s4 s5:ST} {pl:Int} {w:ByteArray} {y:Nat→D} (hL1:0≤L) (hL2:L≤1048576) (h0:C5 29 [] T s0 [vi .i64 pl] s0) (h1:C5 44 [vs ⟨#[40]⟩] T s0 [vb true] s1) (h2:C5 30 [] T s1 [vs w] s2) (h3:C5 28 [vs ⟨#[58]⟩] T s2 [] s3) (h4:C5 121 [vi .i64 (L+1)] T s3 [.ag (A7 (c4 y))] s4) (h5:C5 28 [vs ⟨#[41]⟩] T s4 [] s5):C5 106 [vi .i64 L] T s0 [.ag [vs w,vb true,.d (y 0),.d (y 1),.d (y 2),.d (y 3),vi .i64 pl]] s5:=by
 obtain ⟨_,_,_⟩:=s0
 obtain ⟨_,_,_⟩:=s1
 obtain ⟨_,_,_⟩:=s2
 obtain ⟨_,_,_⟩:=s3
 obtain ⟨_,_,_⟩:=s4
 obtain ⟨_,_,_⟩:=s5
 obtain ⟨L1,hL⟩:∃L1,L1=L+1:=⟨_,rfl⟩
 rw [←hL] at h4
 refine Z5 Tryz.func106 rfl ?_;intro qa qb _ _ _ _ _ _ _ _ _ _ _ _ _ _ _ _ _ _ _ _ _ _ _ _ _ _ _ _ _ _ _ _ _ _ _ _ _ _ _ vw;intros;rename_i hA
 obtain ⟨e1,e2,e3,e4,e5,e6,e7,e8,e9⟩:=j7 hA
 have qL:qa .i64 (qb L 1)=L1:=by rw [e1,e2,IntWalk.i64_in _ (by omega)];exact hL.symm
 have q0:=qL;have p0:=h0;have p1:=h1;have p2:=h2;have p3:=h3;have p4:=h4;have p5:=h5;exact I5
def c7E (T:List (List D)) (L:Int) (inv:ST→List (List D)→Nat→Prop) (e q a:Int) (R:List (List D)) (m:Nat):Prop:=C5 20 [] T (e,q,a) [vb true] (e,q,a)∧IsN T a ⟨#[61,62]⟩ false∧∃(y:Nat→D) (s2:ST) (m2:Nat),C5 106 [vi .i64 L] T (e,q,a) [.ag (A7 (c7 y))] s2∧inv s2 (R++[c7 y]) m2∧m2<m
def d0b (T:List (List D)) (e q a:Int):Prop:=C5 20 [] T (e,q,a) [vb false] (e,q,a)∨C5 20 [] T (e,q,a) [vb true] (e,q,a)∧IsN T a ⟨#[61,62]⟩ true
theorem b9p {s0 s1 sf:ST} {Rf:List (List D)} {y:Nat→D} {m0:Nat} (inv:ST→List (List D)→Nat→Prop) (h0:C5 106 [vi .i64 L] T s0 [.ag (A7 (c7 y))] s1) (hi0:inv s1 [c7 y] m0)
  (hst:∀(e q a:Int) (R:List (List D)) (m:Nat),inv (e,q,a) R m→R.length<1048576∧(c7E T L inv e q a R m∨d0b T e q a∧C5 28 [vs ⟨#[61,62]⟩] T (e,q,a) [] sf∧R=Rf)) :
  v8 78 [.ptr 0 0,vi .i64 L] (eyT T s0) (fun res os=>res=[.own 2]∧os=eyT T sf++[.row true 134 Rf]):=by
 obtain ⟨_,_,_⟩:=s0
 obtain ⟨a1,b1,d1⟩:=s1
 obtain ⟨_,_,_⟩:=sf
 refine Z5 Tryz.func78 rfl ?_;intro _ _ _ _ _ _ _ _ _ _ _ _ _ _ _ _ _ _ _ _ _ _ _ _ _ ve;intros;rename_i hA
 obtain ⟨e1,e2,e3,e4,e5,e6,e7,e8,e9⟩:=j7 hA
 obtain ⟨r1,r2,r3,r4⟩:=A8 hA
 iterate 2 (try cbv;repeat ((first|with_reducible apply f8 hA|refine A4 hA [0,1] h0 ?_|refine A6 hA false ?_|refine a1E hA true ?_);cbv))
 try simp (maxSteps:=4000000) only [nc] at *
 refine j9 hA (γ:=ST×List (List D)×Nat) (fun x=>[(5,.own 2),(9,.jk)]) (fun x=>[(0,.box [.ptr 1 0,vi .u8 x.1.1,vi .i64 x.1.2.1]),(1,.box [.d (.sl 4 T),vi .i64 x.1.2.2]),(2,.row true 134 x.2.1)]) (fun x=>inv x.1 x.2.1 x.2.2) (fun x=>x.2.2) ((a1,b1,d1),[c7 y],m0) ?_ ?_ ?_
 ·exact hi0
 ·cbv
 ·intro x hinv
  obtain ⟨⟨e,q,a⟩,R,m⟩:=x
  obtain ⟨hlen,hs⟩:=hst e q a R m hinv
  rcases hs with ⟨hok,his,y2,s2,m2,hp,hi2,hm2⟩|⟨he,hw,hR⟩
  ·obtain ⟨a2,b2,d2⟩:=s2
   have g3:ve R [c7 y2]=R++[c7 y2]:=by rw [r4]
   obtain ⟨R2,hR2⟩:∃R2,R2=R++[c7 y2]:=⟨_,rfl⟩
   rw [←hR2] at g3 hi2
   iterate 2 (try cbv;repeat ((first|with_reducible apply f8 hA|rw [g3]|refine A4 hA [0,1] hok ?_|refine rdx hA [1] his ?_|refine A4 hA [0,1] hp ?_|refine A6 hA true ?_|(refine B3 hA (by simp only [d2X,d3g];omega) ?_));cbv))
   try simp (maxSteps:=4000000) only [nc] at *
   refine ⟨((a2,b2,d2),R2,m2),hi2,hm2,?_⟩
   cbv
  ·subst hR
   rcases he with hok|⟨hok,his⟩
   ·iterate 2 (try cbv;repeat ((first|with_reducible apply f8 hA|refine A4 hA [0,1] hok ?_|refine A4 hA [0,1] hw ?_);cbv))
    try simp (maxSteps:=4000000) only [nc] at *
    exact m9 hA [0,1,2] (res':=[.own 2]) (os':=[_,_,.row true 134 R]) ⟨rfl,rfl,rfl,rfl,rfl,rfl,rfl,rfl⟩ ⟨rfl,rfl⟩
   ·iterate 2 (try cbv;repeat ((first|with_reducible apply f8 hA|refine A4 hA [0,1] hok ?_|refine rdx hA [1] his ?_|refine A4 hA [0,1] hw ?_);cbv))
    try simp (maxSteps:=4000000) only [nc] at *
    exact m9 hA [0,1,2] (res':=[.own 2]) (os':=[_,_,.row true 134 R]) ⟨rfl,rfl,rfl,rfl,rfl,rfl,rfl,rfl⟩ ⟨rfl,rfl⟩
end
end
abbrev Pm:=ByteArray×Bool×Ty×Int
def cPm (m:Pm):List D:=.sc (.string m.1)::.sc (.bool m.2.1)::(cT m.2.2.1++[.sc (.int .i64 m.2.2.2)])
theorem c29 (m:Pm):∃x,cPm m=c7 x:=by
 obtain ⟨y,hy⟩:=a6E m.2.2.1
 exact ⟨fun i=>match i with|0=>.sc (.string m.1)|1=>.sc (.bool m.2.1)|2=>y 0|3=>y 1|4=>y 2|5=>y 3|_=>.sc (.int .i64 m.2.2.2),by unfold cPm;rw [hy];rfl⟩
theorem a4T {n:Nat} {L:Int} (h:T6 n L):T6 (n - 1) (L+1):=by
 unfold T6 at h ⊢
 omega
theorem a38 {n:Nat} {L:Int} (h:T6 n L) (h2:L≤1048575):0≤L∧L≤1048576:=by
 unfold T6 at h
 omega
abbrev Q5:ByteArray:=⟨#[61,62]⟩
abbrev a0G:ByteArray:=⟨#[40]⟩
abbrev a0H:ByteArray:=⟨#[41]⟩
abbrev a5P:ByteArray:=⟨#[58]⟩
theorem a40 {ts:List Tok} (hE:o5 ts) (n:Nat) {p:PE} (hp:p.1<ts.length):(P9 ts n p).2.1<ts.length∧p.1≤(P9 ts n p).2.1∧((P9 ts n p).2.2=0→p.2=0):=by
 unfold P9
 split
 ·rename_i h
  have hf:=P7 hE n (p.1,0) hp
  have e:(K5 ts n p.1).2.2.2=(n9 ts n (p.1,0)).2.1:=by unfold K5;split <;> rfl
  exact ⟨by show (K5 ts n p.1).2.2.2<_;rw [e];exact hf.1.hi,by show _≤(K5 ts n p.1).2.2.2;rw [e];exact hf.1.lo,fun _=>h⟩
 ·exact ⟨hp,d3b _,fun h=>h⟩
def m7 (ts:List Tok) (n:Nat) (p:PE):Pm×PE :=
 if A2 ts a0G p=true then (((i9 ts (skP ts a0G p)).1,true,(P9 ts (n - 1) (j0 ts a5P (i9 ts (skP ts a0G p)).2)).1,(j6 ts p.1).at_),j0 ts a0H (P9 ts (n - 1) (j0 ts a5P (i9 ts (skP ts a0G p)).2)).2)
 else (((i9 ts p).1,false,r7,(j6 ts p.1).at_),(i9 ts p).2)
theorem b3g {ts:List Tok} {s:ByteArray} {p:PE} (hE:o5 ts) (hp:p.1<ts.length) (h:A2 ts s p=true):(skP ts s p).1<ts.length∧(skP ts s p).1=p.1+1∧p.2=0:=by
 unfold A2 at h
 simp only [d2Z,d3F] at h
 have hg:=h.2
 unfold L7 at hg
 simp only [d2Z,d3F] at hg
 unfold skP A2
 rw [h.1,h.2]
 exact ⟨hE _ hp (by rw [hg.1];decide),rfl,rfl⟩
theorem U8 {ts:List Tok} (hE:o5 ts) (n:Nat) {p:PE} (hp:p.1<ts.length):(m7 ts n p).2.1<ts.length∧p.1≤(m7 ts n p).2.1∧((m7 ts n p).2.2=0→p.2=0∧p.1+1≤(m7 ts n p).2.1):=by
 unfold m7
 split
 ·rename_i h
  obtain ⟨a1,a2,a3⟩:=b3g hE hp h
  obtain ⟨b1,b2,b3⟩:=A0 hE a1
  obtain ⟨c1,c2,c3⟩:=j8 (s:=a5P) hE b1
  obtain ⟨d1,d2,d3⟩:=a40 hE (n - 1) c1
  obtain ⟨f1,f2,f3⟩:=j8 (s:=a0H) hE d1
  exact ⟨f1,by simp only;omega,fun h0=>⟨a3,by simp only;omega⟩⟩
 ·obtain ⟨b1,b2,b3⟩:=A0 hE hp
  exact ⟨b1,b2,fun h0=>⟨(b3 h0).1,by have:=(b3 h0).2;simp only;omega⟩⟩
theorem b7L {ts:List Tok} (hE:o5 ts) (hN:a0n ts) (hl:ts.length≤65537) (n:Nat) (L:Int) (hv:T6 n L) (hL:L≤1048575) {p:PE} (hp:p.1<ts.length):L3 106 [vi .i64 L] ts p [.ag (A7 (cPm (m7 ts n p).1))] (m7 ts n p).2:=by
 have hl2:ts.length≤1048576:=by omega
 have hh:=a5o hl2 hp
 have hs:=a0E hl2 hp a0G
 unfold m7
 by_cases h:A2 ts a0G p=true
 ·rw [d2S h]
  rw [h] at hs
  obtain ⟨a1,a2,a3⟩:=b3g hE hp h
  obtain ⟨b1,b2,b3⟩:=A0 hE a1
  obtain ⟨c1,c2,c3⟩:=j8 (s:=a5P) hE b1
  obtain ⟨d1,d2,d3⟩:=a40 hE (n - 1) c1
  have h2:=a1I hl2 a1
  have h3:=N1 hl2 b1 a5P
  have h4:=c28 hE hN hl (n - 1) (L+1) (a4T hv) c1
  have h5:=N1 hl2 d1 a0H
  obtain ⟨y,hy⟩:=a6E (P9 ts (n - 1) (j0 ts a5P (i9 ts (skP ts a0G p)).2)).1
  rw [hy] at h4
  have e:A7 (cPm ((i9 ts (skP ts a0G p)).1,true,(P9 ts (n - 1) (j0 ts a5P (i9 ts (skP ts a0G p)).2)).1,(j6 ts p.1).at_))=[vs (i9 ts (skP ts a0G p)).1,vb true,.d (y 0),.d (y 1),.d (y 2),.d (y 3),vi .i64 (j6 ts p.1).at_]:=by
   unfold cPm
   simp only
   rw [hy]
   rfl
  rw [e]
  exact c7D (a38 hv hL).1 (a38 hv hL).2 hh hs h2 h3 h4 h5
 ·rw [d2T h]
  replace h:A2 ts a0G p=false:=by simpa using h
  rw [h,show skP ts a0G p=p by unfold skP;rw [h];rfl] at hs
  have h2:=a1I hl2 hp
  have e:A7 (cPm ((i9 ts p).1,false,r7,(j6 ts p.1).at_))=[vs (i9 ts p).1,vb false,vi .u8 0,vs ⟨#[]⟩,vi .i64 0,.d (.sl 4 []),vi .i64 (j6 ts p.1).at_]:=by
   unfold cPm r7
   simp only
   rw [cT,rT]
   rfl
  rw [e]
  exact c4M hh hs h2
def B5 (ts:List Tok) (n:Nat):Nat→List Pm×PE→List Pm×PE
 | 0,s=>s
 | k+1,s=>if s.2.2=0∧L7 (j6 ts s.2.1) Q5=false then B5 ts n k (s.1++[(m7 ts n s.2).1],(m7 ts n s.2).2) else s
def v6 (ts:List Tok) (n:Nat) (p:PE):List Pm×PE:=((B5 ts n ts.length ([(m7 ts n p).1],(m7 ts n p).2)).1,j0 ts Q5 (B5 ts n ts.length ([(m7 ts n p).1],(m7 ts n p).2)).2)
theorem a1d {ts:List Tok} {n:Nat} {s:List Pm×PE} (h:¬(s.2.2=0∧L7 (j6 ts s.2.1) Q5=false)):∀k,B5 ts n k s=s
 | 0=>rfl
 | k+1=>by rw [B5,d2T h]
def c5N (ts:List Tok) (n:Nat) (rr:List Pm×PE) (s:ST) (R:List (List D)) (m:Nat):Prop:=∃(l:List Pm) (p:PE) (k:Nat),s=stP ts p∧R=l.map cPm∧p.1<ts.length∧l.length≤p.1+1∧(p.2=0→l.length≤p.1∧ts.length - p.1≤k)∧m=2 * (ts.length - p.1)+(if p.2=0 then 1 else 0)∧rr=B5 ts n k (l,p)
theorem c2A {ts:List Tok} (hE:o5 ts) (hN:a0n ts) (hl:ts.length≤65537) (n:Nat) (L:Int) (hv:T6 n L) (hL:L≤1048575) {p:PE} (hp:p.1<ts.length):L3 78 [vi .i64 L] ts p [.d (.sl 7 ((v6 ts n p).1.map cPm))] (v6 ts n p).2:=by
 have hl2:ts.length≤1048576:=by omega
 obtain ⟨rr,hrr⟩:∃rr,rr=B5 ts n ts.length ([(m7 ts n p).1],(m7 ts n p).2):=⟨_,rfl⟩
 have h0:=b7L hE hN hl n L hv hL hp
 obtain ⟨a1,a2,a3⟩:=U8 hE n hp
 obtain ⟨y,hy⟩:=c29 (m7 ts n p).1
 have hi0:c5N ts n rr (stP ts (m7 ts n p).2) [c7 y] (2 * (ts.length - (m7 ts n p).2.1)+(if (m7 ts n p).2.2=0 then 1 else 0)):=⟨[(m7 ts n p).1],(m7 ts n p).2,ts.length,rfl,by rw [d3c,hy];rfl,a1,by simp,fun h=>⟨by have:=(a3 h).2;simp;omega,by omega⟩,rfl,hrr⟩
 unfold v6
 rw [←hrr]
 unfold L3 at h0
 rw [hy] at h0
 have key:=b9p (T:=C9 ts) (L:=L) (sf:=stP ts (j0 ts Q5 rr.2)) (Rf:=rr.1.map cPm) (c5N ts n rr) h0 hi0 (fun e q a R m hinv=>by
  obtain ⟨l,p',k,hs,hR,hp',hlen,hz,hm,hr⟩:=hinv
  refine ⟨by rw [hR,d3o];omega,?_⟩
  have hok:=okP hl2 hp'
  have ha:a=(p'.1:Int):=congrArg (fun s:ST=>s.2.2) hs
  have his:=(c5L hl2 (a:=p'.1) hp' Q5)
  rw [←ha] at his
  unfold L3 at hok
  rw [←hs] at hok
  by_cases hc:p'.2=0∧L7 (j6 ts p'.1) Q5=false
  ·obtain ⟨hz1,hz2⟩:=hz hc.1
   obtain ⟨b1,b2,b3⟩:=U8 hE n hp'
   obtain ⟨y2,hy2⟩:=c29 (m7 ts n p').1
   have hpp:=b7L hE hN hl n L hv hL hp'
   unfold L3 at hpp
   rw [hy2,←hs] at hpp
   rw [hc.1] at hok
   rw [hc.2] at his
   match k,hz2,hr with
   | 0,hz2,_=>omega
   | k+1,hz2,hr =>
    rw [B5,d2S hc] at hr
    refine .inl ⟨hok,his,y2,_,2 * (ts.length - (m7 ts n p').2.1)+(if (m7 ts n p').2.2=0 then 1 else 0),hpp,⟨_,_,k,rfl,by rw [hR,d3Q,d3c,hy2];rfl,b1,by simp;omega,fun h=>⟨by have:=(b3 h).2;simp;omega,by have:=(b3 h).2;omega⟩,rfl,hr⟩,?_⟩
    rw [hm,d2S hc.1]
    split
    ·rename_i h
     have:=(b3 h).2
     omega
    ·omega
  ·rw [a1d hc] at hr
   have hw:=N1 hl2 hp' Q5
   unfold L3 at hw
   rw [←hs] at hw
   refine .inr ⟨?_,by rw [hr];exact hw,by rw [hr];exact hR⟩
   by_cases h0:p'.2=0
   ·rw [h0] at hok
    have h1:L7 (j6 ts p'.1) Q5=true:=by
     cases hg:L7 (j6 ts p'.1) Q5 with
     | true=>rfl
     | false=>exact absurd ⟨h0,hg⟩ hc
    rw [h1] at his
    exact .inr ⟨hok,his⟩
   ·rw [d2Y h0] at hok
    exact .inl hok)
 exact v8.coer key (d3b _) rfl rfl
section
section
variable {T:List (List D)} {L:Int}
theorem c4N {s0 s1 s2 s3 s4 s5 s6:ST} {x y z:Nat→D} {pl:Int} {w:ByteArray} (ho:OvN 45 w ⟨#[]⟩ 0 false pl [cE x,cE y] z) (hL1:0≤L) (hL2:L≤1048576) (h0:C5 44 [vs ⟨#[125]⟩] T s0 [vb false] s0) (h1:C5 30 [] T s0 [vs w] s1) (h2:C5 44 [vs ⟨#[58,61]⟩] T s1 [vb true] s2) (h3:C5 19 [vi .i64 (L+1)] T s2 [.ag (A7 (cE x))] s3) (h4:C5 28 [vs ⟨#[124]⟩] T s3 [] s4) (h5:C5 19 [vi .i64 (L+1)] T s4 [.ag (A7 (cE y))] s5) (h6:C5 28 [vs ⟨#[125]⟩] T s5 [] s6):C5 154 [vi .i64 L,vi .i64 pl] T s0 [.ag (A7 (cE z))] s6:=by
 obtain ⟨_,_,_⟩:=s0
 obtain ⟨_,_,_⟩:=s1
 obtain ⟨_,_,_⟩:=s2
 obtain ⟨_,_,_⟩:=s3
 obtain ⟨_,_,_⟩:=s4
 obtain ⟨_,_,_⟩:=s5
 obtain ⟨_,_,_⟩:=s6
 obtain ⟨L1,hL⟩:∃L1,L1=L+1:=⟨_,rfl⟩
 rw [←hL] at h3 h5
 refine Z5 Tryz.func154 rfl ?_;intro qa qb;intros;rename_i hA
 obtain ⟨e1,e2,e3,e4,e5,e6,e7,e8,e9⟩:=j7 hA
 obtain ⟨c1,c2,c3,c4_,c5,c6,c7⟩:=G1 hA
 have qL:qa .i64 (qb L 1)=L1:=by rw [e1,e2,IntWalk.i64_in _ (by omega)];exact hL.symm
 iterate 2 (try cbv;repeat ((first|with_reducible apply f8 hA|rw [qL]|refine A4 hA [0,1] h0 ?_|refine A4 hA [0,1] h1 ?_|refine A4 hA [0,1] h2 ?_|refine A4 hA [0,1] h3 ?_|refine A4 hA [0,1] h4 ?_|refine A4 hA [0,1] h5 ?_|refine A4 hA [0,1] h6 ?_|refine rdx hA [] ho ?_|refine a8u hA [0,1,2,4,5,6] (by kernel_rfl) ?_);cbv))
 try simp (maxSteps:=4000000) only [nc] at *
 repeat' (first
  | (with_reducible apply And.intro)
  | ((with_reducible apply f8 hA);cbv)
  | (refine y6 hA [0,1] h0 ⟨rfl,rfl,rfl,rfl,rfl,rfl,rfl⟩ ?_;rintro _ _ ⟨rfl,rfl⟩;cbv)
  | (refine y6 hA [0,1] h1 ⟨rfl,rfl,rfl,rfl,rfl,rfl,rfl⟩ ?_;rintro _ _ ⟨rfl,rfl⟩;cbv)
  | (refine y6 hA [0,1] h2 ⟨rfl,rfl,rfl,rfl,rfl,rfl,rfl⟩ ?_;rintro _ _ ⟨rfl,rfl⟩;cbv)
  | (refine y6 hA [0,1] h3 ⟨rfl,rfl,rfl,rfl,rfl,rfl,rfl⟩ ?_;rintro _ _ ⟨rfl,rfl⟩;cbv)
  | (refine y6 hA [0,1] h4 ⟨rfl,rfl,rfl,rfl,rfl,rfl,rfl⟩ ?_;rintro _ _ ⟨rfl,rfl⟩;cbv)
  | (refine y6 hA [0,1] h5 ⟨rfl,rfl,rfl,rfl,rfl,rfl,rfl⟩ ?_;rintro _ _ ⟨rfl,rfl⟩;cbv)
  | (refine y6 hA [0,1] h6 ⟨rfl,rfl,rfl,rfl,rfl,rfl,rfl⟩ ?_;rintro _ _ ⟨rfl,rfl⟩;cbv)
  | (refine a6v hA [] ho ⟨rfl,rfl,rfl,rfl,rfl,rfl,rfl⟩ rfl ?_;rintro _ rfl;cbv)
  )
 all_goals exact m9 hA [0,1] ⟨rfl,rfl,rfl,rfl,rfl,rfl,rfl,rfl⟩ ⟨rfl,rfl⟩
theorem b9r {s0 s1 s2 s3 s4:ST} {x y z:Nat→D} {pl:Int} (ho:OvA 51 ⟨#[]⟩ ⟨#[]⟩ 0 true y pl [cE x] z) (hL1:0≤L) (hL2:L≤1048576) (h0:C5 19 [vi .i64 (L+1)] T s0 [.ag (A7 (cE x))] s1) (h1:C5 44 [vs ⟨#[58]⟩] T s1 [vb true] s2) (h2:C5 121 [vi .i64 (L+1)] T s2 [.ag (A7 (c4 y))] s3) (h3:C5 28 [vs ⟨#[41]⟩] T s3 [] s4):C5 153 [vi .i64 L,vi .i64 pl] T s0 [.ag (A7 (cE z))] s4:=by
 obtain ⟨_,_,_⟩:=s0
 obtain ⟨_,_,_⟩:=s1
 obtain ⟨_,_,_⟩:=s2
 obtain ⟨_,_,_⟩:=s3
 obtain ⟨_,_,_⟩:=s4
 obtain ⟨L1,hL⟩:∃L1,L1=L+1:=⟨_,rfl⟩
 rw [←hL] at h0 h2
 refine Z5 Tryz.func153 rfl ?_;intro qa qb;intros;rename_i hA
 obtain ⟨e1,e2,e3,e4,e5,e6,e7,e8,e9⟩:=j7 hA
 obtain ⟨c1,c2,c3,c4_,c5,c6,c7⟩:=G1 hA
 have qL:qa .i64 (qb L 1)=L1:=by rw [e1,e2,IntWalk.i64_in _ (by omega)];exact hL.symm
 iterate 2 (try cbv;repeat ((first|with_reducible apply f8 hA|rw [qL]|refine A4 hA [0,1] h0 ?_|refine A4 hA [0,1] h1 ?_|refine A4 hA [0,1] h2 ?_|refine A4 hA [0,1] h3 ?_|refine rdx hA [] ho ?_|refine a8u hA [0,1,2,4,5] (by kernel_rfl) ?_);cbv))
 try simp (maxSteps:=4000000) only [nc] at *
 repeat' (first
  | (with_reducible apply And.intro)
  | ((with_reducible apply f8 hA);cbv)
  | (refine y6 hA [0,1] h0 ⟨rfl,rfl,rfl,rfl,rfl,rfl,rfl⟩ ?_;rintro _ _ ⟨rfl,rfl⟩;cbv)
  | (refine y6 hA [0,1] h1 ⟨rfl,rfl,rfl,rfl,rfl,rfl,rfl⟩ ?_;rintro _ _ ⟨rfl,rfl⟩;cbv)
  | (refine y6 hA [0,1] h2 ⟨rfl,rfl,rfl,rfl,rfl,rfl,rfl⟩ ?_;rintro _ _ ⟨rfl,rfl⟩;cbv)
  | (refine y6 hA [0,1] h3 ⟨rfl,rfl,rfl,rfl,rfl,rfl,rfl⟩ ?_;rintro _ _ ⟨rfl,rfl⟩;cbv)
  | (refine a6v hA [] ho ⟨rfl,rfl,rfl,rfl,rfl,rfl,rfl⟩ rfl ?_;rintro _ rfl;cbv)
  )
 all_goals exact m9 hA [0,1] ⟨rfl,rfl,rfl,rfl,rfl,rfl,rfl,rfl⟩ ⟨rfl,rfl⟩
end
end
def c2B (n:Nat) (l:List ResultVar) (Q:List V→List O→Prop) (m:Nat) (kl:List Nat):Vm.X→S→Prop
 | .exit _,_=>False
 | _,s=>A9 s.o m=.kl kl∧a53 f7 s l (fun vs=>f7.keep n Q vs ⟨s.t,J5 s.o m .dead⟩)
def b7M (os:List O) (I:Nat→Nat→Prop) (w:World) (g:Nat→Value) (Q:List V→List O→Prop) (e:Ending) (w':World):Prop:=∃us res os2 I' g',e=.returned (pkg us)∧Q res os2∧RelI I (Xof g os) ⟨w,g,os.length,[]⟩ I' g' ⟨res,os2⟩ { tmps:=us.toArray,defers:=[] } w'
theorem b0j {os:List O} {c2:Code} {n D:Nat} {fn:Func} {Q:List V→List O→Prop} {w:World} {g:Nat→Value} {I IN:Nat→Nat→Prop} {gN:Nat→Value} {t:List V} {oN:List O} {a:Act} {W:World} {kl:List Nat} (hc:w8 Tryz.prog c2=true) (hr:P3 fn.results.toList=true)
  (h:RelI I (Xof g os) ⟨w,g,os.length,[]⟩ IN gN ⟨t,oN⟩ a W) (hID:∀k,¬IN D k) (hD0:w.heap.size≤D) (hD:W.heap[D]?=some (.deferred (some [])))
  (hx:E1 f7 c2 ⟨t,A1 oN (.kl [])⟩ (fun x s=>c2B os.length fn.results.toList Q (r8 oN) kl x s)) :
  c2.wpIn (FW none) n Tryz.prog (bodyPostM (FW none) n Tryz.prog fn (b7M os I w g Q)) { a with defers:={ target:=.collected D,args:=#[] }::a.defers } W:=by
 obtain ⟨g',hg,hgn,h1⟩:=h.rebase h.tmp
 have hDt:D<W.heap.size:=(d3i.1 hD).1
 have hXD:¬Xof g' (A1 oN (.kl [])) D:=fun ⟨j,x,hj,hd,hb⟩=>a2m hD rfl (h1.obj j x hj) hd hb
 have h2:=h1.mark [{ target:=.collected D,args:=#[] }]
 have ea:({ ({ tmps:=a.tmps.toList.toArray,defers:=[] }:Act) with defers:=[{ target:=.collected D,args:=#[] }] }:Act)={ a with defers:={ target:=.collected D,args:=#[] }::a.defers }:=by
  have:=h.dfr.1
  cases a
  simp only at this
  subst this
  rfl
 rw [ea] at h2
 refine N6 c2 _ _ _ _ _ hc ⟨IN,g',h2⟩ hx fun e s2 a2 W2 hrel hk=>?_
 obtain ⟨I2,g2,h3⟩:=hrel
 have hD2:W2.heap[D]?=some (.deferred (some [])):=(h3.fr.block D hDt hXD).trans hD
 have hI2D:∀k,¬I2 D k:=fun k hk=>by
  rcases (h3.lt D k hk).2 hDt with h4|h4
  ·exact hID k h4
  ·exact hXD h4
 have key:(A9 s2.o (r8 oN)=.kl kl∧a53 f7 s2 fn.results.toList (fun vs=>f7.keep os.length Q vs ⟨s2.t,J5 s2.o (r8 oN) .dead⟩))→LeavesInM (FW none) n Tryz.prog fn a2.tmps (b7M os I w g Q) a2.defers .returning W2:=fun ⟨hkl,hres⟩=>by
  rw [h3.dfr.1]
  have h4:=h3.turnBoth (y':=.deferred none) hD2 rfl hD hI2D
  have h5:=h.turned (y':=.deferred none) hD rfl hD0 hID
  have h6:=h4.mark []
  have hkl:=B4 hkl (by simp)
  rw [y5] at hkl
  obtain ⟨_,h7⟩:=h5.unbase hg hgn h6 hkl
  obtain ⟨us,vs,r1,r2,ks,res',os',hko,hQ⟩:=a21 h4 hr hres
  refine ⟨by simp,.inl ⟨_,_,rfl,run_takeDeferred hD2,?_⟩⟩
  rw [H4,y5] at hko
  refine ⟨_,r1,us,res',os',I2,_,rfl,hQ,b69 (w0:=⟨w,g,os.length,[]⟩) h7 rfl ⟨hko.nd,hko.len,hko.head,hko.args,hko.objs,hko.low,hko.lowo,hko.nk⟩ r2⟩
 cases e with
 | normal=>exact key hk
 | exit i=>exact hk.elim
 | ret=>exact key hk
def b0G:List Code→Code→Code
 | [],d=>d
 | c::l,d=>.seq c (b0G l d)
theorem b7N {I0:Nat→Nat→Prop} {X:Nat→Prop} {w0:W0} {n bi:Nat} {cp r c2:Code} {Pre:S→Prop} {Q:Exit→Act→World→Prop} (hp:w8 Tryz.prog cp=true)
  (hmid:∀s a W,Rel I0 X w0 s a W→Pre s→r.wpIn (FW none) n Tryz.prog (Exit.inBlock bi (Exit.then (c2.wpIn (FW none) n Tryz.prog Q) Q)) a W):∀(cs:List Code) (s:S) (a:Act) (W:World),cs.all (w8 Tryz.prog)=true→Rel I0 X w0 s a W→E1 f7 (b0G cs cp) s (fun x s=>x=.normal∧Pre s)→(b0G cs (.seq (.seq cp (.block bi r)) c2)).wpIn (FW none) n Tryz.prog Q a W
 | [],s,a,W,_,hrel,hx=>by
  refine wpIn_seq (wpIn_seq (N6 (ro:=none) cp _ _ _ _ _ hp hrel hx fun e s3 a3 W3 hr3 hk3=>?_))
  obtain ⟨he,hP⟩:=hk3
  subst he
  exact wpIn_block (hmid s3 a3 W3 hr3 hP)
 | c::l,s,a,W,hc,hrel,hx=>by
  simp only [List.all_cons,d2Z] at hc
  refine wpIn_seq (N6 (ro:=none) c _ _ _ _ _ hc.1 hrel hx fun e s1 a1 W1 hr1 hk1=>?_)
  cases e with
  | normal =>
   obtain ⟨F1,hg1,hk1⟩:=hk1
   obtain ⟨z1,hf1,hr1'⟩:=hg1 _ _ _ _ _ hr1
   exact b7N hp hmid l z1 a1 W1 hc.2 hr1' (hk1 z1 hf1)
  | exit i=>exact absurd hk1.1 (by simp)
  | ret=>exact absurd hk1.1 (by simp)
theorem a7U {f:Nat} {fn:Func} {cs:List Code} {cp c2 r:Code} {bi:Nat} {vs:List V} {os:List O} {Q:List V→List O→Prop} {Pre:S→Prop} (hf:Tryz.prog.funcs[f]?=some fn)
  (hb:fn.body=some (b0G cs (.seq (.seq cp (.block bi r)) c2))) (hn:(fn.name != "runtime.NumGoroutine")=true) (hcs:cs.all (w8 Tryz.prog)=true) (hp:w8 Tryz.prog cp=true)
  (hpre:E1 f7 (b0G cs cp) (a2D vs os (fn.ntmps - F4 vs)) (fun x s=>x=.normal∧Pre s))
  (hmid:∀(I I':Nat→Nat→Prop) (g0 g:Nat→Value) (w W:World) (s:S) (a:Act),Pre s→RelI I (Xof g0 os) ⟨w,g0,os.length,[]⟩ I' g s a W →
   r.wpIn (FW none) 3 Tryz.prog (Exit.inBlock bi (Exit.then (c2.wpIn (FW none) 3 Tryz.prog (bodyPostM (FW none) 3 Tryz.prog fn (b7M os I w g0 Q)))
    (bodyPostM (FW none) 3 Tryz.prog fn (b7M os I w g0 Q)))) a W):v8 f vs os Q:=by
 refine ⟨by unfold a3s;rw [hf];simp only [hn,hb];rfl,?_⟩
 intro I w g args hrel
 have hv:m8 I w g args vs:=hrel.tmp
 have hsz:args.toArray.size=F4 vs:=by rw [L9];simp [hv.1]
 refine callsIn_wide.1 (callsIn_of_wp_marks (n:=3) hf hb trivial ?_)
 rw [hsz]
 have hst:RelI I (Xof g os) ⟨w,g,os.length,[]⟩ I g (a2D vs os (fn.ntmps - F4 vs)) { tmps:=args.toArray++Array.replicate (fn.ntmps - F4 vs) undef,defers:=[] } w:=by
  refine ⟨hrel.im,hrel.lt,hrel.fr,hrel.kp,hrel.lo,hrel.st,hrel.obj,hrel.dis,hrel.out,?_,rfl,hrel.dfr.2⟩
  show m8 I w _ (args.toArray++Array.replicate (fn.ntmps - F4 vs) undef).toList (a3H vs (uns (fn.ntmps - F4 vs)))
  rw [a1i,d45,a7p]
  refine hv.append ?_
  rw [d40]
  refine ⟨by simp,fun i u c hu hc=>?_⟩
  rw [d4i] at hu hc
  split at hu
  ·rename_i hi
   rw [d2S hi] at hc
   injection hu with hu
   injection hc with hc
   subst hu;subst hc
   exact .tu [] [] rfl fun i u c hu _=>by simp at hu
  ·cases hu
 exact b7N hp (fun s a W ⟨I',g',h⟩ hP=>hmid I I' g g' w W s a hP h) cs _ _ _ hcs ⟨I,g,hst⟩ hpre
end Go.Proofs.YtahpnackkmbmgaaGreat.Vm
end
section
namespace Go.Proofs.YtahpnackkmbmgaaGreat.Vm
open Go.RowKit Go.Shelf Go.Proofs
attribute [local go_sem] Oper.semAt_some
set_option maxRecDepth 100000 in
set_option maxHeartbeats 4000000 in
theorem c2C (e:Nat→Nat→Value) (F:Fence) (n:Nat) (hf:F.fn 107) (hro:F.round=none) (hn:1≤n) (l Bs b off len cap:Nat) (hreach:len * 112≤140737488351232) (J:Nat→World→Prop) (Jx:Unit→World→Prop)
  (hY:∀(k:Nat) (W:World),k<len→J k W→YieldAt F (n - 1) Tryz.prog l #[.int .i64 ((len - 1 - k:Nat):Int),.agg #[e (len - 1 - k) 0,e (len - 1 - k) 1,e (len - 1 - k) 2,e (len - 1 - k) 3,e (len - 1 - k) 4,e (len - 1 - k) 5,e (len - 1 - k) 6]] W fun r W' =>
   (r=.returned (.bool true)∧J (k+1) W'∧KpB Bs b off (len * 7) W W')∨(r=.returned (.bool false)∧Jx () W'))
  (W:World) (hBs:W.cell? ⟨Bs,0,none⟩=some (.slice (some ⟨b,off,none⟩) len cap)) (hc:∀j,j<len→∀i,i<7→W.cell? ⟨b,off+(j * 7+i),none⟩=some (e j i)) (h0:J 0 W) :
  CallsIn F n Tryz.prog 107 #[.func (.yield l) #[] #[],.pointer (some ⟨Bs,0,none⟩)] W fun r W'=>(∃v,r=.returned v)∧(J len W'∨Jx () W'):=by
 refine callsIn_of_wp Tryz.func107 rfl hf ?_ hro
 simp only [Tryz.ntmps107,d4j,d2X,d3g,Nat.reduceAdd,Nat.reduceSub,d4u,d4v,d43,d4y,d3L,d3I]
 gi_wp2
 gi_loopw [3] (fun i wr=>∃k r:Nat,k+r=len∧i=.int .i64 ((r:Int) - 1)∧J k wr∧KpB Bs b off (len * 7) W wr)
  (fun i _=>(intOf i+1).toNat)
 case atStart=>exact ⟨0,len,by omega,rfl,h0,KpB.refl W⟩
 case round =>
  obtain ⟨k,r,hk,rfl,hJs,hnx⟩:=hrel
  have hbx:=hnx.1 _ hBs
  cases r with
  | succ q =>
   have eq:(((q+1:Nat):Int) - 1)=(q:Int):=by omega
   have hq:len - 1 - k=q:=by omega
   rw [eq]
   have hy0:=hY k wr (by omega) hJs
   rw [hq] at hy0
   obtain ⟨fn,tmps,assign,body,hy,hR⟩:=hy0
   have h2:∀i,i<7→wr.cell? ⟨b,off+q * 7+i,none⟩=some (e q i):=fun i hi=>by rw [d3W];exact hnx.2 _ (by omega) _ (hc q (by omega) i hi)
   have c0:=h2 0 (by omega)
   have c1:=h2 1 (by omega)
   have c2:=h2 2 (by omega)
   have c3:=h2 3 (by omega)
   have c4:=h2 4 (by omega)
   have c5:=h2 5 (by omega)
   have c6:=h2 6 (by omega)
   clear h2 hc hY
   simp only [d4a] at c0
   have hqn:(0:Int)≤(q:Int):=by omega
   have hql:(q:Int)<(len:Int):=by omega
   have hqlt:q<len:=by omega
   gi_wp2
   refine hR.mono ?_
   rintro r W3 (⟨rfl,hJ3,hk3⟩|⟨rfl,hJx3⟩)
   ·gi_wp2
    go_roundw
    case rel=>exact ⟨k+1,q,by omega,by simp,hJ3,hnx.trans hk3⟩
    case measure=>simp [intOf]
   ·gi_wp2
    refine bodyPost_ret (results_none rfl _ _ _) rfl ?_
    exact ⟨⟨_,rfl⟩,.inr hJx3⟩
  | zero =>
   obtain rfl:k=len:=by omega
   clear hY
   gi_wp2
   go_end0
   exact ⟨⟨_,rfl⟩,.inl hJs⟩
set_option maxRecDepth 100000 in
set_option maxHeartbeats 2000000 in
theorem b9s (A:Option Addr) (cap:Nat) (F:Fence) (n:Nat) (hf:F.fn 107) (hro:F.round=none) (l Bs:Nat) (J:World→Prop) (W:World) (hBs:W.cell? ⟨Bs,0,none⟩=some (.slice A 0 cap)) (h0:J W) :
  CallsIn F n Tryz.prog 107 #[.func (.yield l) #[] #[],.pointer (some ⟨Bs,0,none⟩)] W fun e W'=>(∃v,e=.returned v)∧J W':=by
 refine callsIn_of_wp Tryz.func107 rfl hf ?_ hro
 simp only [Tryz.ntmps107,d4j,d2X,d3g,Nat.reduceAdd,Nat.reduceSub,d4u,d4v,d43,d4y,d3L,d3I]
 gi_wp2
 gi_loopw [3] (fun i wr=>i=.int .i64 (-1)∧J wr) (fun _ _=>0)
 case atStart=>exact ⟨rfl,h0⟩
 case round =>
  obtain ⟨rfl,hJs⟩:=hrel
  gi_wp2
  go_end0
  exact ⟨⟨_,rfl⟩,hJs⟩
theorem b9t {I:Nat→Nat→Prop} {w:World} {v:Value} {rows:List (List D)} {Bs:Nat} (hlt:∀b h,I b h→b<w.heap.size) (hv:AtD I w v (.sl 7 rows)) (hBl:Bs<w.heap.size) (hBs:w.cell? ⟨Bs,0,none⟩=some v) (hreach:rows.length * 112≤140737488351232) :
    ∃(b off:Nat) (us:List Value),us.length=rows.length * 7∧(rows≠[]→Up I b (off+rows.length * 7))∧E0 I w us rows.flatten∧(∀r∈rows,r.length=7) ∧
      ∀(F:Fence) (n:Nat),F.fn 107→F.round=none→1≤n→b5R F n Tryz.prog 107 #[.pointer (some ⟨Bs,0,none⟩)] (fun k=>#[.int .i64 ((rows.length - 1 - k:Nat):Int),.agg (((us.drop ((rows.length - 1 - k) * 7)).take 7).toArray)]) (KpB Bs b off (rows.length * 7)) rows.length w:=by
  obtain ⟨A,cap,rfl,hcap,h⟩:=hv.slice
  rcases h with rfl|⟨b,off,us,rfl,hI,hr,hl,hc,hd⟩
  · exact ⟨0,0,[],rfl,fun h=>absurd rfl h,.nil I w,fun r hr=>(by cases hr),fun F n hf hro hn l J Jx W hW hY h0 =>
      (b9s A cap F n hf hro l Bs (J 0) W ((hW.cell (p:=⟨Bs,0,none⟩) hBl).trans hBs) h0).mono fun e W' h=>⟨h.1,.inl h.2⟩⟩
  · refine ⟨b,off,us,hl,fun _=>hI,hd,hr,fun F n hf hro hn l J Jx W hW hY h0=>?_⟩
    have hbl:b<w.heap.size:=by obtain ⟨k,h1,h2⟩:=hI;exact hlt _ _ h2
    refine c2C (fun j i=>us.getD (j * 7+i) undef) F n hf hro hn l Bs b off rows.length cap hreach J Jx (fun k W1 hk hj=>?_) W ((hW.cell (p:=⟨Bs,0,none⟩) hBl).trans hBs) (fun j hj i hi=>?_) h0
    · have:=hY k W1 hk hj
      have hlen:(rows.length - 1 - k) * 7+7≤us.length:=by rw [hl,←d3U];exact d3D _ (by omega)
      have e:((us.drop ((rows.length - 1 - k) * 7)).take 7)=[us.getD ((rows.length - 1 - k) * 7+0) undef,us.getD ((rows.length - 1 - k) * 7+1) undef,us.getD ((rows.length - 1 - k) * 7+2) undef,us.getD ((rows.length - 1 - k) * 7+3) undef,us.getD ((rows.length - 1 - k) * 7+4) undef,us.getD ((rows.length - 1 - k) * 7+5) undef,us.getD ((rows.length - 1 - k) * 7+6) undef]:=by
        apply d4c
        intro i
        rw [d32]
        split
        · rename_i hi
          rw [d3y]
          have h3:(rows.length - 1 - k) * 7+i<us.length:=by omega
          have hu:∀j,(rows.length - 1 - k) * 7+j<us.length→us[(rows.length - 1 - k) * 7+j]?=some (us.getD ((rows.length - 1 - k) * 7+j) undef):=fun j hj=>by rw [d3k,d2P hj];rfl
          rw [hu i h3]
          match i,hi with
          | 0,_=>rfl
           | 1,_=>rfl
           | 2,_=>rfl
           | 3,_=>rfl
           | 4,_=>rfl
           | 5,_=>rfl
           | 6,_=>rfl
          
        · rename_i hi
          rw [d3J (by simp;omega)]
      dsimp only at this
      rw [e] at this
      exact this
    · refine (hW.cell (p:=⟨b,off+(j * 7+i),none⟩) hbl).trans ?_
      have h3:j * 7+i<us.length:=by
        have h4:j * 7+7≤rows.length * 7:=by rw [←d3U];exact d3D _ (by omega)
        omega
      have:=hc (j * 7+i) _ (d2P h3)
      rw [this,d3k,d2P h3]
      rfl
set_option maxRecDepth 100000 in
set_option maxHeartbeats 4000000 in
theorem c2D (e:Nat→Nat→Value) (F:Fence) (n:Nat) (hf:F.fn 174) (hro:F.round=none) (hn:1≤n) (l Bs b off len cap:Nat) (hreach:len * 208≤140737488351232) (J:Nat→World→Prop) (Jx:Unit→World→Prop)
  (hY:∀(k:Nat) (W:World),k<len→J k W→YieldAt F (n - 1) Tryz.prog l #[.int .i64 ((len - 1 - k:Nat):Int),.agg #[e (len - 1 - k) 0,e (len - 1 - k) 1,e (len - 1 - k) 2,e (len - 1 - k) 3,e (len - 1 - k) 4,e (len - 1 - k) 5,e (len - 1 - k) 6,e (len - 1 - k) 7,e (len - 1 - k) 8,e (len - 1 - k) 9,e (len - 1 - k) 10,e (len - 1 - k) 11,e (len - 1 - k) 12]] W fun r W' =>
   (r=.returned (.bool true)∧J (k+1) W'∧KpB Bs b off (len * 13) W W')∨(r=.returned (.bool false)∧Jx () W'))
  (W:World) (hBs:W.cell? ⟨Bs,0,none⟩=some (.slice (some ⟨b,off,none⟩) len cap)) (hc:∀j,j<len→∀i,i<13→W.cell? ⟨b,off+(j * 13+i),none⟩=some (e j i)) (h0:J 0 W) :
  CallsIn F n Tryz.prog 174 #[.func (.yield l) #[] #[],.pointer (some ⟨Bs,0,none⟩)] W fun r W'=>(∃v,r=.returned v)∧(J len W'∨Jx () W'):=by
 refine callsIn_of_wp Tryz.func174 rfl hf ?_ hro
 simp only [Tryz.ntmps174,d4j,d2X,d3g,Nat.reduceAdd,Nat.reduceSub,d4u,d4v,d43,d4y,d3L,d3I]
 gi_wp2
 gi_loopw [3] (fun i wr=>∃k r:Nat,k+r=len∧i=.int .i64 ((r:Int) - 1)∧J k wr∧KpB Bs b off (len * 13) W wr)
  (fun i _=>(intOf i+1).toNat)
 case atStart=>exact ⟨0,len,by omega,rfl,h0,KpB.refl W⟩
 case round =>
  obtain ⟨k,r,hk,rfl,hJs,hnx⟩:=hrel
  have hbx:=hnx.1 _ hBs
  cases r with
  | succ q =>
   have eq:(((q+1:Nat):Int) - 1)=(q:Int):=by omega
   have hq:len - 1 - k=q:=by omega
   rw [eq]
   have hy0:=hY k wr (by omega) hJs
   rw [hq] at hy0
   obtain ⟨fn,tmps,assign,body,hy,hR⟩:=hy0
   have h2:∀i,i<13→wr.cell? ⟨b,off+q * 13+i,none⟩=some (e q i):=fun i hi=>by rw [d3W];exact hnx.2 _ (by omega) _ (hc q (by omega) i hi)
   have c0:=h2 0 (by omega)
   have c1:=h2 1 (by omega)
   have c2:=h2 2 (by omega)
   have c3:=h2 3 (by omega)
   have c4:=h2 4 (by omega)
   have c5:=h2 5 (by omega)
   have c6:=h2 6 (by omega)
   have c7:=h2 7 (by omega)
   have c8:=h2 8 (by omega)
   have c9:=h2 9 (by omega)
   have c10:=h2 10 (by omega)
   have c11:=h2 11 (by omega)
   have c12:=h2 12 (by omega)
   clear h2 hc hY
   simp only [d4a] at c0
   have hqn:(0:Int)≤(q:Int):=by omega
   have hql:(q:Int)<(len:Int):=by omega
   have hqlt:q<len:=by omega
   gi_wp2
   refine hR.mono ?_
   rintro r W3 (⟨rfl,hJ3,hk3⟩|⟨rfl,hJx3⟩)
   ·gi_wp2
    go_roundw
    case rel=>exact ⟨k+1,q,by omega,by simp,hJ3,hnx.trans hk3⟩
    case measure=>simp [intOf]
   ·gi_wp2
    refine bodyPost_ret (results_none rfl _ _ _) rfl ?_
    exact ⟨⟨_,rfl⟩,.inr hJx3⟩
  | zero =>
   obtain rfl:k=len:=by omega
   clear hY
   gi_wp2
   go_end0
   exact ⟨⟨_,rfl⟩,.inl hJs⟩
set_option maxRecDepth 100000 in
set_option maxHeartbeats 2000000 in
theorem b9u (A:Option Addr) (cap:Nat) (F:Fence) (n:Nat) (hf:F.fn 174) (hro:F.round=none) (l Bs:Nat) (J:World→Prop) (W:World) (hBs:W.cell? ⟨Bs,0,none⟩=some (.slice A 0 cap)) (h0:J W) :
  CallsIn F n Tryz.prog 174 #[.func (.yield l) #[] #[],.pointer (some ⟨Bs,0,none⟩)] W fun e W'=>(∃v,e=.returned v)∧J W':=by
 refine callsIn_of_wp Tryz.func174 rfl hf ?_ hro
 simp only [Tryz.ntmps174,d4j,d2X,d3g,Nat.reduceAdd,Nat.reduceSub,d4u,d4v,d43,d4y,d3L,d3I]
 gi_wp2
 gi_loopw [3] (fun i wr=>i=.int .i64 (-1)∧J wr) (fun _ _=>0)
 case atStart=>exact ⟨rfl,h0⟩
 case round =>
  obtain ⟨rfl,hJs⟩:=hrel
  gi_wp2
  go_end0
  exact ⟨⟨_,rfl⟩,hJs⟩
theorem b9v {I:Nat→Nat→Prop} {w:World} {v:Value} {rows:List (List D)} {Bs:Nat} (hlt:∀b h,I b h→b<w.heap.size) (hv:AtD I w v (.sl 13 rows)) (hBl:Bs<w.heap.size) (hBs:w.cell? ⟨Bs,0,none⟩=some v) (hreach:rows.length * 208≤140737488351232) :
    ∃(b off:Nat) (us:List Value),us.length=rows.length * 13∧(rows≠[]→Up I b (off+rows.length * 13))∧E0 I w us rows.flatten∧(∀r∈rows,r.length=13) ∧
      ∀(F:Fence) (n:Nat),F.fn 174→F.round=none→1≤n→b5R F n Tryz.prog 174 #[.pointer (some ⟨Bs,0,none⟩)] (fun k=>#[.int .i64 ((rows.length - 1 - k:Nat):Int),.agg (((us.drop ((rows.length - 1 - k) * 13)).take 13).toArray)]) (KpB Bs b off (rows.length * 13)) rows.length w:=by
  obtain ⟨A,cap,rfl,hcap,h⟩:=hv.slice
  rcases h with rfl|⟨b,off,us,rfl,hI,hr,hl,hc,hd⟩
  · exact ⟨0,0,[],rfl,fun h=>absurd rfl h,.nil I w,fun r hr=>(by cases hr),fun F n hf hro hn l J Jx W hW hY h0 =>
      (b9u A cap F n hf hro l Bs (J 0) W ((hW.cell (p:=⟨Bs,0,none⟩) hBl).trans hBs) h0).mono fun e W' h=>⟨h.1,.inl h.2⟩⟩
  · refine ⟨b,off,us,hl,fun _=>hI,hd,hr,fun F n hf hro hn l J Jx W hW hY h0=>?_⟩
    have hbl:b<w.heap.size:=by obtain ⟨k,h1,h2⟩:=hI;exact hlt _ _ h2
    refine c2D (fun j i=>us.getD (j * 13+i) undef) F n hf hro hn l Bs b off rows.length cap hreach J Jx (fun k W1 hk hj=>?_) W ((hW.cell (p:=⟨Bs,0,none⟩) hBl).trans hBs) (fun j hj i hi=>?_) h0
    · have:=hY k W1 hk hj
      have hlen:(rows.length - 1 - k) * 13+13≤us.length:=by rw [hl,←d3U];exact d3D _ (by omega)
      have e:((us.drop ((rows.length - 1 - k) * 13)).take 13)=[us.getD ((rows.length - 1 - k) * 13+0) undef,us.getD ((rows.length - 1 - k) * 13+1) undef,us.getD ((rows.length - 1 - k) * 13+2) undef,us.getD ((rows.length - 1 - k) * 13+3) undef,us.getD ((rows.length - 1 - k) * 13+4) undef,us.getD ((rows.length - 1 - k) * 13+5) undef,us.getD ((rows.length - 1 - k) * 13+6) undef,us.getD ((rows.length - 1 - k) * 13+7) undef,us.getD ((rows.length - 1 - k) * 13+8) undef,us.getD ((rows.length - 1 - k) * 13+9) undef,us.getD ((rows.length - 1 - k) * 13+10) undef,us.getD ((rows.length - 1 - k) * 13+11) undef,us.getD ((rows.length - 1 - k) * 13+12) undef]:=by
        apply d4c
        intro i
        rw [d32]
        split
        · rename_i hi
          rw [d3y]
          have h3:(rows.length - 1 - k) * 13+i<us.length:=by omega
          have hu:∀j,(rows.length - 1 - k) * 13+j<us.length→us[(rows.length - 1 - k) * 13+j]?=some (us.getD ((rows.length - 1 - k) * 13+j) undef):=fun j hj=>by rw [d3k,d2P hj];rfl
          rw [hu i h3]
          match i,hi with
          | 0,_=>rfl
           | 1,_=>rfl
           | 2,_=>rfl
           | 3,_=>rfl
           | 4,_=>rfl
           | 5,_=>rfl
           | 6,_=>rfl
           | 7,_=>rfl
           | 8,_=>rfl
           | 9,_=>rfl
           | 10,_=>rfl
           | 11,_=>rfl
           | 12,_=>rfl
          
        · rename_i hi
          rw [d3J (by simp;omega)]
      dsimp only at this
      rw [e] at this
      exact this
    · refine (hW.cell (p:=⟨b,off+(j * 13+i),none⟩) hbl).trans ?_
      have h3:j * 13+i<us.length:=by
        have h4:j * 13+13≤rows.length * 13:=by rw [←d3U];exact d3D _ (by omega)
        omega
      have:=hc (j * 13+i) _ (d2P h3)
      rw [this,d3k,d2P h3]
      rfl
end Go.Proofs.YtahpnackkmbmgaaGreat.Vm
end
section
namespace Go.Proofs.YtahpnackkmbmgaaGreat.Vm
open Go.RowKit
set_option maxRecDepth 100000
set_option maxHeartbeats 4000000
section
def c2E (f sz:Nat):Prop:=∀ {I:Nat→Nat→Prop} {w:World} {v:Value} {rows:List (List D)} {Bs:Nat},(∀b h,I b h→b<w.heap.size)→AtD I w v (.sl sz rows)→Bs<w.heap.size→w.cell? ⟨Bs,0,none⟩=some v→rows.length * (sz * 16)≤140737488351232 →
  ∃(b off:Nat) (us:List Value),us.length=rows.length * sz∧(rows≠[]→Up I b (off+rows.length * sz))∧E0 I w us rows.flatten∧(∀r∈rows,r.length=sz) ∧
   ∀(F:Fence) (n:Nat),F.fn f→F.round=none→1≤n→b5R F n Tryz.prog f #[.pointer (some ⟨Bs,0,none⟩)] (fun k=>#[.int .i64 ((rows.length - 1 - k:Nat):Int),.agg (((us.drop ((rows.length - 1 - k) * sz)).take sz).toArray)]) (KpB Bs b off (rows.length * sz)) rows.length w
theorem b7O {sz:Nat} {r:List D}:∀ {rows:List (List D)} {k:Nat},(∀r∈rows,r.length=sz)→rows[k]?=some r→∀i,i<sz→rows.flatten[k * sz+i]?=r[i]?
 | [],k,_,h,_,_=>by simp at h
 | x::l,0,hr,h,i,hi=>by
  have hx:=hr x (d2V ..)
  simp only [d4V,Option.some.injEq] at h
  subst h
  rw [d3H,d5t,d3P,d3n (by omega)]
 | x::l,k+1,hr,h,i,hi=>by
  have hx:=hr x (d2V ..)
  rw [d46] at h
  have e:(k+1) * sz+i=sz+(k * sz+i):=by rw [d3U];omega
  rw [d3H,e,d3h (by omega),hx,Nat.add_sub_cancel_left]
  exact b7O (fun r hm=>hr r (d2W _ hm)) h i hi
theorem b9w {W:World} {b:Nat} {us:Array Value} {t:TypeId} {m:Nat×Nat} {i:Nat} (h:W.heap[b]?=some (.cells us t m)):W.cell? ⟨b,i,none⟩=us[i]?:=by
 show (match W.heap[b]? with|some (.cells c _ _)=>c[i]?|_=>none)=_
 rw [h]
section
variable {I0:Nat→Nat→Prop} {X:Nat→Prop} {w0:W0} {I:Nat→Nat→Prop} {g:Nat→Value} {a:Act} {w:World}
theorem b7P {f sz:Nat} (hS:c2E f sz) (eg:∀args w,(callFunc f args).run Tryz.prog w=.ok (.enter f args) w) {asg bdy:Code} {n p1 p2 gs kb:Nat} {rows:List (List D)} {t0 t:List V} {o0:List O} {st:Nat→List O} {Q:Exit→Act→World→Prop} {ks1 ks2:List Nat} (hA:w8 Tryz.prog asg=true) (hB:w8 Tryz.prog bdy=true)
  (h0:RelI I0 X w0 I g ⟨t0,o0⟩ a w) (hn:2≤n) (hgs:v7 t0 gs=.cl f [kb]) (hob:o0[kb]?=some (.box [.d (.sl sz rows)])) (hlen:rows.length * (sz * 16)≤140737488351232)
  (ht0:H0 t0 gs .jk=t) (hst:o0.set kb .dead=st 0) (ht:C0 ks2 t=t)
  (hx:∀k,k<rows.length→b5S ks1 ks2 asg bdy (H0 (H0 t p1 (vi .i64 ((rows.length - 1 - k:Nat):Int))) p2 (.ag (A7 (rows.getD (rows.length - 1 - k) [])))) (st k) (st (k+1)))
  (hQ:∀(D:Nat) (W:World) (I1:Nat→Nat→Prop) (g1:Nat→Value),w0.w.heap.size≤D→(∀k,¬I1 D k)→RelI I0 X w0 I1 g1 ⟨t,st rows.length⟩ a W→W.heap[D]?=some (.deferred (some []))→Q .normal { a with defers:={ target:=.collected D,args:=#[] }::a.defers } W) :
  (Code.rangeFunc (.tmp gs) #[p1,p2] asg bdy).wpIn (FW none) n Tryz.prog Q a w:=by
 have hcl0:=h0.get (.tmp gs)
 have h:RelI I0 X w0 I g ⟨t,o0⟩ a w:=by rw [←ht0];exact h0.reread (i:=gs) (x:=.jk) fun v _=>.jk v
 obtain ⟨b,us,ty,h1,h2,h3,h4⟩:=h.frzBox hob
 obtain ⟨v,us',rfl,hv,hnn⟩:=h3.uncons
 obtain rfl:=hnn.unnil
 have hvD:AtD I w v (.sl sz rows):=by cases hv with|d h=>exact h
 have hBs:w.cell? ⟨b,0,none⟩=some v:=b9w h2
 have hbl:b<w.heap.size:=(d3i.1 h2).1
 obtain ⟨bb,off,vs,hl,hup,hds,hr5,hseq⟩:=hS (fun b k hb=>(h.lt b k hb).1) hvD hbl hBs hlen
 have hcl:a.eval (.tmp gs)=.func (.func f) #[] #[.pointer (some ⟨b,0,none⟩)]:=by
  have h5:AtV I w g (a.eval (.tmp gs)) (.cl f [kb]):=by
   have e:(⟨t0,o0⟩:S).get (.tmp gs)=.cl f [kb]:=by
    exact hgs
   rw [←e]
   exact hcl0
  generalize a.eval (.tmp gs)=ax at h5 ⊢
  cases h5 with
  | cl f us ks hl hh =>
   match us,hl with
   | [u],_=>rw [(hh 0 u kb rfl rfl).1,h1]
 have hst0:RelI I0 X w0 (fun b' n=>I b' n∨(b'=b∧n≤1)) g ⟨t,st 0⟩ a w:=by
  rw [←hst]
  exact h4
 refine b43 (ks1:=ks1) (ks2:=ks2) (t:=t) (p1:=p1) (p2:=p2) (gf:=f) (N:=rows.length) (lb:=#[.pointer (some ⟨b,0,none⟩)])
  (u1:=fun k=>.int .i64 ((rows.length - 1 - k:Nat):Int)) (u2:=fun k=>.agg (((vs.drop ((rows.length - 1 - k) * sz)).take sz).toArray)) (Kp:=KpB b bb off (rows.length * sz)) (st:=st)
  (tk:=fun k=>H0 (H0 t p1 (vi .i64 ((rows.length - 1 - k:Nat):Int))) p2 (.ag (A7 (rows.getD (rows.length - 1 - k) []))))
  hA hB hst0 (by omega) hcl eg (hseq (FW none) (n - 1) trivial rfl (by omega)) KpB.trans (fun W l o o' _ hl ho _=>KpB.turn W l o o' hl ho) ?_ ?_ ht hx ?_
 ·intro W1 W2 hk
  refine ⟨fun v hv=>?_,fun i hi v hv=>?_⟩
  ·rw [hk b 1 (.inr ⟨rfl,d3b _⟩) 0 (by decide)]
   exact hv
  ·obtain ⟨n,hn1,hn2⟩:=hup (fun e=>by rw [e] at hi;simp at hi)
   rw [hk bb n (.inl hn2) (off+i) (by omega)]
   exact hv
 ·intro k W1 I1 g1 hk hI1 hk1 hvs
  have hlt:rows.length - 1 - k<rows.length:=by omega
  have e1:∀(ts:Array Value) (i:Nat) (u:Value),(ts.setIfInBounds i u).toList=ts.toList.set i u:=fun ts i u=>by simp
  rw [e1,e1,a1g,a1g]
  refine (hvs.set (.d (.sc _ rfl)) p1).set (Y4 ?_) p2
  refine E0.toV g1 ?_
  have h5:=(hds.drop ((rows.length - 1 - k) * sz)).take sz
  have e2:(rows.flatten.drop ((rows.length - 1 - k) * sz)).take sz=rows.getD (rows.length - 1 - k) []:=by
   have hg:rows[rows.length - 1 - k]?=some (rows.getD (rows.length - 1 - k) []):=by rw [d3k,d2P hlt];rfl
   apply d4c
   intro i
   rw [d32]
   have h6:(rows.getD (rows.length - 1 - k) []).length=sz:=hr5 _ (d3e hg)
   split
   ·rename_i hi
    rw [d3y,b7O hr5 hg i hi]
   ·rename_i hi
    rw [d3J (by omega)]
  rw [e2] at h5
  exact h5.mono (fun b j hb=>hI1 b j (.inl hb)) (fun b j hb=>hk1 b j (.inl hb))
 ·rintro D W1 hD ⟨I1,g1,q1,q2,q3,q4⟩ hd
  exact hQ D W1 I1 g1 (by rw [hD];exact h.fr.size) (fun k=>by rw [hD];exact (q2 k).2) q3 hd
end
end
section
@[reducible] noncomputable def fnB:Code:=Tryz.f45.body.getD .skip
@[reducible] noncomputable def fnC:List Code:=[M9 fnB,M9 (w9 fnB),M9 (w9 (w9 fnB)),M9 (w9 (w9 (w9 fnB))),M9 (w9 (w9 (w9 (w9 fnB))))]
@[reducible] noncomputable def fnP:Code:=M9 (w9 (w9 (w9 (w9 (w9 fnB)))))
@[reducible] noncomputable def fnE:Code:=w9 (w9 (w9 (w9 (w9 (w9 fnB)))))
theorem d0c:Tryz.f45.body=some (b0G fnC (.seq (.seq (M9 fnP) (.block 0 (.rangeFunc (.tmp 26) #[27,28] (a2n (w9 fnP)) (a2o (w9 fnP))))) fnE)):=by kernel_rfl
theorem d0d:(Tryz.f45.name != "runtime.NumGoroutine")=true:=by kernel_rfl
theorem d0e:fnC.all (w8 Tryz.prog)=true:=by kernel_rfl
theorem d0f:w8 Tryz.prog (M9 fnP)=true:=by kernel_rfl
theorem d0g:w8 Tryz.prog fnE=true:=by kernel_rfl
theorem d0h:P3 Tryz.f45.results.toList=true:=by kernel_rfl
theorem d0i:w8 Tryz.prog (a2n (w9 fnP))=true:=by kernel_rfl
theorem d0j:w8 Tryz.prog (a2o (w9 fnP))=true:=by kernel_rfl
def fnT (L pl L1:Int) (r:Bool) (u v c:V) (rows:List (List D)) (x:Nat→D):List V:=[.ptr 0 0,vi .i64 L,vi .i64 pl,vb r,.tu [],.tu [],.ptr 2 0,.ptr 3 0,.ptr 4 0,.ptr 5 0,.d (.sl 7 rows),.ptr 6 0,.tu [],.tu [],.tu [],vb r,u,v,.ptr 0 0,vi .i64 L,.d (.sl 7 rows),.ptr 0 0,vi .i64 L,vi .i64 L1,.ag (A7 (cE x)),.d (.sl 7 rows),c,.tu [],.tu [],.tu [],.tu [],.tu [],.tu [],.tu [],.tu [],.tu [],.tu [],.tu [],.tu [],.tu [],.tu [],.tu [],.tu [],.tu [],.tu [],.tu [],.tu [],.tu [],.tu [],.tu [],.tu []]
def fnO (T:List (List D)) (s:ST) (pl:Int) (r:Bool) (w:ByteArray) (x:Nat→D) (b:O):List O:=[.box [.ptr 1 0,vi .u8 s.1,vi .i64 s.2.1],.box [.d (.sl 4 T),vi .i64 s.2.2],.box [vi .i64 pl],.box [vb r],.box [vi .u8 0,vs ⟨#[]⟩,vs ⟨#[]⟩,vi .i64 0,vb false,vi .u8 0,vs ⟨#[]⟩,vi .i64 0,.em,.em,.em],.box [vs w],.box (A7 (cE x)),.dead,b]
section
variable {T:List (List D)} {L pl L1:Int}
theorem c4O {s0 s2 s3:ST} {x:Nat→D} {rows:List (List D)} (hL1:0≤L) (hL2:L≤1048576) (hL:L1=L+1) (h2:C5 78 [vi .i64 L] T s0 [.d (.sl 7 rows)] s2) (h3:C5 19 [vi .i64 (L+1)] T s2 [.ag (A7 (cE x))] s3) (P:S→Prop) (hP:P ⟨fnT L pl L1 false (.tu []) (.tu []) (.cl 107 [8]) rows x,fnO T s3 pl false ⟨#[]⟩ x (.box [.d (.sl 7 rows)])⟩):∀qa qb qc qd qe qg qh qi qj qk ql qm qo qp qq qt qu qv qw qx qy qz va vc vd ve vf vg vh vj vk vl vm vn vo vp vq vr vt vu vv vw vx,Ar.mk qa qb qc qd qe qg qh qi qj qk ql qm qo qp qq qt qu qv qw qx qy qz va vc vd ve vf vg vh vj vk vl vm vn vo vp vq vr vt vu vv vw vx=f7→E1 (Ar.mk qa qb qc qd qe qg qh qi qj qk ql qm qo qp qq qt qu qv qw qx qy qz va vc vd ve vf vg vh vj vk vl vm vn vo vp vq vr vt vu vv vw vx) (b0G fnC (M9 fnP)) (a2D [.ptr 0 0,vi .i64 L,vi .i64 pl,vb false] (eyT T s0) (Tryz.f45.ntmps - F4 [V.ptr 0 0,vi .i64 L,vi .i64 pl,vb false])) (fun x s=>x=.normal∧P s):=by
 intro qa qb qc qd qe qg qh qi qj qk ql qm qo qp qq qt qu qv qw qx qy qz va vc vd ve vf vg vh vj vk vl vm vn vo vp vq vr vt vu vv vw vx hA
 obtain ⟨_,_,_⟩:=s0
 obtain ⟨_,_,_⟩:=s2
 obtain ⟨_,_,_⟩:=s3
 rw [←hL] at h3
 obtain ⟨e1,e2,e3,e4,e5,e6,e7,e8,e9⟩:=j7 hA
 have qL:qa .i64 (qb L 1)=L1:=by rw [e1,e2,IntWalk.i64_in _ (by omega)];exact hL.symm
 iterate 2 (try cbv;repeat ((first|with_reducible apply f8 hA|rw [qL]|refine A4 hA [0,1] h2 ?_|refine A4 hA [0,1] h3 ?_|refine a93 hA Tryz.func79 rfl (by kernel_rfl) (by kernel_rfl) (by kernel_rfl) ?_);cbv))
 try simp (maxSteps:=4000000) only [nc] at *
 exact hP
theorem c4P {s0 s1 s2 s3:ST} {w:ByteArray} {x:Nat→D} {rows:List (List D)} (hL1:0≤L) (hL2:L≤1048576) (hL:L1=L+1) (h1:C5 30 [] T s0 [vs w] s1) (h2:C5 78 [vi .i64 L] T s1 [.d (.sl 7 rows)] s2) (h3:C5 19 [vi .i64 (L+1)] T s2 [.ag (A7 (cE x))] s3) (P:S→Prop) (hP:P ⟨fnT L pl L1 true (.ptr 0 0) (vs w) (.cl 107 [8]) rows x,fnO T s3 pl true w x (.box [.d (.sl 7 rows)])⟩):∀qa qb qc qd qe qg qh qi qj qk ql qm qo qp qq qt qu qv qw qx qy qz va vc vd ve vf vg vh vj vk vl vm vn vo vp vq vr vt vu vv vw vx,Ar.mk qa qb qc qd qe qg qh qi qj qk ql qm qo qp qq qt qu qv qw qx qy qz va vc vd ve vf vg vh vj vk vl vm vn vo vp vq vr vt vu vv vw vx=f7→E1 (Ar.mk qa qb qc qd qe qg qh qi qj qk ql qm qo qp qq qt qu qv qw qx qy qz va vc vd ve vf vg vh vj vk vl vm vn vo vp vq vr vt vu vv vw vx) (b0G fnC (M9 fnP)) (a2D [.ptr 0 0,vi .i64 L,vi .i64 pl,vb true] (eyT T s0) (Tryz.f45.ntmps - F4 [V.ptr 0 0,vi .i64 L,vi .i64 pl,vb true])) (fun x s=>x=.normal∧P s):=by
 intro qa qb qc qd qe qg qh qi qj qk ql qm qo qp qq qt qu qv qw qx qy qz va vc vd ve vf vg vh vj vk vl vm vn vo vp vq vr vt vu vv vw vx hA
 obtain ⟨_,_,_⟩:=s0
 obtain ⟨_,_,_⟩:=s1
 obtain ⟨_,_,_⟩:=s2
 obtain ⟨_,_,_⟩:=s3
 rw [←hL] at h3
 obtain ⟨e1,e2,e3,e4,e5,e6,e7,e8,e9⟩:=j7 hA
 have qL:qa .i64 (qb L 1)=L1:=by rw [e1,e2,IntWalk.i64_in _ (by omega)];exact hL.symm
 iterate 2 (try cbv;repeat ((first|with_reducible apply f8 hA|rw [qL]|refine A4 hA [0,1] h1 ?_|refine A4 hA [0,1] h2 ?_|refine A4 hA [0,1] h3 ?_|refine a93 hA Tryz.func79 rfl (by kernel_rfl) (by kernel_rfl) (by kernel_rfl) ?_);cbv))
 try simp (maxSteps:=4000000) only [nc] at *
 exact hP
theorem d0k {s:ST} {rows:List (List D)} {u v:V} {w nm:ByteArray} {an:Bool} {x0 x z y:Nat→D} {at_ i:Int} {r:Bool} (hi:i≠0) (ho:OvA 35 ⟨#[]⟩ nm 0 an y at_ [cE x] z):∀qa qb qc qd qe qg qh qi qj qk ql qm qo qp qq qt qu qv qw qx qy qz va vc vd ve vf vg vh vj vk vl vm vn vo vp vq vr vt vu vv vw vx,Ar.mk qa qb qc qd qe qg qh qi qj qk ql qm qo qp qq qt qu qv qw qx qy qz va vc vd ve vf vg vh vj vk vl vm vn vo vp vq vr vt vu vv vw vx=f7→E1 (Ar.mk qa qb qc qd qe qg qh qi qj qk ql qm qo qp qq qt qu qv qw qx qy qz va vc vd ve vf vg vh vj vk vl vm vn vo vp vq vr vt vu vv vw vx) (a2n (w9 fnP)) ⟨H0 (H0 (fnT L pl L1 r u v .jk rows x0) 27 (vi .i64 i)) 28 (.ag (A7 [.sc (.string nm),.sc (.bool an),y 0,y 1,y 2,y 3,.sc (.int .i64 at_)])),A1 (fnO T s pl r w x .dead) (.kl [])⟩
  (fun e s1=>e=.normal∧a1N (fnO T s pl r w x .dead) s1.o=true∧E1 (Ar.mk qa qb qc qd qe qg qh qi qj qk ql qm qo qp qq qt qu qv qw qx qy qz va vc vd ve vf vg vh vj vk vl vm vn vo vp vq vr vt vu vv vw vx) (a2o (w9 fnP)) ⟨s1.t,A1 s1.o (.kl [])⟩ (fun e s2=>e=.normal∧a9U [] [] 9 (fnO T s pl r w x .dead) (fnO T s pl r w z .dead) (r8 s1.o) s2)):=by
 intro qa qb qc qd qe qg qh qi qj qk ql qm qo qp qq qt qu qv qw qx qy qz va vc vd ve vf vg vh vj vk vl vm vn vo vp vq vr vt vu vv vw vx hA
 obtain ⟨_,_,_⟩:=s
 obtain ⟨e1,e2,e3,e4,e5,e6,e7,e8,e9⟩:=j7 hA
 have q1:qk i 0=false:=by rw [e9];exact d2U hi
 have o0:=ho;exact I5
theorem d0l {s:ST} {rows:List (List D)} {u v:V} {w nm:ByteArray} {an:Bool} {x0 x z y:Nat→D} {at_  : Int} (ho:OvA 35 ⟨#[]⟩ nm 0 an y pl [cE x] z):∀qa qb qc qd qe qg qh qi qj qk ql qm qo qp qq qt qu qv qw qx qy qz va vc vd ve vf vg vh vj vk vl vm vn vo vp vq vr vt vu vv vw vx,Ar.mk qa qb qc qd qe qg qh qi qj qk ql qm qo qp qq qt qu qv qw qx qy qz va vc vd ve vf vg vh vj vk vl vm vn vo vp vq vr vt vu vv vw vx=f7→E1 (Ar.mk qa qb qc qd qe qg qh qi qj qk ql qm qo qp qq qt qu qv qw qx qy qz va vc vd ve vf vg vh vj vk vl vm vn vo vp vq vr vt vu vv vw vx) (a2n (w9 fnP)) ⟨H0 (H0 (fnT L pl L1 false u v .jk rows x0) 27 (vi .i64 0)) 28 (.ag (A7 [.sc (.string nm),.sc (.bool an),y 0,y 1,y 2,y 3,.sc (.int .i64 at_)])),A1 (fnO T s pl false w x .dead) (.kl [])⟩
  (fun e s1=>e=.normal∧a1N (fnO T s pl false w x .dead) s1.o=true∧E1 (Ar.mk qa qb qc qd qe qg qh qi qj qk ql qm qo qp qq qt qu qv qw qx qy qz va vc vd ve vf vg vh vj vk vl vm vn vo vp vq vr vt vu vv vw vx) (a2o (w9 fnP)) ⟨s1.t,A1 s1.o (.kl [])⟩ (fun e s2=>e=.normal∧a9U [] [] 9 (fnO T s pl false w x .dead) (fnO T s pl false w z .dead) (r8 s1.o) s2)):=by
 intro qa qb qc qd qe qg qh qi qj qk ql qm qo qp qq qt qu qv qw qx qy qz va vc vd ve vf vg vh vj vk vl vm vn vo vp vq vr vt vu vv vw vx hA
 obtain ⟨_,_,_⟩:=s
 obtain ⟨e1,e2,e3,e4,e5,e6,e7,e8,e9⟩:=j7 hA
 have q1:qk 0 0=true:=by rw [e9];rfl
 have o0:=ho;exact I5
theorem d0m {s:ST} {rows:List (List D)} {u v:V} {w nm:ByteArray} {an:Bool} {x0 x z y:Nat→D} {at_  : Int} (ho:OvA 36 w nm 0 an y pl [cE x] z):∀qa qb qc qd qe qg qh qi qj qk ql qm qo qp qq qt qu qv qw qx qy qz va vc vd ve vf vg vh vj vk vl vm vn vo vp vq vr vt vu vv vw vx,Ar.mk qa qb qc qd qe qg qh qi qj qk ql qm qo qp qq qt qu qv qw qx qy qz va vc vd ve vf vg vh vj vk vl vm vn vo vp vq vr vt vu vv vw vx=f7→E1 (Ar.mk qa qb qc qd qe qg qh qi qj qk ql qm qo qp qq qt qu qv qw qx qy qz va vc vd ve vf vg vh vj vk vl vm vn vo vp vq vr vt vu vv vw vx) (a2n (w9 fnP)) ⟨H0 (H0 (fnT L pl L1 true u v .jk rows x0) 27 (vi .i64 0)) 28 (.ag (A7 [.sc (.string nm),.sc (.bool an),y 0,y 1,y 2,y 3,.sc (.int .i64 at_)])),A1 (fnO T s pl true w x .dead) (.kl [])⟩
  (fun e s1=>e=.normal∧a1N (fnO T s pl true w x .dead) s1.o=true∧E1 (Ar.mk qa qb qc qd qe qg qh qi qj qk ql qm qo qp qq qt qu qv qw qx qy qz va vc vd ve vf vg vh vj vk vl vm vn vo vp vq vr vt vu vv vw vx) (a2o (w9 fnP)) ⟨s1.t,A1 s1.o (.kl [])⟩ (fun e s2=>e=.normal∧a9U [] [] 9 (fnO T s pl true w x .dead) (fnO T s pl true w z .dead) (r8 s1.o) s2)):=by
 intro qa qb qc qd qe qg qh qi qj qk ql qm qo qp qq qt qu qv qw qx qy qz va vc vd ve vf vg vh vj vk vl vm vn vo vp vq vr vt vu vv vw vx hA
 obtain ⟨_,_,_⟩:=s
 obtain ⟨e1,e2,e3,e4,e5,e6,e7,e8,e9⟩:=j7 hA
 have q1:qk 0 0=true:=by rw [e9];rfl
 iterate 2 (try cbv;repeat ((first|with_reducible apply f8 hA|rw [q1]|refine rdx hA [] ho ?_|refine A6 hA true ?_|refine a8u hA [] (by kernel_rfl) ?_);cbv))
 try simp (maxSteps:=4000000) only [nc] at *
 repeat' (first
  | (with_reducible apply And.intro)
  | ((with_reducible apply f8 hA);cbv)
  | (refine a6v hA [] ho ⟨rfl,rfl,rfl,rfl,rfl,rfl,rfl⟩ rfl ?_;rintro _ rfl;cbv)
  | (refine A6 hA true ?_;cbv)
  )
theorem c7H {s:ST} {rows:List (List D)} {u v:V} {r:Bool} {w:ByteArray} {x0 z:Nat→D}:∀qa qb qc qd qe qg qh qi qj qk ql qm qo qp qq qt qu qv qw qx qy qz va vc vd ve vf vg vh vj vk vl vm vn vo vp vq vr vt vu vv vw vx,Ar.mk qa qb qc qd qe qg qh qi qj qk ql qm qo qp qq qt qu qv qw qx qy qz va vc vd ve vf vg vh vj vk vl vm vn vo vp vq vr vt vu vv vw vx=f7→E1 (Ar.mk qa qb qc qd qe qg qh qi qj qk ql qm qo qp qq qt qu qv qw qx qy qz va vc vd ve vf vg vh vj vk vl vm vn vo vp vq vr vt vu vv vw vx) fnE ⟨fnT L pl L1 r u v .jk rows x0,A1 (fnO T s pl r w z .dead) (.kl [])⟩
  (fun x s2=>c2B 2 Tryz.f45.results.toList (fun res os=>res=[.ag (A7 (cE z))]∧os=eyT T s) 9 [] x s2):=by
 intro _ _ _ _ _ _ _ _ _ _ _ _ _ _ _ _ _ _ _ _ _ _ _ _ _ _ _ _ _ _ _ _ _ _ _ _ _ _ _ _ _ vw _ hA
 obtain ⟨_,_,_⟩:=s
 try cbv;refine gr ?_;try simp only [nc] at *
 exact ⟨[0,1],[.ag (A7 (cE z))],_,⟨rfl,rfl,rfl,rfl,rfl,rfl,rfl,rfl⟩,rfl,rfl⟩
theorem c4Q:c2E 107 7:=fun h1 h2 h3 h4 h5=>b9t h1 h2 h3 h4 h5
theorem b4H {s0 s1 s2 s3:ST} {r:Bool} {w:ByteArray} {rows:List (List D)} (acc:Nat→Nat→D) (hN:rows.length≤1048576) (hL1:0≤L) (hL2:L≤1048576)
  (hst:∀k,k<rows.length→∃(nm:ByteArray) (an:Bool) (y:Nat→D) (at_:Int),rows[rows.length - 1 - k]?=some [.sc (.string nm),.sc (.bool an),y 0,y 1,y 2,y 3,.sc (.int .i64 at_)] ∧
   OvA (if rows.length - 1 - k=0∧r=true then 36 else 35) (if rows.length - 1 - k=0∧r=true then w else ⟨#[]⟩) nm 0 an y (if rows.length - 1 - k=0 then pl else at_) [cE (acc k)] (acc (k+1)))
  (h1:r=false∧w=⟨#[]⟩∧s1=s0∨r=true∧C5 30 [] T s0 [vs w] s1) (h2:C5 78 [vi .i64 L] T s1 [.d (.sl 7 rows)] s2) (h3:C5 19 [vi .i64 (L+1)] T s2 [.ag (A7 (cE (acc 0)))] s3) :
  C5 45 [vi .i64 L,vi .i64 pl,vb r] T s0 [.ag (A7 (cE (acc rows.length)))] s3:=by
 refine a7U (Pre:=fun s=>∃u v,s=⟨fnT L pl (L+1) r u v (.cl 107 [8]) rows (acc 0),fnO T s3 pl r w (acc 0) (.box [.d (.sl 7 rows)])⟩) Tryz.func45 d0c d0d d0e d0f ?_ ?_
 ·rcases h1 with ⟨rfl,rfl,rfl⟩|⟨rfl,h1⟩
  ·exact c4O hL1 hL2 rfl h2 h3 _ ⟨_,_,rfl⟩ _ _ _ _ _ _ _ _ _ _ _ _ _ _ _ _ _ _ _ _ _ _ _ _ _ _ _ _ _ _ _ _ _ _ _ _ _ _ _ _ _ _ _ rfl
  ·exact c4P hL1 hL2 rfl h1 h2 h3 _ ⟨_,_,rfl⟩ _ _ _ _ _ _ _ _ _ _ _ _ _ _ _ _ _ _ _ _ _ _ _ _ _ _ _ _ _ _ _ _ _ _ _ _ _ _ _ _ _ _ _ rfl
 ·intro I I' g0 g w1 W s a hP h
  obtain ⟨u,v,rfl⟩:=hP
  refine b7P (ks1:=[]) (ks2:=[]) (st:=fun k=>fnO T s3 pl r w (acc k) .dead) (rows:=rows) (kb:=8) (gs:=26) c4Q (enters_of Tryz.func107 (by kernel_rfl) rfl) d0i d0j h (by decide) rfl rfl (by omega) rfl rfl rfl ?_ ?_
  ·intro k hk
   obtain ⟨nm,an,y,at_,hr,ho⟩:=hst k hk
   have hg:rows.getD (rows.length - 1 - k) []=[.sc (.string nm),.sc (.bool an),y 0,y 1,y 2,y 3,.sc (.int .i64 at_)]:=by rw [d3k,hr];rfl
   rw [hg]
   by_cases hz:rows.length - 1 - k=0
   ·rw [hz] at ho ⊢
    cases r with
    | false =>
     rw [d2T (by simp),d2T (by simp),d2S rfl] at ho
     exact d0l ho _ _ _ _ _ _ _ _ _ _ _ _ _ _ _ _ _ _ _ _ _ _ _ _ _ _ _ _ _ _ _ _ _ _ _ _ _ _ _ _ _ _ _ rfl
    | true =>
     rw [d2S (by simp),d2S (by simp),d2S rfl] at ho
     exact d0m ho _ _ _ _ _ _ _ _ _ _ _ _ _ _ _ _ _ _ _ _ _ _ _ _ _ _ _ _ _ _ _ _ _ _ _ _ _ _ _ _ _ _ _ rfl
   ·rw [d2T (fun h=>hz h.1),d2T (fun h=>hz h.1),d2T hz] at ho
    exact d0k (by omega) ho _ _ _ _ _ _ _ _ _ _ _ _ _ _ _ _ _ _ _ _ _ _ _ _ _ _ _ _ _ _ _ _ _ _ _ _ _ _ _ _ _ _ _ rfl
  ·intro D W1 I1 g1 hD0 hID q3 hd
   refine b0j (kl:=[]) d0g d0h q3 hID hD0 hd ?_
   exact c7H _ _ _ _ _ _ _ _ _ _ _ _ _ _ _ _ _ _ _ _ _ _ _ _ _ _ _ _ _ _ _ _ _ _ _ _ _ _ _ _ _ _ _ rfl
end
end
section
@[reducible] noncomputable def fdB:Code:=Tryz.f166.body.getD .skip
@[reducible] noncomputable def fdC:List Code:=[M9 fdB,M9 (w9 fdB),M9 (w9 (w9 fdB)),M9 (w9 (w9 (w9 fdB))),M9 (w9 (w9 (w9 (w9 fdB)))),M9 (w9 (w9 (w9 (w9 (w9 fdB))))),M9 (w9 (w9 (w9 (w9 (w9 (w9 fdB))))))]
@[reducible] noncomputable def fdP:Code:=M9 (w9 (w9 (w9 (w9 (w9 (w9 (w9 fdB)))))))
@[reducible] noncomputable def fdE:Code:=w9 (w9 (w9 (w9 (w9 (w9 (w9 (w9 fdB)))))))
theorem d0n:Tryz.f166.body=some (b0G fdC (.seq (.seq (M9 fdP) (.block 2 (.rangeFunc (.tmp 56) #[57,58] (a2n (w9 fdP)) (a2o (w9 fdP))))) fdE)):=by kernel_rfl
theorem d0o:(Tryz.f166.name != "runtime.NumGoroutine")=true:=by kernel_rfl
theorem d0p:fdC.all (w8 Tryz.prog)=true:=by kernel_rfl
theorem d0q:w8 Tryz.prog (M9 fdP)=true:=by kernel_rfl
theorem d0r:w8 Tryz.prog fdE=true:=by kernel_rfl
theorem d0s:P3 Tryz.f166.results.toList=true:=by kernel_rfl
theorem d0t:w8 Tryz.prog (a2n (w9 fdP))=true:=by kernel_rfl
theorem d0u:w8 Tryz.prog (a2o (w9 fdP))=true:=by kernel_rfl
abbrev c13 (w:ByteArray) (p:Int) (x:Nat→D):List D:=.sc (.string w)::.sc (.int .i64 p)::cE x
abbrev C6:ByteArray:=⟨#[61]⟩
abbrev J1:ByteArray:=⟨#[44]⟩
abbrev H6:ByteArray:=⟨#[124]⟩
abbrev U6:ByteArray:=⟨#[125]⟩
def d0v (T:List (List D)) (L:Int) (inv:ST→List (List D)→Nat→Prop) (e q a:Int) (R:List (List D)) (m:Nat):Prop:=∃(s3 s4 s5 s6:ST) (p3:Int) (w3:ByteArray) (y:Nat→D) (m2:Nat),C5 44 [vs J1] T (e,q,a) [vb true] s3∧C5 29 [] T s3 [vi .i64 p3] s3∧C5 30 [] T s3 [vs w3] s4∧C5 28 [vs C6] T s4 [] s5∧C5 19 [vi .i64 (L+1)] T s5 [.ag (A7 (cE y))] s6∧inv s6 (R++[c13 w3 p3 y]) m2∧m2<m
def c5O (T:List (List D)) (L:Int) (sf:ST) (z:Nat→D) (e q a:Int):Prop:=∃(s7:ST) (p:Int) (z0:Nat→D),C5 44 [vs J1] T (e,q,a) [vb false] (e,q,a)∧C5 29 [] T (e,q,a) [vi .i64 p] (e,q,a)∧LfN 41 ⟨#[]⟩ 0 p z0∧(C5 44 [vs H6] T (e,q,a) [vb false] (e,q,a)∧s7=(e,q,a)∧z=z0∨∃s6,C5 44 [vs H6] T (e,q,a) [vb true] s6∧C5 19 [vi .i64 (L+1)] T s6 [.ag (A7 (cE z))] s7)∧C5 28 [vs U6] T s7 [] sf
def fdT (c:V) (u:Nat→V):List V:=[u 0,u 1,u 2,u 3,u 4,u 5,u 6,u 7,.ptr 2 0,u 9,u 10,.ptr 4 0,u 12,u 13,u 14,u 15,u 16,u 17,u 18,u 19,u 20,u 21,u 22,u 23,u 24,u 25,u 26,u 27,u 28,u 29,u 30,u 31,u 32,u 33,u 34,u 35,u 36,u 37,u 38,u 39,u 40,u 41,u 42,u 43,u 44,u 45,u 46,u 47,u 48,u 49,u 50,u 51,u 52,u 53,u 54,u 55,c,u 57,u 58,u 59,u 60,u 61,u 62,u 63,u 64,u 65,u 66,u 67,u 68,u 69]
def fdO (T:List (List D)) (s:ST) (rows:List (List D)) (x:Nat→D) (b:O):List O:=[.box [.ptr 1 0,vi .u8 s.1,vi .i64 s.2.1],.box [.d (.sl 4 T),vi .i64 s.2.2],.box [vi .u8 0,vs ⟨#[]⟩,vs ⟨#[]⟩,vi .i64 0,vb false,vi .u8 0,vs ⟨#[]⟩,vi .i64 0,.em,.em,.em],.row true 203 rows,.box (A7 (cE x)),.dead,b]
section
variable {T:List (List D)} {L pl:Int}
theorem c7I {s0 s1 s2 sf:ST} {w:ByteArray} {x z:Nat→D} {Rf:List (List D)} {m0:Nat} (hL1:0≤L) (hL2:L≤1048576) (inv:ST→List (List D)→Nat→Prop) (h0:C5 28 [vs C6] T s0 [] s1) (h1:C5 19 [vi .i64 (L+1)] T s1 [.ag (A7 (cE x))] s2) (hi0:inv s2 [c13 w pl x] m0)
  (hst:∀(e q a:Int) (R:List (List D)) (m:Nat),inv (e,q,a) R m→R.length<1048576∧(d0v T L inv e q a R m∨c5O T L sf z e q a∧R=Rf)) (P:S→Prop) (hP:∀tt,tt=fdT (.cl 174 [6]) (v7 tt)→P ⟨tt,fdO T sf Rf z (.box [.d (.sl 13 Rf)])⟩) :
  ∀qa qb qc qd qe qg qh qi qj qk ql qm qo qp qq qt qu qv qw qx qy qz va vc vd ve vf vg vh vj vk vl vm vn vo vp vq vr vt vu vv vw vx,Ar.mk qa qb qc qd qe qg qh qi qj qk ql qm qo qp qq qt qu qv qw qx qy qz va vc vd ve vf vg vh vj vk vl vm vn vo vp vq vr vt vu vv vw vx=f7→E1 (Ar.mk qa qb qc qd qe qg qh qi qj qk ql qm qo qp qq qt qu qv qw qx qy qz va vc vd ve vf vg vh vj vk vl vm vn vo vp vq vr vt vu vv vw vx) (b0G fdC (M9 fdP)) (a2D [.ptr 0 0,vi .i64 L,vi .i64 pl,vs w] (eyT T s0) (Tryz.f166.ntmps - F4 [V.ptr 0 0,vi .i64 L,vi .i64 pl,vs w])) (fun x s=>x=.normal∧P s):=by
 intro qa qb qc qd qe qg qh qi qj qk ql qm qo qp qq qt qu qv qw qx qy qz va vc vd ve vf vg vh vj vk vl vm vn vo vp vq vr vt vu vv vw vx hA
 obtain ⟨_,_,_⟩:=s0
 obtain ⟨_,_,_⟩:=s1
 obtain ⟨a2,b2,d2⟩:=s2
 obtain ⟨_,_,_⟩:=sf
 obtain ⟨L1,hL⟩:∃L1,L1=L+1:=⟨_,rfl⟩
 rw [←hL] at h1
 obtain ⟨e1,e2,e3,e4,e5,e6,e7,e8,e9⟩:=j7 hA
 obtain ⟨r1,r2,r3,r4⟩:=A8 hA
 have qL:qa .i64 (qb L 1)=L1:=by rw [e1,e2,IntWalk.i64_in _ (by omega)];exact hL.symm
 iterate 2 (try cbv;repeat ((first|with_reducible apply f8 hA|rw [qL]|refine A4 hA [0,1] h0 ?_|refine A4 hA [0,1] h1 ?_|refine A6 hA false ?_|refine a1E hA true ?_);cbv))
 try simp (maxSteps:=4000000) only [nc] at *
 refine j9 hA (γ:=ST×List (List D)×Nat) (fun x=>[(9,.own 3),(10,.jk),(23,.jk)]) (fun x=>[(0,.box [.ptr 1 0,vi .u8 x.1.1,vi .i64 x.1.2.1]),(1,.box [.d (.sl 4 T),vi .i64 x.1.2.2]),(3,.row true 203 x.2.1)]) (fun x=>inv x.1 x.2.1 x.2.2) (fun x=>x.2.2) ((a2,b2,d2),[c13 w pl x],m0) ?_ ?_ ?_
 ·exact hi0
 ·cbv
 ·intro x hinv
  obtain ⟨⟨e,q,a⟩,R,m⟩:=x
  obtain ⟨hlen,hs⟩:=hst e q a R m hinv
  rcases hs with ⟨s3,s4,s5,s6,p3,w3,y,m2,k1,k2,k3,k4,k5,hi2,hm2⟩|⟨⟨s7,p,z0,k1,k2,k3,k4,k5⟩,hR⟩
  ·obtain ⟨_,_,_⟩:=s3
   obtain ⟨_,_,_⟩:=s4
   obtain ⟨_,_,_⟩:=s5
   obtain ⟨a6,b6,d6⟩:=s6
   rw [←hL] at k5
   have g3:ve R [c13 w3 p3 y]=R++[c13 w3 p3 y]:=by rw [r4]
   obtain ⟨R2,hR2⟩:∃R2,R2=R++[c13 w3 p3 y]:=⟨_,rfl⟩
   rw [←hR2] at g3 hi2
   iterate 2 (try cbv;repeat ((first|with_reducible apply f8 hA|rw [g3]|rw [qL]|refine A4 hA [0,1] k1 ?_|refine A4 hA [0,1] k2 ?_|refine A4 hA [0,1] k3 ?_|refine A4 hA [0,1] k4 ?_|refine A4 hA [0,1] k5 ?_|refine A6 hA true ?_|(refine B3 hA (by simp only [d2X,d3g];omega) ?_));cbv))
   try simp (maxSteps:=4000000) only [nc] at *
   refine ⟨((a6,b6,d6),R2,m2),hi2,hm2,?_⟩
   cbv
  ·subst hR
   obtain ⟨_,_,_⟩:=s7
   rcases k4 with ⟨k4,hs7,rfl⟩|⟨s6,k4,k6⟩
   ·injection hs7 with f1 f2
    injection f2 with f2 f3
    subst f1 f2 f3
    iterate 2 (try cbv;repeat ((first|refine a12 hA 9 3 (.sl 13 R) rfl rfl ?_|with_reducible apply f8 hA|refine A4 hA [0,1] k1 ?_|refine A4 hA [0,1] k2 ?_|refine A4 hA [0,1] k4 ?_|refine A4 hA [0,1] k5 ?_|refine rdx hA [] k3 ?_|refine a93 hA Tryz.func172 rfl (by kernel_rfl) (by kernel_rfl) (by kernel_rfl) ?_);cbv))
    try simp (maxSteps:=4000000) only [nc] at *
    exact hP _ rfl
   ·obtain ⟨_,_,_⟩:=s6
    rw [←hL] at k6
    iterate 2 (try cbv;repeat ((first|refine a12 hA 9 3 (.sl 13 R) rfl rfl ?_|with_reducible apply f8 hA|rw [qL]|refine A4 hA [0,1] k1 ?_|refine A4 hA [0,1] k2 ?_|refine A4 hA [0,1] k4 ?_|refine A4 hA [0,1] k6 ?_|refine A4 hA [0,1] k5 ?_|refine rdx hA [] k3 ?_|refine a93 hA Tryz.func172 rfl (by kernel_rfl) (by kernel_rfl) (by kernel_rfl) ?_);cbv))
    try simp (maxSteps:=4000000) only [nc] at *
    exact hP _ rfl
theorem c2G {s:ST} {rows:List (List D)} {u:Nat→V} {nm:ByteArray} {x z y:Nat→D} {at_ i:Int} (ho:OvN 42 nm ⟨#[]⟩ 0 false at_ [cE y,cE x] z):∀qa qb qc qd qe qg qh qi qj qk ql qm qo qp qq qt qu qv qw qx qy qz va vc vd ve vf vg vh vj vk vl vm vn vo vp vq vr vt vu vv vw vx,Ar.mk qa qb qc qd qe qg qh qi qj qk ql qm qo qp qq qt qu qv qw qx qy qz va vc vd ve vf vg vh vj vk vl vm vn vo vp vq vr vt vu vv vw vx=f7→E1 (Ar.mk qa qb qc qd qe qg qh qi qj qk ql qm qo qp qq qt qu qv qw qx qy qz va vc vd ve vf vg vh vj vk vl vm vn vo vp vq vr vt vu vv vw vx) (a2n (w9 fdP)) ⟨H0 (H0 (fdT .jk u) 57 (vi .i64 i)) 58 (.ag (A7 (c13 nm at_ y))),A1 (fdO T s rows x .dead) (.kl [])⟩
  (fun e s1=>e=.normal∧a1N (fdO T s rows x .dead) s1.o=true∧E1 (Ar.mk qa qb qc qd qe qg qh qi qj qk ql qm qo qp qq qt qu qv qw qx qy qz va vc vd ve vf vg vh vj vk vl vm vn vo vp vq vr vt vu vv vw vx) (a2o (w9 fdP)) ⟨s1.t,A1 s1.o (.kl [])⟩ (fun e s2=>e=.normal∧a9U [] [] 7 (fdO T s rows x .dead) (fdO T s rows z .dead) (r8 s1.o) s2)):=by
 intro _ _ _ _ _ _ _ _ _ _ _ _ _ _ _ _ _ _ _ _ _ _ _ _ _ _ _ _ _ _ _ _ _ _ _ _ _ _ _ _ _ vw _ hA
 obtain ⟨_,_,_⟩:=s
 have o0:=ho;exact I5
theorem c7J {s:ST} {rows:List (List D)} {u:Nat→V} {z:Nat→D}:∀qa qb qc qd qe qg qh qi qj qk ql qm qo qp qq qt qu qv qw qx qy qz va vc vd ve vf vg vh vj vk vl vm vn vo vp vq vr vt vu vv vw vx,Ar.mk qa qb qc qd qe qg qh qi qj qk ql qm qo qp qq qt qu qv qw qx qy qz va vc vd ve vf vg vh vj vk vl vm vn vo vp vq vr vt vu vv vw vx=f7→E1 (Ar.mk qa qb qc qd qe qg qh qi qj qk ql qm qo qp qq qt qu qv qw qx qy qz va vc vd ve vf vg vh vj vk vl vm vn vo vp vq vr vt vu vv vw vx) fdE ⟨fdT .jk u,A1 (fdO T s rows z .dead) (.kl [])⟩
  (fun x s2=>c2B 2 Tryz.f166.results.toList (fun res os=>res=[.ag (A7 (cE z))]∧os=eyT T s) 7 [] x s2):=by
 intro _ _ _ _ _ _ _ _ _ _ _ _ _ _ _ _ _ _ _ _ _ _ _ _ _ _ _ _ _ _ _ _ _ _ _ _ _ _ _ _ _ vw _ hA
 obtain ⟨_,_,_⟩:=s
 try cbv;refine gr ?_;try simp only [nc] at *
 exact ⟨[0,1],[.ag (A7 (cE z))],_,⟨rfl,rfl,rfl,rfl,rfl,rfl,rfl,rfl⟩,rfl,rfl⟩
theorem c4T:c2E 174 13:=fun h1 h2 h3 h4 h5=>b9v h1 h2 h3 h4 h5
theorem b9x {s0 s1 s2 sf:ST} {w:ByteArray} {x:Nat→D} {Rf:List (List D)} {m0:Nat} (acc:Nat→Nat→D) (hN:Rf.length≤1048576) (hL1:0≤L) (hL2:L≤1048576) (inv:ST→List (List D)→Nat→Prop) (h0:C5 28 [vs C6] T s0 [] s1) (h1:C5 19 [vi .i64 (L+1)] T s1 [.ag (A7 (cE x))] s2) (hi0:inv s2 [c13 w pl x] m0)
  (hst:∀(e q a:Int) (R:List (List D)) (m:Nat),inv (e,q,a) R m→R.length<1048576∧(d0v T L inv e q a R m∨c5O T L sf (acc 0) e q a∧R=Rf))
  (hR:∀k,k<Rf.length→∃(nm:ByteArray) (at_:Int) (y:Nat→D),Rf[Rf.length - 1 - k]?=some (c13 nm at_ y)∧OvN 42 nm ⟨#[]⟩ 0 false at_ [cE y,cE (acc k)] (acc (k+1))) :
  C5 166 [vi .i64 L,vi .i64 pl,vs w] T s0 [.ag (A7 (cE (acc Rf.length)))] sf:=by
 refine a7U (Pre:=fun s=>∃tt,tt=fdT (.cl 174 [6]) (v7 tt)∧s=⟨tt,fdO T sf Rf (acc 0) (.box [.d (.sl 13 Rf)])⟩) Tryz.func166 d0n d0o d0p d0q ?_ ?_
 ·exact c7I hL1 hL2 inv h0 h1 hi0 hst _ (fun tt h=>⟨tt,h,rfl⟩) _ _ _ _ _ _ _ _ _ _ _ _ _ _ _ _ _ _ _ _ _ _ _ _ _ _ _ _ _ _ _ _ _ _ _ _ _ _ _ _ _ _ _ rfl
 ·intro I I' g0 g w1 W s a hP h
  obtain ⟨tt,htt,rfl⟩:=hP
  obtain ⟨u,hu⟩:∃u,u=v7 tt:=⟨_,rfl⟩
  rw [←hu] at htt
  subst htt
  refine b7P (ks1:=[]) (ks2:=[]) (st:=fun k=>fdO T sf Rf (acc k) .dead) (rows:=Rf) (kb:=6) (gs:=56) (t:=fdT .jk u) c4T (enters_of Tryz.func174 (by kernel_rfl) rfl) d0t d0u h (by decide) rfl rfl (by omega) rfl rfl rfl ?_ ?_
  ·intro k hk
   obtain ⟨nm,at_,y,hr,ho⟩:=hR k hk
   have hg:Rf.getD (Rf.length - 1 - k) []=c13 nm at_ y:=by rw [d3k,hr];rfl
   rw [hg]
   exact c2G ho _ _ _ _ _ _ _ _ _ _ _ _ _ _ _ _ _ _ _ _ _ _ _ _ _ _ _ _ _ _ _ _ _ _ _ _ _ _ _ _ _ _ _ rfl
  ·intro D W1 I1 g1 hD0 hID q3 hd
   refine b0j (kl:=[]) d0r d0s q3 hID hD0 hd ?_
   exact c7J _ _ _ _ _ _ _ _ _ _ _ _ _ _ _ _ _ _ _ _ _ _ _ _ _ _ _ _ _ _ _ _ _ _ _ _ _ _ _ _ _ _ _ rfl
end
end
def fnW (pl:Int) (r:Bool) (w:ByteArray) (x:PL):Bool→List Pm→PL
 | _,[]=>x
 | f,m::l=>y8 (if f=true∧r=true then 36 else 35) (if f=true∧r=true then w else ⟨#[]⟩) m.1 0 m.2.1 m.2.2.1 (if f=true then pl else m.2.2.2) [fnW pl r w x false l]
theorem a6F {pl:Int} {r:Bool} {w:ByteArray} {x:PL}:∀(f:Bool) (l:List Pm),(fnW pl r w x f l).2.length=l.length+x.2.length
 | _,[]=>by rw [fnW,d3g,d3P]
 | f,m::l=>by
  rw [fnW]
  unfold y8
  simp only [d3j,d3m,d3f,d2X]
  rw [a6F false l]
  omega
def b0k (pl:Int) (r:Bool) (w:ByteArray) (x:PL) (l:List Pm) (k:Nat):PL:=fnW pl r w x (decide (k=l.length)) (l.drop (l.length - k))
theorem b9y {pl:Int} {r:Bool} {w:ByteArray} {x:PL} {l:List Pm} {k:Nat} {m:Pm} (hk:k<l.length) (hm:l[l.length - 1 - k]?=some m):b0k pl r w x l (k+1)=y8 (if l.length - 1 - k=0∧r=true then 36 else 35) (if l.length - 1 - k=0∧r=true then w else ⟨#[]⟩) m.1 0 m.2.1 m.2.2.1 (if l.length - 1 - k=0 then pl else m.2.2.2) [b0k pl r w x l k]:=by
 have h1:l.length - (k+1)<l.length:=by omega
 have e1:l.length - 1 - k=l.length - (k+1):=by omega
 rw [e1,d2P h1] at hm
 have hd:l.drop (l.length - (k+1))=m::l.drop (l.length - k):=by
  rw [d3r h1,Option.some.inj hm,show l.length - (k+1)+1=l.length - k by omega]
 have ef:decide (k=l.length)=false:=d2U (by omega)
 unfold b0k
 rw [hd,fnW,ef]
 by_cases hz:l.length - 1 - k=0
 ·rw [show decide (k+1=l.length)=true from d3a (by omega),hz]
  simp
 ·rw [show decide (k+1=l.length)=false from d2U (by omega)]
  simp [hz]
def G8 (ts:List Tok) (n:Nat) (ex:PF) (pl:Int) (r:Bool) (p:PE):PL×PE :=
 (fnW pl r (if r=true then (i9 ts p).1 else ⟨#[]⟩) (ex (v6 ts n (if r=true then (i9 ts p).2 else p)).2).1 true (v6 ts n (if r=true then (i9 ts p).2 else p)).1,(ex (v6 ts n (if r=true then (i9 ts p).2 else p)).2).2)
theorem b0l {ts:List Tok} (hE:o5 ts) (n:Nat) (p0:Nat):∀(k:Nat) (s:List Pm×PE),s.2.1<ts.length→p0≤s.2.1→s.1.length+p0≤s.2.1+1→(s.2.2=0→s.1.length+p0≤s.2.1)→(B5 ts n k s).2.1<ts.length∧p0≤(B5 ts n k s).2.1∧(B5 ts n k s).1.length+p0≤(B5 ts n k s).2.1+1∧((B5 ts n k s).2.2=0→s.2.2=0∧(B5 ts n k s).1.length+p0≤(B5 ts n k s).2.1)
 | 0,s,h1,h2,h3,h4=>⟨h1,h2,h3,fun h=>⟨h,h4 h⟩⟩
 | k+1,s,h1,h2,h3,h4=>by
  rw [B5]
  split
  ·rename_i hc
   obtain ⟨a1,a2,a3⟩:=U8 hE n h1
   have h5:=h4 hc.1
   obtain ⟨b1,b2,b3,b4⟩:=b0l hE n p0 k (s.1++[(m7 ts n s.2).1],(m7 ts n s.2).2) a1 (by show p0≤(m7 ts n s.2).2.1;omega) (by simp only [d2R,d2X,d3g];omega) (fun h=>by have:=(a3 h).2;simp only [d2R,d2X,d3g];omega)
   exact ⟨b1,b2,b3,fun h=>⟨hc.1,(b4 h).2⟩⟩
  ·exact ⟨h1,h2,h3,fun h=>⟨h,h4 h⟩⟩
theorem a39 {ts:List Tok} (hE:o5 ts) (n:Nat) {p:PE} (hp:p.1<ts.length):(v6 ts n p).2.1<ts.length∧p.1≤(v6 ts n p).2.1∧(v6 ts n p).1.length+p.1≤(v6 ts n p).2.1+1∧((v6 ts n p).2.2=0→p.2=0∧(v6 ts n p).1.length+p.1+1≤(v6 ts n p).2.1):=by
 obtain ⟨a1,a2,a3⟩:=U8 hE n hp
 obtain ⟨b1,b2,b3,b4⟩:=b0l hE n p.1 ts.length ([(m7 ts n p).1],(m7 ts n p).2) a1 a2 (by simp only [d2X,d3g];omega) (fun h=>by have:=(a3 h).2;simp only [d2X,d3g];omega)
 unfold v6
 generalize B5 ts n ts.length ([(m7 ts n p).1],(m7 ts n p).2)=rr at *
 obtain ⟨c1,c2,c3⟩:=j8 (s:=Q5) hE b1
 refine ⟨c1,by simp only;omega,by simp only;omega,fun h=>?_⟩
 obtain ⟨d1,d2⟩:=c3 h
 obtain ⟨f1,f2⟩:=b4 d1
 exact ⟨(a3 f1).1,by simp only;omega⟩
theorem b1J {ts:List Tok} (hE:o5 ts) (n:Nat) {ex:PF} (hf:B8 ts ex) (he:∀p:PE,p.2≠0→ex p=(zPL,p)) (pl:Int) (r:Bool) {p:PE} (hp:p.1<ts.length):FitP ts p (G8 ts n ex pl r p):=by
 have hq:(if r=true then (i9 ts p).2 else p).1<ts.length∧p.1≤(if r=true then (i9 ts p).2 else p).1∧((if r=true then (i9 ts p).2 else p).2=0→p.2=0):=by
  cases r with
  | true =>
   obtain ⟨b1,b2,b3⟩:=A0 hE hp
   exact ⟨b1,b2,fun h=>(b3 h).1⟩
  | false=>exact ⟨hp,d3b _,fun h=>h⟩
 unfold G8
 generalize (if r=true then (i9 ts p).2 else p)=q at *
 obtain ⟨q1,q2,q3⟩:=hq
 obtain ⟨a1,a2,a3,a4⟩:=a39 hE n q1
 generalize v6 ts n q=ps at *
 have hb:=hf ps.2 a1
 have hl:=hb.lo
 have hs:=hb.sz
 refine ⟨by simp only;omega,hb.hi,?_,fun h=>?_⟩
 ·simp only
  rw [a6F]
  by_cases h0:ps.2.2=0
  ·have:=(a4 h0).2
   omega
  ·rw [he _ h0]
   show ps.1.length+0+2 * p.1≤2 * ps.2.1+2
   omega
 ·obtain ⟨h0,h2⟩:=hb.ok h
  obtain ⟨h3,h4⟩:=a4 h0
  refine ⟨q3 h3,?_⟩
  simp only
  rw [a6F]
  omega
theorem b0m {ts:List Tok} (hE:o5 ts) (hN:a0n ts) (hl:ts.length≤65537) (n:Nat) (L:Int) (hv:T6 n L) (hL:L≤1048575) {ex:PF} (hf:B8 ts ex) (hx:∀p:PE,p.1<ts.length→L3 19 [vi .i64 (L+1)] ts p [.ag (A7 (cP (ex p).1))] (ex p).2) (pl:Int) (r:Bool) {p:PE} (hp:p.1<ts.length) :
  L3 45 [vi .i64 L,vi .i64 pl,vb r] ts p [.ag (A7 (cP (G8 ts n ex pl r p).1))] (G8 ts n ex pl r p).2:=by
 have hl2:ts.length≤1048576:=by omega
 obtain ⟨q,hq⟩:∃q,q=(if r=true then (i9 ts p).2 else p):=⟨_,rfl⟩
 obtain ⟨w,hw⟩:∃w,w=(if r=true then (i9 ts p).1 else ⟨#[]⟩):=⟨_,rfl⟩
 have hq1:q.1<ts.length:=by
  rw [hq]
  cases r with
  | true=>exact (A0 hE hp).1
  | false=>exact hp
 have hw1:r=false∧w=⟨#[]⟩∧stP ts q=stP ts p∨r=true∧C5 30 [] (C9 ts) (stP ts p) [vs w] (stP ts q):=by
  cases r with
  | true=>exact .inr ⟨rfl,by rw [hw,hq];exact a1I hl2 hp⟩
  | false=>exact .inl ⟨rfl,by rw [hw];rfl,by rw [hq];rfl⟩
 unfold G8
 rw [←hq,←hw]
 obtain ⟨a1,a2,a3,a4⟩:=a39 hE n hq1
 have hps:=c2A hE hN hl n L hv hL hq1
 generalize v6 ts n q=ps at *
 have hex:=hx ps.2 a1
 have hb:=hf ps.2 a1
 have hbs:=hb.sz
 have hbh:=hb.hi
 obtain ⟨acc,hacc⟩:∃acc:Nat→Nat→D,∀k,cP (b0k pl r w (ex ps.2).1 ps.1 k)=cE (acc k):=⟨fun k=>(C2 _).choose,fun k=>(C2 _).choose_spec⟩
 have h0:b0k pl r w (ex ps.2).1 ps.1 0=(ex ps.2).1:=by
  unfold b0k
  rw [d3A (by omega),fnW]
 have hlast:fnW pl r w (ex ps.2).1 true ps.1=b0k pl r w (ex ps.2).1 ps.1 ps.1.length:=by
  unfold b0k
  rw [d4k,d4g,d3a rfl]
 unfold L3 at hex hps ⊢
 rw [hlast,hacc]
 rw [←h0,hacc] at hex
 have hlen:(ps.1.map cPm).length=ps.1.length:=d3o ..
 have key:=b4H (T:=C9 ts) (L:=L) (pl:=pl) (s1:=stP ts q) (s3:=stP ts (ex ps.2).2) (r:=r) (w:=w) (rows:=ps.1.map cPm) acc (by rw [hlen];omega) (a38 hv hL).1 (a38 hv hL).2 (fun k hk=>by
  rw [hlen] at hk ⊢
  obtain ⟨m,hm⟩:∃m,ps.1[ps.1.length - 1 - k]?=some m:=⟨_,d2P (by omega)⟩
  obtain ⟨y,hy⟩:=a6E m.2.2.1
  refine ⟨m.1,m.2.1,y,m.2.2.2,by rw [d3u,hm];unfold cPm;rw [d4b,hy];rfl,?_⟩
  have ho:=c23 (if ps.1.length - 1 - k=0∧r=true then 36 else 35) (if ps.1.length - 1 - k=0∧r=true then w else ⟨#[]⟩) m.1 0 m.2.1 m.2.2.1 y hy (if ps.1.length - 1 - k=0 then pl else m.2.2.2) [b0k pl r w (ex ps.2).1 ps.1 k] (by simp) (by
   simp only [d3j,d3m,d3f]
   unfold b0k
   rw [a6F,d3x]
   omega)
  rw [←b9y hk hm,hacc,show rP [b0k pl r w (ex ps.2).1 ps.1 k]=[cE (acc k)] by unfold rP;rw [d3c,d35,hacc]] at ho
  exact ho) hw1 hps hex
 rw [hlen] at key
 exact key
abbrev Fd:=ByteArray×Int×PL
def cFd (f:Fd):List D:=.sc (.string f.1)::.sc (.int .i64 f.2.1)::cP f.2.2
def fdW (x:PL):List Fd→PL
 | []=>x
 | f::l=>y8 42 f.1 ⟨#[]⟩ 0 false r7 f.2.1 [f.2.2,fdW x l]
def fdN:List Fd→Nat
 | []=>0
 | f::l=>1+f.2.2.2.length+fdN l
theorem b4I (f:Fd):∀l:List Fd,fdN (l++[f])=fdN l+(1+f.2.2.2.length)
 | []=>by simp [fdN]
 | x::l=>by rw [d3I,fdN,fdN,b4I f l];omega
theorem b4J:∀(l:List Fd) (n:Nat),fdN (l.drop n)≤fdN l
 | [],n=>by simp
 | x::l,0=>d3b _
 | x::l,n+1=>by
  rw [d5q,fdN]
  have:=b4J l n
  omega
theorem a4U {x:PL}:∀l:List Fd,(fdW x l).2.length=fdN l+x.2.length
 | []=>by rw [fdW,fdN,d3P]
 | f::l=>by
  rw [fdW,fdN]
  unfold y8
  simp only [d3j,d3m,d3f,d2X,d2R]
  rw [a4U l]
  omega
def E5 (ts:List Tok) (ex:PF):Nat→List Fd×PE→List Fd×PE
 | 0,s=>s
 | k+1,s=>if A2 ts J1 s.2=true then E5 ts ex k (s.1++[((i9 ts (s.2.1+1,0)).1,(j6 ts (s.2.1+1)).at_,(ex (j0 ts C6 (i9 ts (s.2.1+1,0)).2)).1)],(ex (j0 ts C6 (i9 ts (s.2.1+1,0)).2)).2) else s
theorem b0n {ts:List Tok} {ex:PF} {s:List Fd×PE} (h:A2 ts J1 s.2=false):∀k,E5 ts ex k s=s
 | 0=>rfl
 | k+1=>by rw [E5,d2T (by rw [h];decide)]
def G9 (ts:List Tok) (ex:PF) (p:PE):PL×PE:=if A2 ts H6 p=true then ex (p.1+1,0) else (J3 41 ⟨#[]⟩ 0 (j6 ts p.1).at_,p)
abbrev a41 (ts:List Tok) (ex:PF) (pl:Int) (w:ByteArray) (p:PE):List Fd×PE:=E5 ts ex ts.length ([(w,pl,(ex (j0 ts C6 p)).1)],(ex (j0 ts C6 p)).2)
def Y9 (ts:List Tok) (ex:PF) (pl:Int) (w:ByteArray) (p:PE):PL×PE:=(fdW (G9 ts ex (a41 ts ex pl w p).2).1 (a41 ts ex pl w p).1,j0 ts U6 (G9 ts ex (a41 ts ex pl w p).2).2)
def SzF (ts:List Tok) (p0:Nat) (s:List Fd×PE):Prop:=s.2.1<ts.length∧p0≤s.2.1∧fdN s.1+2 * p0≤2 * s.2.1+1∧(s.2.2=0→fdN s.1+2 * p0+2≤2 * s.2.1)
theorem o8 {ts:List Tok} {s:ByteArray} {p:PE} (hE:o5 ts) (hp:p.1<ts.length) (h:A2 ts s p=true):p.1+1<ts.length∧p.2=0:=by
 have h1:=b3g hE hp h
 exact ⟨by have:=h1.1;have:=h1.2.1;omega,h1.2.2⟩
theorem b7R {ts:List Tok} (hE:o5 ts) {ex:PF} (hf:B8 ts ex) (he:∀p:PE,p.2≠0→ex p=(zPL,p)) {p0:Nat} {s:List Fd×PE} (hs:SzF ts p0 s) (h:A2 ts J1 s.2=true):SzF ts p0 (s.1++[((i9 ts (s.2.1+1,0)).1,(j6 ts (s.2.1+1)).at_,(ex (j0 ts C6 (i9 ts (s.2.1+1,0)).2)).1)],(ex (j0 ts C6 (i9 ts (s.2.1+1,0)).2)).2)∧s.2.1+1≤(ex (j0 ts C6 (i9 ts (s.2.1+1,0)).2)).2.1:=by
 obtain ⟨h1,h2,h3,h4⟩:=hs
 obtain ⟨k1,k2⟩:=o8 hE h1 h
 have h4:=h4 k2
 obtain ⟨b1,b2,b3⟩:=A0 hE (p:=(s.2.1+1,0)) k1
 obtain ⟨c1,c2,c3⟩:=j8 (s:=C6) hE b1
 generalize (i9 ts (s.2.1+1,0)).1=w at *
 generalize (i9 ts (s.2.1+1,0)).2=q at *
 generalize j0 ts C6 q=r at *
 have hb:=hf r c1
 have l1:=hb.lo
 have l2:=hb.sz
 have l3:=hb.hi
 have l4:=hb.ok
 simp only at b2 b3
 unfold SzF
 rw [b4I]
 simp only
 refine ⟨⟨l3,by omega,?_,fun h0=>?_⟩,by omega⟩
 ·by_cases h0:r.2=0
  ·have:=c3 h0
   have:=b3 this.1
   omega
  ·rw [he r h0]
   show fdN s.1+(1+0)+2 * p0≤2 * r.1+1
   omega
 ·have:=l4 h0
  have:=c3 this.1
  omega
theorem a3A {ts:List Tok} (hE:o5 ts) {ex:PF} (hf:B8 ts ex) (he:∀p:PE,p.2≠0→ex p=(zPL,p)) (p0:Nat):∀(k:Nat) (s:List Fd×PE),SzF ts p0 s→SzF ts p0 (E5 ts ex k s)∧((E5 ts ex k s).2.2=0→s.2.2=0)
 | 0,s,hs=>⟨hs,fun h=>h⟩
 | k+1,s,hs=>by
  rw [E5]
  split
  ·rename_i h
   exact ⟨(a3A hE hf he p0 k _ (b7R hE hf he hs h).1).1,fun _=>(o8 hE hs.1 h).2⟩
  ·exact ⟨hs,fun h=>h⟩
theorem b6k {ts:List Tok} (hE:o5 ts) {ex:PF} (hf:B8 ts ex) (he:∀p:PE,p.2≠0→ex p=(zPL,p)) (pl:Int) (w:ByteArray) {p:PE} (hp:p.1<ts.length):SzF ts p.1 ([(w,pl,(ex (j0 ts C6 p)).1)],(ex (j0 ts C6 p)).2)∧((ex (j0 ts C6 p)).2.2=0→p.2=0):=by
 obtain ⟨c1,c2,c3⟩:=j8 (s:=C6) hE hp
 generalize j0 ts C6 p=r at *
 have hb:=hf r c1
 have l1:=hb.lo
 have l2:=hb.sz
 have l3:=hb.hi
 have l4:=hb.ok
 unfold SzF
 rw [fdN,fdN]
 simp only
 refine ⟨⟨l3,by omega,?_,fun h0=>?_⟩,fun h0=>(c3 (l4 h0).1).1⟩
 ·by_cases h0:r.2=0
  ·have:=c3 h0
   omega
  ·rw [he r h0]
   show 1+0+0+2 * p.1≤2 * r.1+1
   omega
 ·have:=l4 h0
  have:=c3 this.1
  omega
theorem a42 {ts:List Tok} (hE:o5 ts) {ex:PF} (hf:B8 ts ex) (he:∀p:PE,p.2≠0→ex p=(zPL,p)) (pl:Int) (w:ByteArray) {p:PE} (hp:p.1<ts.length):FitP ts p (Y9 ts ex pl w p):=by
 obtain ⟨a1,a2⟩:=b6k hE hf he pl w hp
 have hB:=a3A hE hf he p.1 ts.length _ a1
 obtain ⟨s,hs⟩:∃s,s=E5 ts ex ts.length ([(w,pl,(ex (j0 ts C6 p)).1)],(ex (j0 ts C6 p)).2):=⟨_,rfl⟩
 have e:Y9 ts ex pl w p=(fdW (G9 ts ex s.2).1 s.1,j0 ts U6 (G9 ts ex s.2).2):=by rw [hs];rfl
 rw [←hs] at hB
 rw [e]
 obtain ⟨⟨b1,b2,b3,b4⟩,b5⟩:=hB
 unfold G9
 split
 ·rename_i h
  obtain ⟨k1,k2⟩:=o8 hE b1 h
  have hb:=hf (s.2.1+1,0) k1
  have l1:=hb.lo
  have l2:=hb.sz
  have l3:=hb.hi
  have l4:=hb.ok
  simp only at l1 l2 l4
  obtain ⟨c1,c2,c3⟩:=j8 (s:=U6) hE l3
  have b4:=b4 k2
  refine ⟨by simp only;omega,c1,by simp only;rw [a4U];omega,fun h0=>⟨a2 (b5 k2),?_⟩⟩
  simp only at h0 ⊢
  rw [a4U]
  obtain ⟨d1,d2⟩:=c3 h0
  have:=(l4 d1).2
  omega
 ·obtain ⟨c1,c2,c3⟩:=j8 (s:=U6) hE b1
  refine ⟨by simp only;omega,c1,by simp only;rw [a4U];show fdN s.1+1+2 * p.1≤_;omega,fun h0=>?_⟩
  simp only at h0 ⊢
  obtain ⟨d1,d2⟩:=c3 h0
  have:=b4 d1
  rw [a4U]
  exact ⟨a2 (b5 d1),by show fdN s.1+1+2 * p.1+1≤_;omega⟩
def c5R (ts:List Tok) (ex:PF) (p0:Nat) (rr:List Fd×PE) (s:ST) (R:List (List D)) (m:Nat):Prop:=∃(l:List Fd) (p:PE) (k:Nat),s=stP ts p∧R=l.map cFd∧SzF ts p0 (l,p)∧l.length≤p.1+1∧(p.2=0→ts.length - p.1≤k)∧m=ts.length - p.1∧rr=E5 ts ex k (l,p)
theorem b7S:∀l:List Fd,l.length≤fdN l
 | []=>d3b _
 | f::l=>by rw [fdN,d2X];have:=b7S l;omega
abbrev b0o (x:PL) (l:List Fd) (k:Nat):PL:=fdW x (l.drop (l.length - k))
theorem b1L {x:PL} {l:List Fd} {k:Nat} {f:Fd} (hk:k<l.length) (hf:l[l.length - 1 - k]?=some f):b0o x l (k+1)=y8 42 f.1 ⟨#[]⟩ 0 false r7 f.2.1 [f.2.2,b0o x l k]:=by
 have h1:l.length - (k+1)<l.length:=by omega
 have e1:l.length - 1 - k=l.length - (k+1):=by omega
 rw [e1,d2P h1] at hf
 have hd:l.drop (l.length - (k+1))=f::l.drop (l.length - k):=by
  rw [d3r h1,Option.some.inj hf,show l.length - (k+1)+1=l.length - k by omega]
 unfold b0o
 rw [hd,fdW]
theorem c2H {ts:List Tok} (hE:o5 ts) (hl:ts.length≤65537) {L:Int} (hL1:0≤L) (hL2:L≤1048576) {ex:PF} (hf:B8 ts ex) (he:∀p:PE,p.2≠0→ex p=(zPL,p)) (hx:∀p:PE,p.1<ts.length→L3 19 [vi .i64 (L+1)] ts p [.ag (A7 (cP (ex p).1))] (ex p).2) (pl:Int) (w:ByteArray) {p:PE} (hp:p.1<ts.length) :
  L3 166 [vi .i64 L,vi .i64 pl,vs w] ts p [.ag (A7 (cP (Y9 ts ex pl w p).1))] (Y9 ts ex pl w p).2:=by
 have hl2:ts.length≤1048576:=by omega
 obtain ⟨a1,a2⟩:=b6k hE hf he pl w hp
 have hB:=(a3A hE hf he p.1 ts.length _ a1).1
 obtain ⟨s,hs⟩:∃s,s=E5 ts ex ts.length ([(w,pl,(ex (j0 ts C6 p)).1)],(ex (j0 ts C6 p)).2):=⟨_,rfl⟩
 have e:Y9 ts ex pl w p=(fdW (G9 ts ex s.2).1 s.1,j0 ts U6 (G9 ts ex s.2).2):=by rw [hs];rfl
 rw [←hs] at hB
 rw [e]
 obtain ⟨b1,b2,b3,b4⟩:=hB
 have h0:=N1 hl2 hp C6
 obtain ⟨c1,_,_⟩:=j8 (s:=C6) hE hp
 have h1:=hx _ c1
 obtain ⟨x,hxx⟩:=C2 (ex (j0 ts C6 p)).1
 obtain ⟨acc,hacc⟩:∃acc:Nat→Nat→D,∀k,cP (b0o (G9 ts ex s.2).1 s.1 k)=cE (acc k):=⟨fun k=>(C2 _).choose,fun k=>(C2 _).choose_spec⟩
 have hz0:b0o (G9 ts ex s.2).1 s.1 0=(G9 ts ex s.2).1:=by
  unfold b0o
  rw [d3A (by omega),fdW]
 have hlast:fdW (G9 ts ex s.2).1 s.1=b0o (G9 ts ex s.2).1 s.1 s.1.length:=by
  unfold b0o
  rw [d4k,d4g]
 have hbl:(G9 ts ex s.2).1.2.length≤2 * ts.length+2:=by
  unfold G9
  split
  ·rename_i h
   have hb:=hf (s.2.1+1,0) (o8 hE b1 h).1
   have i1:=hb.sz
   have i2:=hb.hi
   omega
  ·show 1≤_
   omega
 have hi0:c5R ts ex p.1 s (stP ts (ex (j0 ts C6 p)).2) [c13 w pl x] (ts.length - (ex (j0 ts C6 p)).2.1):=⟨[(w,pl,(ex (j0 ts C6 p)).1)],(ex (j0 ts C6 p)).2,ts.length,rfl,by rw [d3c,d35];unfold cFd;rw [hxx],a1,by simp,fun _=>by omega,rfl,hs⟩
 unfold L3 at h0 h1 ⊢
 rw [hlast,hacc]
 rw [hxx] at h1
 have hlen:(s.1.map cFd).length=s.1.length:=d3o ..
 have hsl:=b7S s.1
 have key:=b9x (T:=C9 ts) (L:=L) (pl:=pl) (sf:=stP ts (j0 ts U6 (G9 ts ex s.2).2)) (Rf:=s.1.map cFd) acc (by rw [hlen];omega) hL1 hL2 (c5R ts ex p.1 s) h0 h1 hi0 (fun e1 q1 a1' R m hinv=>by
  obtain ⟨l,p',k,hst,hR,hsz,hlen2,hk,hm,hr⟩:=hinv
  have hp':p'.1<ts.length:=hsz.1
  refine ⟨by rw [hR,d3o];omega,?_⟩
  have hsk:=a0E hl2 hp' J1
  unfold L3 at hsk
  rw [←hst] at hsk
  by_cases hc:A2 ts J1 p'=true
  ·obtain ⟨k1,k2⟩:=o8 hE hp' hc
   rw [hc,show skP ts J1 p'=(p'.1+1,0) by unfold skP;rw [d2S hc]] at hsk
   obtain ⟨d1,d2⟩:=b7R hE hf he hsz hc
   have k3:=a5o hl2 (p:=(p'.1+1,0)) k1
   have k4:=a1I hl2 (p:=(p'.1+1,0)) k1
   obtain ⟨f1,_,_⟩:=A0 hE (p:=(p'.1+1,0)) k1
   have k5:=N1 hl2 f1 C6
   obtain ⟨g1,_,_⟩:=j8 (s:=C6) hE f1
   have k6:=hx _ g1
   obtain ⟨y,hy⟩:=C2 (ex (j0 ts C6 (i9 ts (p'.1+1,0)).2)).1
   unfold L3 at k3 k4 k5 k6
   rw [hy] at k6
   have hkk:=hk k2
   match k,hkk,hr with
   | 0,hkk,_=>omega
   | k+1,hkk,hr =>
    rw [E5,d2S hc] at hr
    refine .inl ⟨_,_,_,_,_,_,y,ts.length - (ex (j0 ts C6 (i9 ts (p'.1+1,0)).2)).2.1,hsk,k3,k4,k5,k6,⟨_,_,k,rfl,?_,d1,?_,fun _=>?_,rfl,hr⟩,?_⟩
    ·rw [hR,d3Q,d3c,d35]
     unfold cFd
     rw [hy]
    ·simp only [d2R,d2X,d3g]
     simp only at d2
     omega
    ·simp only at d2
     omega
    ·simp only at d2
     omega
  ·replace hc:A2 ts J1 p'=false:=by simpa using hc
   rw [hc,show skP ts J1 p'=p' by unfold skP;rw [hc];rfl,←hst] at hsk
   have hr2:s=(l,p'):=by rw [hr];exact b0n hc k
   have hs2:s.2=p':=by rw [hr2]
   have k3:=a5o hl2 hp'
   obtain ⟨z0,hz⟩:=C2 (J3 41 ⟨#[]⟩ 0 (j6 ts p'.1).at_)
   have k4:=b6j 41 ⟨#[]⟩ 0 (j6 ts p'.1).at_
   rw [hz] at k4
   have k5:=a0E hl2 hp' H6
   unfold L3 at k3 k5
   rw [←hst] at k3 k5
   have ha0:=hacc 0
   rw [hz0,hs2] at ha0
   refine .inr ⟨?_,by rw [hR,hr2]⟩
   rw [hs2]
   unfold G9 at ha0 ⊢
   by_cases hb:A2 ts H6 p'=true
   ·obtain ⟨k1,k2⟩:=o8 hE hp' hb
    rw [d2S hb] at ha0 ⊢
    rw [hb,show skP ts H6 p'=(p'.1+1,0) by unfold skP;rw [d2S hb]] at k5
    have k6:=hx (p'.1+1,0) k1
    unfold L3 at k6
    rw [ha0] at k6
    have k7:=N1 hl2 (hf (p'.1+1,0) k1).hi U6
    exact ⟨_,_,z0,hsk,k3,k4,.inr ⟨_,k5,k6⟩,k7⟩
   ·replace hb:A2 ts H6 p'=false:=by simpa using hb
    rw [d2T (by rw [hb];decide)] at ha0 ⊢
    rw [hb,show skP ts H6 p'=p' by unfold skP;rw [hb];rfl,←hst] at k5
    have k7:=N1 hl2 hp' U6
    unfold L3 at k7
    rw [←hst] at k7
    rw [ha0] at hz
    exact ⟨_,_,acc 0,hsk,k3,by rw [←hz] at k4;exact k4,.inl ⟨k5,rfl,rfl⟩,k7⟩) (fun k hk=>by
  rw [hlen] at hk ⊢
  obtain ⟨f,hfd⟩:∃f,s.1[s.1.length - 1 - k]?=some f:=⟨_,d2P (by omega)⟩
  obtain ⟨y,hy⟩:=C2 f.2.2
  refine ⟨f.1,f.2.1,y,by rw [d3u,hfd];unfold cFd;rw [d4b,hy],?_⟩
  have ho:=a2s 42 f.1 ⟨#[]⟩ 0 false f.2.1 [f.2.2,b0o (G9 ts ex s.2).1 s.1 k] (by simp) (by
   have e1:=b1L (x:=(G9 ts ex s.2).1) hk hfd
   have e2:(b0o (G9 ts ex s.2).1 s.1 (k+1)).2.length=_:=a4U _
   rw [e1] at e2
   unfold y8 at e2
   simp only [d2X] at e2
   have:=b4J s.1 (s.1.length - (k+1))
   omega)
  rw [←b1L hk hfd,hacc,show rP [f.2.2,b0o (G9 ts ex s.2).1 s.1 k]=[cE y,cE (acc k)] by unfold rP;rw [d3c,d3c,d35,hacc,hy]] at ho
  exact ho)
 rw [hlen] at key
 exact key
section
abbrev cO (o:Int) (x:Nat→D):List D:=[.sc (.int .u8 o),x 1,x 2,x 3,x 4,x 5,x 6,x 7,x 8,x 9,x 10]
abbrev a4Z:ByteArray:=⟨#[111,102]⟩
abbrev Z7:ByteArray:=⟨#[101,110,100]⟩
abbrev a7W:ByteArray:=⟨#[59]⟩
abbrev c7K (pl:Int) (z:Nat→D) (R:List (List D)):Prop:=OvN 48 ⟨#[]⟩ ⟨#[]⟩ 0 false pl R z
def d2e (T:List (List D)) (L pl:Int) (sf:ST) (z:Nat→D) (inv:ST→List (List D)→Bool→Nat→Prop) (e q a:Int) (R:List (List D)) (b:Bool) (m:Nat):Prop:=C5 20 [] T (e,q,a) [vb true] (e,q,a)∧IsN T a Z7 false∧∃(s3 s4:ST) (o:Int) (y:Nat→D),(b=true∧s3=(e,q,a)∨b=false∧C5 28 [vs a7W] T (e,q,a) [] s3)∧C5 167 [vi .i64 L] T s3 [.ag (A7 (cO o y))] s4 ∧
 ((o≠50∧∃m2,inv s4 (R++[cO o y]) false m2∧m2<m)∨(o=50∧C5 28 [vs Z7] T s4 [] sf∧c7K pl z (R++[cO o y])))
def d0x (T:List (List D)) (pl:Int) (sf:ST) (z:Nat→D) (e q a:Int) (R:List (List D)):Prop:=(C5 20 [] T (e,q,a) [vb false] (e,q,a)∨C5 20 [] T (e,q,a) [vb true] (e,q,a)∧IsN T a Z7 true)∧C5 28 [vs Z7] T (e,q,a) [] sf∧c7K pl z R
section
variable {T:List (List D)} {L pl:Int}
theorem b9z {s0 s1 s2 sf:ST} {x z:Nat→D} {m0:Nat} (hL1:0≤L) (hL2:L≤1048576) (inv:ST→List (List D)→Bool→Nat→Prop) (h0:C5 19 [vi .i64 (L+1)] T s0 [.ag (A7 (cE x))] s1) (h1:C5 28 [vs a4Z] T s1 [] s2) (hi0:inv s2 [cE x] true m0)
  (hst:∀(e q a:Int) (R:List (List D)) (b:Bool) (m:Nat),inv (e,q,a) R b m→R.length<1048576∧(d2e T L pl sf z inv e q a R b m∨d0x T pl sf z e q a R)) :
  C5 155 [vi .i64 L,vi .i64 pl] T s0 [.ag (A7 (cE z))] sf:=by
 obtain ⟨_,_,_⟩:=s0
 obtain ⟨_,_,_⟩:=s1
 obtain ⟨a2,b2,d2⟩:=s2
 obtain ⟨_,_,_⟩:=sf
 obtain ⟨L1,hL⟩:∃L1,L1=L+1:=⟨_,rfl⟩
 rw [←hL] at h0
 refine Z5 Tryz.func155 rfl ?_;intro qa qb _ _ _ _ _ _ _ qk _ _ _ _ _ _ _ _ _ _ _ _ _ _ _ ve;intros;rename_i hA
 obtain ⟨e1,e2,e3,e4,e5,e6,e7,e8,e9⟩:=j7 hA
 obtain ⟨r1,r2,r3,r4⟩:=A8 hA
 have qL:qa .i64 (qb L 1)=L1:=by rw [e1,e2,IntWalk.i64_in _ (by omega)];exact hL.symm
 have q50:qk 50 50=true:=by rw [e9];rfl
 iterate 2 (try cbv;repeat ((first|with_reducible apply f8 hA|rw [qL]|refine A4 hA [0,1] h0 ?_|refine A4 hA [0,1] h1 ?_|refine A6 hA false ?_|refine a1E hA true ?_);cbv))
 try simp (maxSteps:=4000000) only [nc] at *
 refine j9 hA (γ:=ST×List (List D)×Bool×Nat) (fun x=>[(7,.own 3),(8,vb x.2.2.1),(9,.jk),(14,.jk)]) (fun x=>[(0,.box [.ptr 1 0,vi .u8 x.1.1,vi .i64 x.1.2.1]),(1,.box [.d (.sl 4 T),vi .i64 x.1.2.2]),(3,.row true 60 x.2.1)]) (fun x=>inv x.1 x.2.1 x.2.2.1 x.2.2.2) (fun x=>x.2.2.2) ((a2,b2,d2),[cE x],true,m0) ?_ ?_ ?_
 ·exact hi0
 ·cbv
 ·intro x hinv
  obtain ⟨⟨e,q,a⟩,R,b,m⟩:=x
  obtain ⟨hlen,hs⟩:=hst e q a R b m hinv
  rcases hs with ⟨hok,his,s3,s4,o,y2,hw,hp,hrest⟩|⟨he,hw,ho⟩
  ·obtain ⟨_,_,_⟩:=s3
   obtain ⟨a4,b4,d4⟩:=s4
   have g3:ve R [cO o y2]=R++[cO o y2]:=by rw [r4]
   obtain ⟨R2,hR2⟩:∃R2,R2=R++[cO o y2]:=⟨_,rfl⟩
   rw [←hR2] at g3 hrest
   rcases hrest with ⟨hne,m2,hi2,hm2⟩|⟨rfl,hwe,ho⟩
   ·have qn:qk o 50=false:=by rw [e9];exact d2U hne
    rcases hw with ⟨rfl,hse⟩|⟨rfl,hw⟩
    ·injection hse with f1 f2
     injection f2 with f2 f3
     subst f1 f2 f3
     iterate 2 (try cbv;repeat ((first|with_reducible apply f8 hA|rw [g3]|rw [qn]|refine A4 hA [0,1] hok ?_|refine rdx hA [1] his ?_|refine A4 hA [0,1] hp ?_|refine A6 hA true ?_|(refine B3 hA (by simp only [d2X,d3g];omega) ?_));cbv))
     try simp (maxSteps:=4000000) only [nc] at *
     refine ⟨((a4,b4,d4),R2,false,m2),hi2,hm2,?_⟩
     cbv
    ·iterate 2 (try cbv;repeat ((first|with_reducible apply f8 hA|rw [g3]|rw [qn]|refine A4 hA [0,1] hok ?_|refine rdx hA [1] his ?_|refine A4 hA [0,1] hw ?_|refine A4 hA [0,1] hp ?_|refine A6 hA true ?_|(refine B3 hA (by simp only [d2X,d3g];omega) ?_));cbv))
     try simp (maxSteps:=4000000) only [nc] at *
     refine ⟨((a4,b4,d4),R2,false,m2),hi2,hm2,?_⟩
     cbv
   ·rcases hw with ⟨rfl,hse⟩|⟨rfl,hw⟩
    ·injection hse with f1 f2
     injection f2 with f2 f3
     subst f1 f2 f3
     iterate 2 (try cbv;repeat ((first|refine a12 hA 7 3 (.sl 11 R2) rfl rfl ?_|with_reducible apply f8 hA|rw [g3]|rw [q50]|refine A4 hA [0,1] hok ?_|refine rdx hA [1] his ?_|refine A4 hA [0,1] hp ?_|refine A4 hA [0,1] hwe ?_|refine A6 hA true ?_|(refine B3 hA (by simp only [d2X,d3g];omega) ?_)|refine rdx hA [] ho ?_);cbv))
     try simp (maxSteps:=4000000) only [nc] at *
     exact m9 hA [0,1] ⟨rfl,rfl,rfl,rfl,rfl,rfl,rfl,rfl⟩ ⟨rfl,rfl⟩
    ·iterate 2 (try cbv;repeat ((first|refine a12 hA 7 3 (.sl 11 R2) rfl rfl ?_|with_reducible apply f8 hA|rw [g3]|rw [q50]|refine A4 hA [0,1] hok ?_|refine rdx hA [1] his ?_|refine A4 hA [0,1] hw ?_|refine A4 hA [0,1] hp ?_|refine A4 hA [0,1] hwe ?_|refine A6 hA true ?_|(refine B3 hA (by simp only [d2X,d3g];omega) ?_)|refine rdx hA [] ho ?_);cbv))
     try simp (maxSteps:=4000000) only [nc] at *
     exact m9 hA [0,1] ⟨rfl,rfl,rfl,rfl,rfl,rfl,rfl,rfl⟩ ⟨rfl,rfl⟩
  ·rcases he with hok|⟨hok,his⟩
   ·iterate 2 (try cbv;repeat ((first|refine a12 hA 7 3 (.sl 11 R) rfl rfl ?_|with_reducible apply f8 hA|refine A4 hA [0,1] hok ?_|refine A4 hA [0,1] hw ?_|refine rdx hA [] ho ?_);cbv))
    try simp (maxSteps:=4000000) only [nc] at *
    exact m9 hA [0,1] ⟨rfl,rfl,rfl,rfl,rfl,rfl,rfl,rfl⟩ ⟨rfl,rfl⟩
   ·iterate 2 (try cbv;repeat ((first|refine a12 hA 7 3 (.sl 11 R) rfl rfl ?_|with_reducible apply f8 hA|refine A4 hA [0,1] hok ?_|refine rdx hA [1] his ?_|refine A4 hA [0,1] hw ?_|refine rdx hA [] ho ?_);cbv))
    try simp (maxSteps:=4000000) only [nc] at *
    exact m9 hA [0,1] ⟨rfl,rfl,rfl,rfl,rfl,rfl,rfl,rfl⟩ ⟨rfl,rfl⟩
end
end
abbrev J4:ByteArray:=⟨#[101,108,115,101]⟩
def G3 (ts:List Tok) (ex:PF) (p:PE):PL×PE :=
 if A2 ts J4 p=true then (s8 50 ⟨#[]⟩ (i9 ts (p.1+1,0)).1 (j6 ts p.1).at_ [(ex (j0 ts Q5 (i9 ts (p.1+1,0)).2)).1],(ex (j0 ts Q5 (i9 ts (p.1+1,0)).2)).2)
 else (s8 49 (i9 ts p).1 (i9 ts (i9 ts p).2).1 (j6 ts p.1).at_ [(ex (j0 ts Q5 (i9 ts (i9 ts p).2).2)).1],(ex (j0 ts Q5 (i9 ts (i9 ts p).2).2)).2)
theorem d0y {ts:List Tok} (hE:o5 ts) {ex:PF} (hf:B8 ts ex) (he:∀p:PE,p.2≠0→ex p=(zPL,p)) {p:PE} (hp:p.1<ts.length):FitP ts p (G3 ts ex p):=by
 have key:∀(q:PE) (op:Int) (nm ar:ByteArray) (a:Int),q.1<ts.length→p.1≤q.1→(q.2=0→p.2=0∧p.1+1≤q.1)→FitP ts p (s8 op nm ar a [(ex q).1],(ex q).2):=fun q op nm ar a h1 h2 h3=>by
  have hb:=hf q h1
  have l1:=hb.lo
  have l2:=hb.sz
  have l4:=hb.ok
  unfold s8 y8
  refine ⟨by simp only;omega,hb.hi,?_,fun h0=>?_⟩
  ·simp only [d3j,d3m,d3f,d2X]
   by_cases h0:q.2=0
   ·have:=(h3 h0).2
    omega
   ·rw [he q h0]
    show 0+1+2 * p.1≤2 * q.1+2
    omega
  ·obtain ⟨d1,d2⟩:=l4 h0
   obtain ⟨d3,d4⟩:=h3 d1
   simp only [d3j,d3m,d3f,d2X]
   exact ⟨d3,by omega⟩
 unfold G3
 split
 ·rename_i h
  obtain ⟨k1,k2⟩:=o8 hE hp h
  obtain ⟨b1,b2,b3⟩:=A0 hE (p:=(p.1+1,0)) k1
  obtain ⟨c1,c2,c3⟩:=j8 (s:=Q5) hE b1
  simp only at b2 b3
  exact key _ _ _ _ _ c1 (by omega) fun h0=>⟨k2,by omega⟩
 ·obtain ⟨a1,a2,a3⟩:=A0 hE hp
  obtain ⟨b1,b2,b3⟩:=A0 hE a1
  obtain ⟨c1,c2,c3⟩:=j8 (s:=Q5) hE b1
  exact key _ _ _ _ _ c1 (by omega) fun h0=>⟨(a3 (b3 (c3 h0).1).1).1,by have:=(c3 h0).2;omega⟩
theorem d0z {ts:List Tok} (hE:o5 ts) (hl:ts.length≤65537) {L:Int} (hL1:0≤L) (hL2:L≤1048576) {ex:PF} (hf:B8 ts ex) (hx:∀p:PE,p.1<ts.length→L3 19 [vi .i64 (L+1)] ts p [.ag (A7 (cP (ex p).1))] (ex p).2) {p:PE} (hp:p.1<ts.length) :
  L3 167 [vi .i64 L] ts p [.ag (A7 (cP (G3 ts ex p).1))] (G3 ts ex p).2:=by
 have hl2:ts.length≤1048576:=by omega
 have h0:=a5o hl2 hp
 have h1:=a0E hl2 hp J4
 have hov:∀(op:Int) (nm ar:ByteArray) (a:Int) (q:PE),q.1<ts.length→∃(x z:Nat→D),cP (ex q).1=cE x∧cP (s8 op nm ar a [(ex q).1])=cE z∧OvN op nm ar 0 false a [cE x] z:=fun op nm ar a q hq=>by
  obtain ⟨x,hx1⟩:=C2 (ex q).1
  obtain ⟨z,hz⟩:=C2 (s8 op nm ar a [(ex q).1])
  have hb:=hf q hq
  have i1:=hb.sz
  have i2:=hb.hi
  have ho:=a2s op nm ar 0 false a [(ex q).1] (by simp) (by simp only [d3j,d3m,d3f];omega)
  rw [show rP [(ex q).1]=[cE x] by unfold rP;rw [d3c,d35,hx1]] at ho
  rw [show cP (y8 op nm ar 0 false r7 a [(ex q).1])=cE z from hz] at ho
  exact ⟨x,z,hx1,hz,ho⟩
 unfold G3
 by_cases h:A2 ts J4 p=true
 ·rw [d2S h]
  obtain ⟨k1,k2⟩:=o8 hE hp h
  rw [h,show skP ts J4 p=(p.1+1,0) by unfold skP;rw [d2S h]] at h1
  obtain ⟨b1,_,_⟩:=A0 hE (p:=(p.1+1,0)) k1
  obtain ⟨c1,_,_⟩:=j8 (s:=Q5) hE b1
  have h2:=a1I hl2 (p:=(p.1+1,0)) k1
  have h3:=N1 hl2 b1 Q5
  have h4:=hx _ c1
  obtain ⟨x,z,e1,e2,ho⟩:=hov 50 ⟨#[]⟩ (i9 ts (p.1+1,0)).1 (j6 ts p.1).at_ _ c1
  rw [e1] at h4
  simp only
  rw [e2]
  exact c2v ho hL1 hL2 h0 h1 h2 h3 h4
 ·rw [d2T h]
  replace h:A2 ts J4 p=false:=by simpa using h
  rw [h,show skP ts J4 p=p by unfold skP;rw [h];rfl] at h1
  obtain ⟨a1,_,_⟩:=A0 hE hp
  obtain ⟨b1,_,_⟩:=A0 hE a1
  obtain ⟨c1,_,_⟩:=j8 (s:=Q5) hE b1
  have h2:=a1I hl2 hp
  have h3:=a1I hl2 a1
  have h4:=N1 hl2 b1 Q5
  have h5:=hx _ c1
  obtain ⟨x,z,e1,e2,ho⟩:=hov 49 (i9 ts p).1 (i9 ts (i9 ts p).2).1 (j6 ts p.1).at_ _ c1
  rw [e1] at h5
  simp only
  rw [e2]
  exact c2w ho hL1 hL2 h0 h1 h2 h3 h4 h5
theorem c4U (ts:List Tok) (ex:PF) (q:PE):∃y,cP (G3 ts ex q).1=cO (if A2 ts J4 q=true then 50 else 49) y:=by
 have key:∀(op:Int) (nm ar:ByteArray) (a:Int) (ks:List PL),∃y,cP (s8 op nm ar a ks)=cO op y:=fun op nm ar a ks=>by
  obtain ⟨x,hx⟩:=C2 (s8 op nm ar a ks)
  have h0:(cP (s8 op nm ar a ks)).head?=some (.sc (.int .u8 op)):=by
   unfold cP s8 y8
   rw [cM]
   rfl
  rw [hx] at h0
  have h0:x 0=.sc (.int .u8 op):=Option.some.inj h0
  exact ⟨x,by rw [hx];show x 0::_=_;rw [h0]⟩
 unfold G3
 split
 ·exact key _ _ _ _ _
 ·exact key _ _ _ _ _
def chQ (ts:List Tok) (f:Bool) (p:PE):PE:=if f=true then p else j0 ts a7W p
def chL (ts:List Tok) (ex:PF):Nat→Bool→List PL×PE→List PL×PE
 | 0,_,s=>s
 | k+1,f,s=>if s.2.2=0∧L7 (j6 ts s.2.1) Z7=false then
   if A2 ts J4 (chQ ts f s.2)=true then (s.1++[(G3 ts ex (chQ ts f s.2)).1],(G3 ts ex (chQ ts f s.2)).2)
   else chL ts ex k false (s.1++[(G3 ts ex (chQ ts f s.2)).1],(G3 ts ex (chQ ts f s.2)).2)
  else s
theorem a75 {ts:List Tok} {ex:PF} {f:Bool} {s:List PL×PE} (h:¬(s.2.2=0∧L7 (j6 ts s.2.1) Z7=false)):∀k,chL ts ex k f s=s
 | 0=>rfl
 | k+1=>by rw [chL,d2T h]
def Y0 (ts:List Tok) (ex:PF) (pl:Int) (p:PE):PL×PE:=(s8 48 ⟨#[]⟩ ⟨#[]⟩ pl (chL ts ex ts.length true ([(ex p).1],j0 ts a4Z (ex p).2)).1,j0 ts Z7 (chL ts ex ts.length true ([(ex p).1],j0 ts a4Z (ex p).2)).2)
abbrev chN (l:List PL):Nat:=(l.flatMap fun p=>p.2).length
theorem b4K (l:List PL) (x:PL):chN (l++[x])=chN l+x.2.length:=by
 unfold chN
 rw [d4O,d2R]
 simp
structure SzC (ts:List Tok) (p0:Nat) (s:List PL×PE):Prop where
 hi:s.2.1<ts.length
 lo:p0≤s.2.1
 sz:chN s.1+2 * p0≤2 * s.2.1+2
 ln:s.1.length≤s.2.1+1
 ok:s.2.2=0→chN s.1+2 * p0+3≤2 * s.2.1∧s.1.length≤s.2.1
theorem b3h {ts:List Tok} (hE:o5 ts) {ex:PF} (hf:B8 ts ex) (he:∀p:PE,p.2≠0→ex p=(zPL,p)) {p0:Nat} {f:Bool} {s:List PL×PE} (hs:SzC ts p0 s) (h0:s.2.2=0):(chQ ts f s.2).1<ts.length∧SzC ts p0 (s.1++[(G3 ts ex (chQ ts f s.2)).1],(G3 ts ex (chQ ts f s.2)).2)∧s.2.1≤(G3 ts ex (chQ ts f s.2)).2.1∧((G3 ts ex (chQ ts f s.2)).2.2=0→s.2.1+1≤(G3 ts ex (chQ ts f s.2)).2.1):=by
 have hq:(chQ ts f s.2).1<ts.length∧s.2.1≤(chQ ts f s.2).1:=by
  unfold chQ
  cases f with
  | true=>exact ⟨hs.hi,d3b _⟩
  | false =>
   obtain ⟨c1,c2,c3⟩:=j8 (s:=a7W) hE hs.hi
   exact ⟨c1,c2⟩
 generalize chQ ts f s.2=q at *
 have ha:=d0y hE hf he hq.1
 obtain ⟨o1,o2⟩:=hs.ok h0
 have l1:=ha.lo
 have l2:=ha.sz
 have l4:=ha.ok
 have s1:=hs.lo
 refine ⟨hq.1,⟨ha.hi,by simp only;omega,by simp only;rw [b4K];omega,by simp only [d2R,d2X,d3g];omega,fun h=>?_⟩,by omega,fun h=>by have:=(l4 h).2;omega⟩
 have:=(l4 h).2
 simp only
 rw [b4K]
 simp only [d2R,d2X,d3g]
 omega
theorem b3i {ts:List Tok} (hE:o5 ts) {ex:PF} (hf:B8 ts ex) (he:∀p:PE,p.2≠0→ex p=(zPL,p)) (p0:Nat):∀(k:Nat) (f:Bool) (s:List PL×PE),SzC ts p0 s→SzC ts p0 (chL ts ex k f s)∧((chL ts ex k f s).2.2=0→s.2.2=0)
 | 0,f,s,hs=>⟨hs,fun h=>h⟩
 | k+1,f,s,hs=>by
  rw [chL]
  split
  ·rename_i h
   have hst:=(b3h (f:=f) hE hf he hs h.1).2.1
   split
   ·exact ⟨hst,fun _=>h.1⟩
   ·exact ⟨(b3i hE hf he p0 k false _ hst).1,fun _=>h.1⟩
  ·exact ⟨hs,fun h=>h⟩
theorem b3j {ts:List Tok} (hE:o5 ts) {ex:PF} (hf:B8 ts ex) {p:PE} (hp:p.1<ts.length):SzC ts p.1 ([(ex p).1],j0 ts a4Z (ex p).2)∧((j0 ts a4Z (ex p).2).2=0→p.2=0):=by
 have hb:=hf p hp
 obtain ⟨c1,c2,c3⟩:=j8 (s:=a4Z) hE hb.hi
 have l1:=hb.lo
 have l2:=hb.sz
 have l4:=hb.ok
 refine ⟨⟨c1,by simp only;omega,?_,by simp,fun h=>?_⟩,fun h=>(l4 (c3 h).1).1⟩
 ·simp only [chN,d3j,d3m,d3f]
  omega
 ·obtain ⟨d1,d2⟩:=c3 h
  have:=(l4 d1).2
  simp only [chN,d3j,d3m,d3f,d2X,d3g]
  omega
theorem c4V {ts:List Tok} (hE:o5 ts) {ex:PF} (hf:B8 ts ex) (he:∀p:PE,p.2≠0→ex p=(zPL,p)) (pl:Int) {a:Nat} (hp:a+1<ts.length):FitP ts (a,0) (Y0 ts ex pl (a+1,0)):=by
 obtain ⟨a1,a2⟩:=b3j hE hf (p:=(a+1,0)) hp
 have hB:=(b3i hE hf he (a+1) ts.length true _ a1).1
 unfold Y0
 generalize chL ts ex ts.length true ([(ex (a+1,0)).1],j0 ts a4Z (ex (a+1,0)).2)=s at *
 obtain ⟨c1,c2,c3⟩:=j8 (s:=Z7) hE hB.hi
 have l1:=hB.lo
 have l2:=hB.sz
 have l4:=hB.ok
 have e:(s8 48 ⟨#[]⟩ ⟨#[]⟩ pl s.1).2.length=chN s.1+1:=rfl
 refine ⟨by simp only;omega,c1,by simp only;omega,fun h=>⟨rfl,?_⟩⟩
 obtain ⟨d1,d2⟩:=c3 h
 have:=(l4 d1).1
 simp only
 omega
def c5S (ts:List Tok) (ex:PF) (p0:Nat) (rr:List PL×PE) (s:ST) (R:List (List D)) (b:Bool) (m:Nat):Prop:=∃(l:List PL) (p:PE) (k:Nat),s=stP ts p∧R=rP l∧SzC ts p0 (l,p)∧(p.2=0→ts.length - p.1≤k)∧m=2 * (ts.length - p.1)+(if p.2=0 then 1 else 0)∧rr=chL ts ex k b (l,p)
theorem c4W (l:List PL) (x:PL):rP (l++[x])=rP l++[cP x]:=by unfold rP;rw [d3Q];rfl
theorem c2I {ts:List Tok} (hE:o5 ts) (hl:ts.length≤65537) {L:Int} (hL1:0≤L) (hL2:L≤1048576) {ex:PF} (hf:B8 ts ex) (he:∀p:PE,p.2≠0→ex p=(zPL,p)) (hx:∀p:PE,p.1<ts.length→L3 19 [vi .i64 (L+1)] ts p [.ag (A7 (cP (ex p).1))] (ex p).2) (pl:Int) {p:PE} (hp:p.1<ts.length) :
  L3 155 [vi .i64 L,vi .i64 pl] ts p [.ag (A7 (cP (Y0 ts ex pl p).1))] (Y0 ts ex pl p).2:=by
 have hl2:ts.length≤1048576:=by omega
 obtain ⟨a1,a2⟩:=b3j hE hf hp
 have hB:=(b3i hE hf he p.1 ts.length true _ a1).1
 obtain ⟨rr,hrr⟩:∃rr,rr=chL ts ex ts.length true ([(ex p).1],j0 ts a4Z (ex p).2):=⟨_,rfl⟩
 unfold Y0
 rw [←hrr] at hB ⊢
 obtain ⟨z,hz⟩:=C2 (s8 48 ⟨#[]⟩ ⟨#[]⟩ pl rr.1)
 obtain ⟨x,hxx⟩:=C2 (ex p).1
 have hb:=hf p hp
 have h0:=hx p hp
 have h1:=N1 hl2 hb.hi a4Z
 have j1:=hB.hi
 have j2:=hB.sz
 have j3:=hB.ln
 have hov:c7K pl z (rP rr.1):=by
  have h48:chN rr.1≤1048576:=by omega
  have ho:=a2s 48 ⟨#[]⟩ ⟨#[]⟩ 0 false pl rr.1 (by omega) h48
  rw [show cP (y8 48 ⟨#[]⟩ ⟨#[]⟩ 0 false r7 pl rr.1)=cE z from hz] at ho
  exact ho
 have hi0:c5S ts ex p.1 rr (stP ts (j0 ts a4Z (ex p).2)) [cE x] true (2 * (ts.length - (j0 ts a4Z (ex p).2).1)+(if (j0 ts a4Z (ex p).2).2=0 then 1 else 0)):=⟨[(ex p).1],_,ts.length,rfl,by unfold rP;rw [d3c,d35,hxx],a1,fun _=>by omega,rfl,hrr⟩
 unfold L3 at h0 h1 ⊢
 simp only
 rw [hz]
 rw [hxx] at h0
 refine b9z hL1 hL2 (c5S ts ex p.1 rr) h0 h1 hi0 fun e1 q1 b1 R f m hinv=>?_
 obtain ⟨l,p',k,hst,hR,hsz,hk,hm,hr⟩:=hinv
 have hp':p'.1<ts.length:=hsz.hi
 have hln:l.length≤p'.1+1:=hsz.ln
 refine ⟨by rw [hR,c2k];omega,?_⟩
 have hok:=okP hl2 hp'
 have ha:b1=(p'.1:Int):=congrArg (fun s:ST=>s.2.2) hst
 have his:=c5L hl2 (a:=p'.1) hp' Z7
 rw [←ha] at his
 unfold L3 at hok
 rw [←hst] at hok
 by_cases hc:p'.2=0∧L7 (j6 ts p'.1) Z7=false
 ·rw [hc.1] at hok
  rw [hc.2] at his
  obtain ⟨c1,c2,c3,c4⟩:=b3h (f:=f) (s:=(l,p')) hE hf he hsz hc.1
  obtain ⟨y,hy⟩:=c4U ts ex (chQ ts f p')
  have harm:=d0z hE hl hL1 hL2 hf hx c1
  have hkk:=hk hc.1
  have hq:f=true∧stP ts (chQ ts f p')=(e1,q1,b1)∨f=false∧C5 28 [vs a7W] (C9 ts) (e1,q1,b1) [] (stP ts (chQ ts f p')):=by
   cases f with
   | true=>exact .inl ⟨rfl,hst.symm⟩
   | false =>
    have hw:=N1 hl2 hp' a7W
    unfold L3 at hw
    rw [←hst] at hw
    exact .inr ⟨rfl,hw⟩
  unfold L3 at harm
  simp only at c2 c3 c4 harm
  rw [hy] at harm
  have hR2:R++[cO (if A2 ts J4 (chQ ts f p')=true then 50 else 49) y]=rP (l++[(G3 ts ex (chQ ts f p')).1]):=by rw [c4W,hR,hy]
  match k,hkk,hr with
  | 0,hkk,_=>omega
  | k+1,hkk,hr =>
   rw [chL,d2S hc] at hr
   simp only at hr
   refine .inl ⟨hok,his,_,_,_,y,hq,harm,?_⟩
   rw [hR2]
   by_cases hel:A2 ts J4 (chQ ts f p')=true
   ·rw [d2S hel] at hr ⊢
    have hw:=N1 hl2 (p:=(G3 ts ex (chQ ts f p')).2) c2.hi Z7
    refine .inr ⟨rfl,?_,by rw [hr] at hov;exact hov⟩
    rw [hr]
    exact hw
   ·rw [d2T hel] at hr ⊢
    refine .inl ⟨by decide,2 * (ts.length - (G3 ts ex (chQ ts f p')).2.1)+(if (G3 ts ex (chQ ts f p')).2.2=0 then 1 else 0),⟨_,_,k,rfl,rfl,c2,fun h=>by have:=c4 h;omega,rfl,hr⟩,?_⟩
    rw [hm,d2S hc.1]
    split
    ·rename_i h
     have:=c4 h
     omega
    ·omega
 ·rw [a75 hc] at hr
  have hw:=N1 hl2 hp' Z7
  unfold L3 at hw
  rw [←hst] at hw
  refine .inr ⟨?_,by rw [hr];exact hw,by rw [hr] at hov;rw [hR];exact hov⟩
  by_cases h0:p'.2=0
  ·rw [h0] at hok
   have h1:L7 (j6 ts p'.1) Z7=true:=by
    cases hg:L7 (j6 ts p'.1) Z7 with
    | true=>rfl
    | false=>exact absurd ⟨h0,hg⟩ hc
   rw [h1] at his
   exact .inr ⟨hok,his⟩
  ·rw [d2Y h0] at hok
   exact .inl hok
theorem a5p {ts:List Tok} {s:ByteArray} {p:PE} (h:A2 ts s p=true):skP ts s p=(p.1+1,0):=by unfold skP;rw [d2S h]
theorem a6G {ts:List Tok} {s:ByteArray} {p:PE} (h:A2 ts s p=false):skP ts s p=p:=by unfold skP;rw [h];rfl
def a1e (ts:List Tok) (n:Nat) (ex:PF) (pl:Int) (p:PE):PL×PE :=
 if A2 ts a5P (ex p).2=true then (y8 51 ⟨#[]⟩ ⟨#[]⟩ 0 true (P9 ts (n - 1) ((ex p).2.1+1,0)).1 pl [(ex p).1],j0 ts a0H (P9 ts (n - 1) ((ex p).2.1+1,0)).2) else ((ex p).1,j0 ts a0H (ex p).2)
theorem c4X {ts:List Tok} (hE:o5 ts) (n:Nat) {ex:PF} (hf:B8 ts ex) (pl:Int) {a:Nat} (hp:a+1<ts.length):FitP ts (a,0) (a1e ts n ex pl (a+1,0)):=by
 have hb:=hf (a+1,0) hp
 have l1:=hb.lo
 have l2:=hb.sz
 have l3:=hb.hi
 have l4:=hb.ok
 simp only at l1 l2 l4
 unfold a1e
 split
 ·rename_i h
  obtain ⟨k1,k2⟩:=o8 hE l3 h
  have:=(l4 k2).2
  obtain ⟨d1,d2,d3⟩:=a40 hE (n - 1) (p:=((ex (a+1,0)).2.1+1,0)) k1
  obtain ⟨c1,c2,c3⟩:=j8 (s:=a0H) hE d1
  simp only at d2
  have e:(y8 51 ⟨#[]⟩ ⟨#[]⟩ 0 true (P9 ts (n - 1) ((ex (a+1,0)).2.1+1,0)).1 pl [(ex (a+1,0)).1]).2.length=(ex (a+1,0)).1.2.length+1:=by simp [y8]
  exact ⟨by simp only;omega,c1,by simp only;omega,fun h=>⟨rfl,by simp only;omega⟩⟩
 ·obtain ⟨c1,c2,c3⟩:=j8 (s:=a0H) hE l3
  refine ⟨by simp only;omega,c1,by simp only;omega,fun h=>⟨rfl,?_⟩⟩
  obtain ⟨d1,d2⟩:=c3 h
  have:=(l4 d1).2
  simp only
  omega
theorem c4Y {ts:List Tok} (hE:o5 ts) (hN:a0n ts) (hl:ts.length≤65537) (n:Nat) (L:Int) (hv:T6 n L) (hL:L≤1048575) {ex:PF} (hf:B8 ts ex) (hx:∀p:PE,p.1<ts.length→L3 19 [vi .i64 (L+1)] ts p [.ag (A7 (cP (ex p).1))] (ex p).2) (pl:Int) {p:PE} (hp:p.1<ts.length) :
  L3 153 [vi .i64 L,vi .i64 pl] ts p [.ag (A7 (cP (a1e ts n ex pl p).1))] (a1e ts n ex pl p).2:=by
 have hl2:ts.length≤1048576:=by omega
 have hb:=hf p hp
 have i1:=hb.sz
 have i2:=hb.hi
 have h0:=hx p hp
 have h1:=a0E hl2 hb.hi a5P
 obtain ⟨x,hxx⟩:=C2 (ex p).1
 rw [hxx] at h0
 unfold a1e
 by_cases h:A2 ts a5P (ex p).2=true
 ·rw [d2S h]
  obtain ⟨k1,k2⟩:=o8 hE hb.hi h
  rw [h,a5p h] at h1
  have h2:=c28 hE hN hl (n - 1) (L+1) (a4T hv) (p:=((ex p).2.1+1,0)) k1
  obtain ⟨d1,_,_⟩:=a40 hE (n - 1) (p:=((ex p).2.1+1,0)) k1
  have h3:=N1 hl2 d1 a0H
  generalize P9 ts (n - 1) ((ex p).2.1+1,0)=kw at *
  obtain ⟨y,hy⟩:=a6E kw.1
  obtain ⟨z,hz⟩:=C2 (y8 51 ⟨#[]⟩ ⟨#[]⟩ 0 true kw.1 pl [(ex p).1])
  have ho:=c23 51 ⟨#[]⟩ ⟨#[]⟩ 0 true kw.1 y hy pl [(ex p).1] (by simp) (by simp only [d3j,d3m,d3f];omega)
  rw [hz,show rP [(ex p).1]=[cE x] by unfold rP;rw [d3c,d35,hxx]] at ho
  rw [hy] at h2
  simp only
  rw [hz]
  exact b9r ho (a38 hv hL).1 (a38 hv hL).2 h0 h1 h2 h3
 ·rw [d2T h]
  replace h:A2 ts a5P (ex p).2=false:=by simpa using h
  rw [h,a6G h] at h1
  simp only
  rw [hxx]
  exact c2x (a38 hv hL).1 (a38 hv hL).2 h0 h1 (N1 hl2 hb.hi a0H)
abbrev b3k:ByteArray:=⟨#[58,61]⟩
def T8 (ts:List Tok) (ex:PF) (pl:Int) (p:PE):PL×PE :=
 if A2 ts U6 p=true then (J3 41 ⟨#[]⟩ 0 pl,(p.1+1,0))
 else if A2 ts b3k (i9 ts p).2=true then
  (s8 45 (i9 ts p).1 ⟨#[]⟩ pl [(ex ((i9 ts p).2.1+1,0)).1,(ex (j0 ts H6 (ex ((i9 ts p).2.1+1,0)).2)).1],j0 ts U6 (ex (j0 ts H6 (ex ((i9 ts p).2.1+1,0)).2)).2)
 else Y9 ts ex pl (i9 ts p).1 (i9 ts p).2
theorem c2J {ts:List Tok} (hE:o5 ts) (hl:ts.length≤65537) {L:Int} (hL1:0≤L) (hL2:L≤1048576) {ex:PF} (hf:B8 ts ex) (he:∀p:PE,p.2≠0→ex p=(zPL,p)) (hx:∀p:PE,p.1<ts.length→L3 19 [vi .i64 (L+1)] ts p [.ag (A7 (cP (ex p).1))] (ex p).2) (pl:Int) {p:PE} (hp:p.1<ts.length) :
  L3 154 [vi .i64 L,vi .i64 pl] ts p [.ag (A7 (cP (T8 ts ex pl p).1))] (T8 ts ex pl p).2:=by
 have hl2:ts.length≤1048576:=by omega
 have h0:=a0E hl2 hp U6
 unfold T8
 by_cases h:A2 ts U6 p=true
 ·rw [d2S h]
  rw [h,a5p h] at h0
  obtain ⟨z,hz⟩:=C2 (J3 41 ⟨#[]⟩ 0 pl)
  have ho:=b6j 41 ⟨#[]⟩ 0 pl
  rw [hz] at ho
  simp only
  rw [hz]
  exact c4E ho h0
 ·rw [d2T h]
  replace h:A2 ts U6 p=false:=by simpa using h
  rw [h,a6G h] at h0
  have h1:=a1I hl2 hp
  obtain ⟨b1,_,_⟩:=A0 hE hp
  have h2:=a0E hl2 b1 b3k
  by_cases h3:A2 ts b3k (i9 ts p).2=true
  ·rw [d2S h3]
   obtain ⟨k1,k2⟩:=o8 hE b1 h3
   rw [h3,a5p h3] at h2
   have h4:=hx ((i9 ts p).2.1+1,0) k1
   have hb:=hf ((i9 ts p).2.1+1,0) k1
   have h5:=N1 hl2 hb.hi H6
   obtain ⟨c1,_,_⟩:=j8 (s:=H6) hE hb.hi
   have h6:=hx _ c1
   have hb2:=hf _ c1
   have h7:=N1 hl2 hb2.hi U6
   obtain ⟨x,hxx⟩:=C2 (ex ((i9 ts p).2.1+1,0)).1
   obtain ⟨y,hyy⟩:=C2 (ex (j0 ts H6 (ex ((i9 ts p).2.1+1,0)).2)).1
   obtain ⟨z,hz⟩:=C2 (s8 45 (i9 ts p).1 ⟨#[]⟩ pl [(ex ((i9 ts p).2.1+1,0)).1,(ex (j0 ts H6 (ex ((i9 ts p).2.1+1,0)).2)).1])
   have i1:=hb.sz
   have i2:=hb.hi
   have i3:=hb2.sz
   have i4:=hb2.hi
   have ho:=a2s 45 (i9 ts p).1 ⟨#[]⟩ 0 false pl [(ex ((i9 ts p).2.1+1,0)).1,(ex (j0 ts H6 (ex ((i9 ts p).2.1+1,0)).2)).1] (by simp) (by simp only [d3j,d3m,d3f,d2R];omega)
   rw [show cP (y8 45 (i9 ts p).1 ⟨#[]⟩ 0 false r7 pl [(ex ((i9 ts p).2.1+1,0)).1,(ex (j0 ts H6 (ex ((i9 ts p).2.1+1,0)).2)).1])=cE z from hz,show rP [(ex ((i9 ts p).2.1+1,0)).1,(ex (j0 ts H6 (ex ((i9 ts p).2.1+1,0)).2)).1]=[cE x,cE y] by unfold rP;rw [d3c,d3c,d35,hxx,hyy]] at ho
   rw [hxx] at h4
   rw [hyy] at h6
   simp only
   rw [hz]
   exact c4N ho hL1 hL2 h0 h1 h2 h4 h5 h6 h7
  ·rw [d2T h3]
   replace h3:A2 ts b3k (i9 ts p).2=false:=by simpa using h3
   rw [h3,a6G h3] at h2
   have h4:=c2H hE hl hL1 hL2 hf he hx pl (i9 ts p).1 b1
   obtain ⟨x,hxx⟩:=C2 (Y9 ts ex pl (i9 ts p).1 (i9 ts p).2).1
   rw [hxx] at h4 ⊢
   exact c4F h0 h1 h2 h4
theorem c2K {ts:List Tok} (hE:o5 ts) {ex:PF} (hf:B8 ts ex) (he:∀p:PE,p.2≠0→ex p=(zPL,p)) (pl:Int) {a:Nat} (hp:a+1<ts.length):FitP ts (a,0) (T8 ts ex pl (a+1,0)):=by
 unfold T8
 split
 ·rename_i h
  obtain ⟨k1,k2⟩:=o8 hE (p:=(a+1,0)) hp h
  exact ⟨by show a≤a+1+1;omega,k1,by show 1+2 * a≤2 * (a+1+1)+2;omega,fun _=>⟨rfl,by show 1+2 * a+1≤2 * (a+1+1);omega⟩⟩
 ·obtain ⟨b1,b2,b3⟩:=A0 hE (p:=(a+1,0)) hp
  simp only at b2 b3
  split
  ·rename_i h
   obtain ⟨k1,k2⟩:=o8 hE b1 h
   have b3:=(b3 k2).2
   generalize (i9 ts (a+1,0)).2=w at *
   have hb:=hf (w.1+1,0) k1
   generalize ex (w.1+1,0)=e1 at *
   obtain ⟨c1,c2,c3⟩:=j8 (s:=H6) hE hb.hi
   have hb2:=hf _ c1
   have he2:=he (j0 ts H6 e1.2)
   generalize j0 ts H6 e1.2=r at *
   obtain ⟨d1,d2,d3⟩:=j8 (s:=U6) hE hb2.hi
   have l1:=hb.lo
   have l2:=hb.sz
   have l4:=hb.ok
   have m1:=hb2.lo
   have m2:=hb2.sz
   have m4:=hb2.ok
   simp only at l1 l2 l4
   have e:(s8 45 (i9 ts (a+1,0)).1 ⟨#[]⟩ pl [e1.1,(ex r).1]).2.length=e1.1.2.length+(ex r).1.2.length+1:=by simp [s8,y8]
   refine ⟨by simp only;omega,d1,?_,fun h=>⟨rfl,?_⟩⟩
   ·simp only
    by_cases h0:r.2=0
    ·have:=(l4 (c3 h0).1).2
     omega
    ·have e0:=he2 h0
     rw [e0] at e d2 m1 ⊢
     have:(zPL:PL).2.length=0:=rfl
     simp only at e d2 ⊢
     omega
   ·obtain ⟨g1,g2⟩:=d3 h
    have h5:=m4 g1
    have:=(l4 (c3 h5.1).1).2
    simp only
    omega
  ·have h1:=a42 hE hf he pl (i9 ts (a+1,0)).1 b1
   refine ⟨by have:=h1.lo;simp only;omega,h1.hi,by have:=h1.sz;simp only;omega,fun h=>⟨rfl,by have:=(h1.ok h).2;simp only;omega⟩⟩
abbrev b4L:ByteArray:=⟨#[116,114,117,101]⟩
abbrev b0p:ByteArray:=⟨#[102,97,108,115,101]⟩
abbrev b0q:ByteArray:=⟨#[123]⟩
abbrev b4M:ByteArray:=⟨#[99,97,115,101]⟩
abbrev a6H:List ByteArray:=[b4L,b0p,a0G,b0q,b4M]
def a0v (ts:List Tok) (n:Nat) (ex:PF) (p:PE):PL×PE :=
 if p.2≠0 then (zPL,p)
 else if (j6 ts p.1).kind=1 then (J3 32 (j6 ts p.1).text 0 (j6 ts p.1).at_,(p.1+1,0))
 else if (j6 ts p.1).kind=2 then (J3 33 ⟨#[]⟩ (j6 ts p.1).n (j6 ts p.1).at_,(p.1+1,0))
 else if A2 ts b4L p=true then (J3 34 ⟨#[]⟩ 1 (j6 ts p.1).at_,(p.1+1,0))
 else if A2 ts b0p p=true then (J3 34 ⟨#[]⟩ 0 (j6 ts p.1).at_,(p.1+1,0))
 else if A2 ts a0G p=true then a1e ts n ex (j6 ts p.1).at_ (p.1+1,0)
 else if A2 ts b0q p=true then T8 ts ex (j6 ts p.1).at_ (p.1+1,0)
 else if A2 ts b4M p=true then Y0 ts ex (j6 ts p.1).at_ (p.1+1,0)
 else (zPL,E7 5 p)
theorem b0r {ts:List Tok} (hE:o5 ts) (n:Nat) {ex:PF} (hf:B8 ts ex) (he:∀p:PE,p.2≠0→ex p=(zPL,p)) {p:PE} (hp:p.1<ts.length):FitP ts p (a0v ts n ex p):=by
 obtain ⟨a,c⟩:=p
 have leaf:∀(op:Int) (nm:ByteArray) (m at_:Int),c=0→a+1<ts.length→FitP ts (a,c) (J3 op nm m at_,(a+1,0)):=fun op nm m at_ h1 h2=>⟨by show a≤a+1;omega,h2,by show 1+2 * a≤2 * (a+1)+2;omega,fun _=>⟨h1,by show 1+2 * a+1≤2 * (a+1);omega⟩⟩
 have none:∀q:PE,q.1=a→q.2≠0→FitP ts (a,c) (zPL,q):=fun q h1 h2=>⟨by simp only;omega,by show q.1<_;omega,by show 0+2 * a≤2 * q.1+2;omega,fun h=>absurd h h2⟩
 unfold a0v
 by_cases h0:c=0
 ·subst h0
  rw [d2T (by simp)]
  simp only at hp ⊢
  by_cases k1:(j6 ts a).kind=1
  ·rw [d2S k1]
   exact leaf _ _ _ _ rfl (hE _ hp (by rw [k1];decide))
  rw [d2T k1]
  by_cases k2:(j6 ts a).kind=2
  ·rw [d2S k2]
   exact leaf _ _ _ _ rfl (hE _ hp (by rw [k2];decide))
  rw [d2T k2]
  split
  ·rename_i h;exact leaf _ _ _ _ rfl (o8 hE (p:=(a,0)) hp h).1
  split
  ·rename_i h;exact leaf _ _ _ _ rfl (o8 hE (p:=(a,0)) hp h).1
  split
  ·rename_i h;exact c4X hE n hf _ (o8 hE (p:=(a,0)) hp h).1
  split
  ·rename_i h;exact c2K hE hf he _ (o8 hE (p:=(a,0)) hp h).1
  split
  ·rename_i h;exact c4V hE hf he _ (o8 hE (p:=(a,0)) hp h).1
  ·obtain ⟨f1,f2⟩:=G2 5 (by decide) (a,0)
   exact none _ f1 f2
 ·rw [d2S h0]
  exact none (a,c) rfl h0
theorem c7L {ts:List Tok} (hE:o5 ts) (hN:a0n ts) (hl:ts.length≤65537) (n:Nat) (L:Int) (hv:T6 n L) (hL:L≤1048575) {ex:PF} (hf:B8 ts ex) (he:∀p:PE,p.2≠0→ex p=(zPL,p)) (hx:∀p:PE,p.1<ts.length→L3 19 [vi .i64 (L+1)] ts p [.ag (A7 (cP (ex p).1))] (ex p).2) {p:PE} (hp:p.1<ts.length) :
  L3 142 [vi .i64 L] ts p [.ag (A7 (cP (a0v ts n ex p).1))] (a0v ts n ex p).2:=by
 have hl2:ts.length≤1048576:=by omega
 have hok:=okP hl2 hp
 obtain ⟨hb1,hb2⟩:=a38 hv hL
 obtain ⟨a,c⟩:=p
 by_cases h0:c=0
 ·subst h0
  have hpk:=c2r hl2 (a:=a) hp
  have hta:=c9P hl2 (a:=a) hp
  have hsg:=b0e hl2 (p:=(a,0)) hp a6H (by decide)
  have hleaf:∀(op:Int) (nm:ByteArray) (m:Int),∃z,cP (J3 op nm m (j6 ts a).at_)=cE z∧LfN op nm m (j6 ts a).at_ z:=fun op nm m=>by
   obtain ⟨z,hz⟩:=C2 (J3 op nm m (j6 ts a).at_)
   have ho:=b6j op nm m (j6 ts a).at_
   rw [hz] at ho
   exact ⟨z,hz,ho⟩
  unfold a0v
  rw [d2T (by simp)]
  simp only
  unfold L3 at hok hsg ⊢
  rw [c7x] at hok hsg ⊢
  by_cases k1:(j6 ts a).kind=1
  ·rw [d2S k1]
   rw [k1] at hpk hta
   obtain ⟨z,hz,ho⟩:=hleaf 32 (j6 ts a).text 0
   simp only
   rw [hz]
   exact c4I hok hpk hta ho
  rw [d2T k1]
  by_cases k2:(j6 ts a).kind=2
  ·rw [d2S k2]
   rw [k2] at hpk hta
   obtain ⟨z,hz,ho⟩:=hleaf 33 ⟨#[]⟩ (j6 ts a).n
   simp only
   rw [hz]
   exact c75 hok hpk hta ho
  rw [d2T k2]
  unfold a24 at hsg
  by_cases s1:A2 ts b4L (a,0)=true
  ·rw [d2S s1]
   rw [show n8 ts a6H (a,0)=some b4L by unfold a6H;rw [n8,d2S s1]] at hsg
   obtain ⟨z,hz,ho⟩:=hleaf 34 ⟨#[]⟩ 1
   simp only
   rw [hz]
   exact c4J (s2:=(0,0,0)) k1 k2 hok hpk hsg ho
  rw [d2T s1]
  by_cases s2:A2 ts b0p (a,0)=true
  ·rw [d2S s2]
   rw [show n8 ts a6H (a,0)=some b0p by unfold a6H;rw [n8,d2T s1,n8,d2S s2]] at hsg
   obtain ⟨z,hz,ho⟩:=hleaf 34 ⟨#[]⟩ 0
   simp only
   rw [hz]
   exact c21 (s2:=(0,0,0)) k1 k2 hok hpk hsg ho
  rw [d2T s2]
  by_cases s3:A2 ts a0G (a,0)=true
  ·rw [d2S s3]
   rw [show n8 ts a6H (a,0)=some a0G by unfold a6H;rw [n8,d2T s1,n8,d2T s2,n8,d2S s3]] at hsg
   have h2:=c4Y hE hN hl n L hv hL hf hx (j6 ts a).at_ (p:=(a+1,0)) (o8 hE (p:=(a,0)) hp s3).1
   obtain ⟨z,hz⟩:=C2 (a1e ts n ex (j6 ts a).at_ (a+1,0)).1
   rw [hz] at h2 ⊢
   exact c22 k1 k2 hok hpk hsg h2
  rw [d2T s3]
  by_cases s4:A2 ts b0q (a,0)=true
  ·rw [d2S s4]
   rw [show n8 ts a6H (a,0)=some b0q by unfold a6H;rw [n8,d2T s1,n8,d2T s2,n8,d2T s3,n8,d2S s4]] at hsg
   have h2:=c2J hE hl hb1 hb2 hf he hx (j6 ts a).at_ (p:=(a+1,0)) (o8 hE (p:=(a,0)) hp s4).1
   obtain ⟨z,hz⟩:=C2 (T8 ts ex (j6 ts a).at_ (a+1,0)).1
   rw [hz] at h2 ⊢
   exact b9j k1 k2 hok hpk hsg h2
  rw [d2T s4]
  by_cases s5:A2 ts b4M (a,0)=true
  ·rw [d2S s5]
   rw [show n8 ts a6H (a,0)=some b4M by unfold a6H;rw [n8,d2T s1,n8,d2T s2,n8,d2T s3,n8,d2T s4,n8,d2S s5]] at hsg
   have h2:=c2I hE hl hb1 hb2 hf he hx (j6 ts a).at_ (p:=(a+1,0)) (o8 hE (p:=(a,0)) hp s5).1
   obtain ⟨z,hz⟩:=C2 (Y0 ts ex (j6 ts a).at_ (a+1,0)).1
   rw [hz] at h2 ⊢
   exact b9k k1 k2 hok hpk hsg h2
  rw [d2T s5]
  rw [show n8 ts a6H (a,0)=none by unfold a6H;rw [n8,d2T s1,n8,d2T s2,n8,d2T s3,n8,d2T s4,n8,d2T s5,n8]] at hsg
  have h2:=b6i hl2 (p:=(a,0)) hp 5 (by decide)
  simp only
  rw [b0f]
  exact c4K k1 k2 hok hpk hsg h2
 ·unfold a0v
  rw [d2S h0]
  unfold L3 at hok ⊢
  rw [d2Y (show ((a,c):PE).2≠0 from h0)] at hok
  simp only
  rw [b0f]
  exact c74 hok
abbrev gAt:ByteArray:=⟨#[64]⟩
abbrev b0s:ByteArray:=⟨#[94]⟩
def a3B (ts:List Tok) (m:Nat) (op:Int) (pr:PF) (p:PE):PL×PE :=
 if m=0∨(i9 ts (p.1+1,0)).2.2≠0 then (zPL,K6 m (i9 ts (p.1+1,0)).2)
 else (s8 op (i9 ts (p.1+1,0)).1 ⟨#[]⟩ (j6 ts p.1).at_ [(pr (i9 ts (p.1+1,0)).2).1],(pr (i9 ts (p.1+1,0)).2).2)
def a76 (ts:List Tok) (m:Nat) (nx pr:PF) (p:PE):PL×PE :=
 if A2 ts gAt p=true then a3B ts m 46 pr p else if A2 ts b0s p=true then a3B ts m 47 pr p else nx p
theorem d00 {ts:List Tok} (hE:o5 ts) (m:Nat) {nx pr:PF} (hn:B8 ts nx) (hf:B8 ts pr):B8 ts (a76 ts m nx pr):=fun p hp=>by
 have key:∀(s:ByteArray) (op:Int),A2 ts s p=true→FitP ts p (a3B ts m op pr p):=fun s op h=>by
  obtain ⟨k1,k2⟩:=o8 hE hp h
  obtain ⟨b1,b2,b3⟩:=A0 hE (p:=(p.1+1,0)) k1
  simp only at b2 b3
  unfold a3B
  generalize (i9 ts (p.1+1,0)).1=w at *
  generalize (i9 ts (p.1+1,0)).2=q at *
  split
  ·rename_i hd
   have hq:(K6 m q).1=q.1∧(K6 m q).2≠0:=by
    unfold K6
    by_cases hm:m=0
    ·rw [d2S hm]
     exact G2 6 (by decide) q
    ·rw [d2T hm]
     exact ⟨rfl,hd.resolve_left hm⟩
   exact ⟨by simp only;omega,by simp only;omega,by show 0+2 * p.1≤2 * (K6 m q).1+2;omega,fun h=>absurd h hq.2⟩
  ·rename_i hd
   have hq:q.2=0:=by
    by_cases h0:q.2=0
    ·exact h0
    ·exact absurd (.inr h0) hd
   have hb3:=(b3 hq).2
   have hb:=hf q b1
   have l1:=hb.lo
   have l2:=hb.sz
   have l4:=hb.ok
   have e:(s8 op w ⟨#[]⟩ (j6 ts p.1).at_ [(pr q).1]).2.length=(pr q).1.2.length+1:=by simp [s8,y8]
   exact ⟨by simp only;omega,hb.hi,by simp only;omega,fun h=>⟨k2,by have:=(l4 h).2;simp only;omega⟩⟩
 unfold a76
 split
 ·rename_i h;exact key _ _ h
 split
 ·rename_i h;exact key _ _ h
 ·exact hn p hp
theorem d01 {ts:List Tok} (hE:o5 ts) (hl:ts.length≤65537) {m:Nat} {L:Int} (hL1:0≤L) (hL2:L≤1048576) (hm:m=0∧200<L+1∨m≠0∧L+1≤200) {nx pr:PF} (hf:B8 ts pr) (hx:∀p:PE,p.1<ts.length→L3 133 [vi .i64 L] ts p [.ag (A7 (cP (nx p).1))] (nx p).2)
  (hr:m≠0→∀p:PE,p.1<ts.length→p.2=0→L3 122 [vi .i64 (L+1)] ts p [.ag (A7 (cP (pr p).1))] (pr p).2) {p:PE} (hp:p.1<ts.length) :
  L3 122 [vi .i64 L] ts p [.ag (A7 (cP (a76 ts m nx pr p).1))] (a76 ts m nx pr p).2:=by
 have hl2:ts.length≤1048576:=by omega
 have h0:=a5o hl2 hp
 have hsg:=b0e hl2 hp [gAt,b0s] (by decide)
 unfold a24 at hsg
 unfold a76
 by_cases s1:A2 ts gAt p=true
 ·rw [d2S s1]
  rw [show n8 ts [gAt,b0s] p=some gAt by rw [n8,d2S s1]] at hsg
  obtain ⟨k1,k2⟩:=o8 hE hp s1
  have h2:=a1I hl2 (p:=(p.1+1,0)) k1
  obtain ⟨b1,_,_⟩:=A0 hE (p:=(p.1+1,0)) k1
  have h3:=b3b hl2 b1 hm
  unfold a3B
  split
  ·rename_i hd
   have hq:(K6 m (i9 ts (p.1+1,0)).2).2≠0:=by
    unfold K6
    by_cases h:m=0
    ·rw [d2S h]
     exact (G2 6 (by decide) _).2
    ·rw [d2T h]
     exact hd.resolve_left h
   rw [d2Y hq] at h3
   simp only
   rw [b0f]
   exact c2z hL1 hL2 h0 hsg h2 h3
  ·rename_i hd
   have hm0:m≠0:=fun h=>hd (.inl h)
   have hq:(i9 ts (p.1+1,0)).2.2=0:=by
    by_cases h0:(i9 ts (p.1+1,0)).2.2=0
    ·exact h0
    ·exact absurd (.inr h0) hd
   rw [show K6 m (i9 ts (p.1+1,0)).2=(i9 ts (p.1+1,0)).2 by unfold K6;rw [d2T hm0],hq] at h3
   have h4:=hr hm0 _ b1 hq
   have hb:=hf _ b1
   have i1:=hb.sz
   have i2:=hb.hi
   obtain ⟨x,hxx⟩:=C2 (pr (i9 ts (p.1+1,0)).2).1
   obtain ⟨z,hz⟩:=C2 (s8 46 (i9 ts (p.1+1,0)).1 ⟨#[]⟩ (j6 ts p.1).at_ [(pr (i9 ts (p.1+1,0)).2).1])
   have ho:=a2s 46 (i9 ts (p.1+1,0)).1 ⟨#[]⟩ 0 false (j6 ts p.1).at_ [(pr (i9 ts (p.1+1,0)).2).1] (by simp) (by simp only [d3j,d3m,d3f];omega)
   rw [show cP (y8 46 (i9 ts (p.1+1,0)).1 ⟨#[]⟩ 0 false r7 (j6 ts p.1).at_ [(pr (i9 ts (p.1+1,0)).2).1])=cE z from hz,show rP [(pr (i9 ts (p.1+1,0)).2).1]=[cE x] by unfold rP;rw [d3c,d35,hxx]] at ho
   rw [hxx] at h4
   simp only
   rw [hz]
   exact c4G ho hL1 hL2 h0 hsg h2 h3 h4
 rw [d2T s1]
 by_cases s2:A2 ts b0s p=true
 ·rw [d2S s2]
  rw [show n8 ts [gAt,b0s] p=some b0s by rw [n8,d2T s1,n8,d2S s2]] at hsg
  obtain ⟨k1,k2⟩:=o8 hE hp s2
  have h2:=a1I hl2 (p:=(p.1+1,0)) k1
  obtain ⟨b1,_,_⟩:=A0 hE (p:=(p.1+1,0)) k1
  have h3:=b3b hl2 b1 hm
  unfold a3B
  split
  ·rename_i hd
   have hq:(K6 m (i9 ts (p.1+1,0)).2).2≠0:=by
    unfold K6
    by_cases h:m=0
    ·rw [d2S h]
     exact (G2 6 (by decide) _).2
    ·rw [d2T h]
     exact hd.resolve_left h
   rw [d2Y hq] at h3
   simp only
   rw [b0f]
   exact c20 hL1 hL2 h0 hsg h2 h3
  ·rename_i hd
   have hm0:m≠0:=fun h=>hd (.inl h)
   have hq:(i9 ts (p.1+1,0)).2.2=0:=by
    by_cases h0:(i9 ts (p.1+1,0)).2.2=0
    ·exact h0
    ·exact absurd (.inr h0) hd
   rw [show K6 m (i9 ts (p.1+1,0)).2=(i9 ts (p.1+1,0)).2 by unfold K6;rw [d2T hm0],hq] at h3
   have h4:=hr hm0 _ b1 hq
   have hb:=hf _ b1
   have i1:=hb.sz
   have i2:=hb.hi
   obtain ⟨x,hxx⟩:=C2 (pr (i9 ts (p.1+1,0)).2).1
   obtain ⟨z,hz⟩:=C2 (s8 47 (i9 ts (p.1+1,0)).1 ⟨#[]⟩ (j6 ts p.1).at_ [(pr (i9 ts (p.1+1,0)).2).1])
   have ho:=a2s 47 (i9 ts (p.1+1,0)).1 ⟨#[]⟩ 0 false (j6 ts p.1).at_ [(pr (i9 ts (p.1+1,0)).2).1] (by simp) (by simp only [d3j,d3m,d3f];omega)
   rw [show cP (y8 47 (i9 ts (p.1+1,0)).1 ⟨#[]⟩ 0 false r7 (j6 ts p.1).at_ [(pr (i9 ts (p.1+1,0)).2).1])=cE z from hz,show rP [(pr (i9 ts (p.1+1,0)).2).1]=[cE x] by unfold rP;rw [d3c,d35,hxx]] at ho
   rw [hxx] at h4
   simp only
   rw [hz]
   exact c4H ho hL1 hL2 h0 hsg h2 h3 h4
 rw [d2T s2]
 rw [show n8 ts [gAt,b0s] p=none by rw [n8,d2T s1,n8,d2T s2,n8]] at hsg
 have h2:=hx p hp
 obtain ⟨x,hxx⟩:=C2 (nx p).1
 rw [hxx] at h2 ⊢
 exact c2y h0 hsg h2
abbrev b1M:ByteArray:=⟨#[102,117,110]⟩
abbrev b1O:ByteArray:=⟨#[114,101,99]⟩
abbrev b90:ByteArray:=⟨#[108,101,116]⟩
abbrev gIf:ByteArray:=⟨#[105,102]⟩
abbrev gIn:ByteArray:=⟨#[105,110]⟩
abbrev a1A:ByteArray:=⟨#[116,104,101,110]⟩
abbrev a5q:ByteArray:=⟨#[60]⟩
abbrev a6I:ByteArray:=⟨#[61,61]⟩
def c2M (ts:List Tok) (ex:PF) (a:Int) (w:ByteArray×PE):PL×PE:=(s8 38 w.1 ⟨#[]⟩ a [(ex (j0 ts C6 w.2)).1,(ex (j0 ts gIn (ex (j0 ts C6 w.2)).2)).1],(ex (j0 ts gIn (ex (j0 ts C6 w.2)).2)).2)
def ifW (ts:List Tok) (ex:PF) (a:Int) (e:PL×PE):PL×PE:=(s8 39 ⟨#[]⟩ ⟨#[]⟩ a [e.1,(ex (j0 ts a1A e.2)).1,(ex (j0 ts J4 (ex (j0 ts a1A e.2)).2)).1],(ex (j0 ts J4 (ex (j0 ts a1A e.2)).2)).2)
def b91 (ts:List Tok) (sm:PF) (a:Int) (s:PL×PE):PL×PE :=
 if A2 ts a5q s.2=true then (s8 40 a5q ⟨#[]⟩ a [s.1,(sm (s.2.1+1,0)).1],(sm (s.2.1+1,0)).2)
 else if A2 ts a6I s.2=true then (s8 40 a6I ⟨#[]⟩ a [s.1,(sm (s.2.1+1,0)).1],(sm (s.2.1+1,0)).2)
 else s
def a25 (ts:List Tok) (n:Nat) (ex sm:PF) (p:PE):PL×PE :=
 if p.2≠0 then (zPL,p)
 else if A2 ts b1M p=true then G8 ts n ex (j6 ts p.1).at_ false (p.1+1,0)
 else if A2 ts b1O p=true then G8 ts n ex (j6 ts p.1).at_ true (p.1+1,0)
 else if A2 ts b90 p=true then c2M ts ex (j6 ts p.1).at_ (i9 ts (p.1+1,0))
 else if A2 ts gIf p=true then ifW ts ex (j6 ts p.1).at_ (ex (p.1+1,0))
 else b91 ts sm (j6 ts p.1).at_ (sm p)
theorem b92 (ts:List Tok) (n:Nat) (ex sm:PF) (p:PE) (h:p.2≠0):a25 ts n ex sm p=(zPL,p):=by unfold a25;rw [d2S h]
theorem b3l (op:Int) (nm:ByteArray) (a:Int) (ks:List PL) (hn:ks.length≤1048576) (hf:(ks.flatMap fun p=>p.2).length≤1048576):∃z,cP (s8 op nm ⟨#[]⟩ a ks)=cE z∧OvN op nm ⟨#[]⟩ 0 false a (rP ks) z:=by
 obtain ⟨z,hz⟩:=C2 (s8 op nm ⟨#[]⟩ a ks)
 have ho:=a2s op nm ⟨#[]⟩ 0 false a ks hn hf
 rw [show cP (y8 op nm ⟨#[]⟩ 0 false r7 a ks)=cE z from hz] at ho
 exact ⟨z,hz,ho⟩
theorem c7M {ts:List Tok} (hE:o5 ts) (hN:a0n ts) (hl:ts.length≤65537) (n:Nat) (L:Int) (hv:T6 n L) (hn:1≤n) {ex sm:PF} (hf:B8 ts ex) (hsf:B8 ts sm) (hx:∀p:PE,p.1<ts.length→L3 19 [vi .i64 (L+1)] ts p [.ag (A7 (cP (ex p).1))] (ex p).2)
  (hs:∀p:PE,p.1<ts.length→L3 47 [vi .i64 L] ts p [.ag (A7 (cP (sm p).1))] (sm p).2) {p:PE} (hp:p.1<ts.length) :
  L3 19 [vi .i64 L] ts p [.ag (A7 (cP (a25 ts n ex sm p).1))] (a25 ts n ex sm p).2:=by
 have hl2:ts.length≤1048576:=by omega
 have hL:L≤200∧0≤L:=by unfold T6 at hv;omega
 have hn0:n≠0:=by omega
 have hd:=b3b hl2 hp (n:=n) (L:=L) (.inr ⟨hn0,hL.1⟩)
 rw [show K6 n p=p by unfold K6;rw [d2T hn0]] at hd
 have h1:=a5o hl2 hp
 unfold a25
 by_cases h0:p.2=0
 ·rw [d2T (fun h=>h h0)]
  rw [h0] at hd
  have g2:=a0E hl2 hp b1M
  by_cases s1:A2 ts b1M p=true
  ·rw [d2S s1]
   rw [s1,a5p s1] at g2
   have h3:=b0m hE hN hl n L hv (by omega) hf hx (j6 ts p.1).at_ false (p:=(p.1+1,0)) (o8 hE hp s1).1
   obtain ⟨z,hz⟩:=C2 (G8 ts n ex (j6 ts p.1).at_ false (p.1+1,0)).1
   rw [hz] at h3 ⊢
   exact c70 hd h1 g2 h3
  rw [d2T s1]
  replace s1:A2 ts b1M p=false:=by simpa using s1
  rw [s1,a6G s1] at g2
  have g3:=a0E hl2 hp b1O
  by_cases s2:A2 ts b1O p=true
  ·rw [d2S s2]
   rw [s2,a5p s2] at g3
   have h3:=b0m hE hN hl n L hv (by omega) hf hx (j6 ts p.1).at_ true (p:=(p.1+1,0)) (o8 hE hp s2).1
   obtain ⟨z,hz⟩:=C2 (G8 ts n ex (j6 ts p.1).at_ true (p.1+1,0)).1
   rw [hz] at h3 ⊢
   exact c71 hd h1 g2 g3 h3
  rw [d2T s2]
  replace s2:A2 ts b1O p=false:=by simpa using s2
  rw [s2,a6G s2] at g3
  have g4:=a0E hl2 hp b90
  by_cases s3:A2 ts b90 p=true
  ·rw [d2S s3]
   rw [s3,a5p s3] at g4
   obtain ⟨k1,_⟩:=o8 hE hp s3
   have h5:=a1I hl2 (p:=(p.1+1,0)) k1
   obtain ⟨b1,_,_⟩:=A0 hE (p:=(p.1+1,0)) k1
   generalize i9 ts (p.1+1,0)=w at *
   have h6:=N1 hl2 b1 C6
   obtain ⟨c1,_,_⟩:=j8 (s:=C6) hE b1
   have h7:=hx _ c1
   have hb:=hf _ c1
   unfold c2M
   generalize ex (j0 ts C6 w.2)=e1 at *
   have h8:=N1 hl2 hb.hi gIn
   obtain ⟨c2,_,_⟩:=j8 (s:=gIn) hE hb.hi
   have h9:=hx _ c2
   have hb2:=hf _ c2
   generalize ex (j0 ts gIn e1.2)=e2 at *
   have i1:=hb.sz
   have i2:=hb.hi
   have i3:=hb2.sz
   have i4:=hb2.hi
   obtain ⟨x,hxx⟩:=C2 e1.1
   obtain ⟨y,hyy⟩:=C2 e2.1
   obtain ⟨z,hz,ho⟩:=b3l 38 w.1 (j6 ts p.1).at_ [e1.1,e2.1] (by simp) (by simp only [d3j,d3m,d3f,d2R];omega)
   rw [show rP [e1.1,e2.1]=[cE x,cE y] by unfold rP;rw [d3c,d3c,d35,hxx,hyy]] at ho
   rw [hxx] at h7
   rw [hyy] at h9
   simp only
   rw [hz]
   exact c72 ho hL.2 (by omega) hd h1 g2 g3 g4 h5 h6 h7 h8 h9
  rw [d2T s3]
  replace s3:A2 ts b90 p=false:=by simpa using s3
  rw [s3,a6G s3] at g4
  have g5:=a0E hl2 hp gIf
  by_cases s4:A2 ts gIf p=true
  ·rw [d2S s4]
   rw [s4,a5p s4] at g5
   obtain ⟨k1,_⟩:=o8 hE hp s4
   have h6:=hx (p.1+1,0) k1
   have hb:=hf (p.1+1,0) k1
   unfold ifW
   generalize ex (p.1+1,0)=e1 at *
   have h7:=N1 hl2 hb.hi a1A
   obtain ⟨c1,_,_⟩:=j8 (s:=a1A) hE hb.hi
   have h8:=hx _ c1
   have hb2:=hf _ c1
   generalize ex (j0 ts a1A e1.2)=e2 at *
   have h9:=N1 hl2 hb2.hi J4
   obtain ⟨c2,_,_⟩:=j8 (s:=J4) hE hb2.hi
   have h10:=hx _ c2
   have hb3:=hf _ c2
   generalize ex (j0 ts J4 e2.2)=e3 at *
   have i1:=hb.sz
   have i2:=hb.hi
   have i3:=hb2.sz
   have i4:=hb2.hi
   have i5:=hb3.sz
   have i6:=hb3.hi
   obtain ⟨x,hxx⟩:=C2 e1.1
   obtain ⟨y,hyy⟩:=C2 e2.1
   obtain ⟨u,huu⟩:=C2 e3.1
   obtain ⟨z,hz,ho⟩:=b3l 39 ⟨#[]⟩ (j6 ts p.1).at_ [e1.1,e2.1,e3.1] (by simp) (by simp only [d3j,d3m,d3f,d2R];omega)
   rw [show rP [e1.1,e2.1,e3.1]=[cE x,cE y,cE u] by unfold rP;rw [d3c,d3c,d3c,d35,hxx,hyy,huu]] at ho
   rw [hxx] at h6
   rw [hyy] at h8
   rw [huu] at h10
   simp only
   rw [hz]
   exact c9S ho hL.2 (by omega) hd h1 g2 g3 g4 g5 h6 h7 h8 h9 h10
  rw [d2T s4]
  replace s4:A2 ts gIf p=false:=by simpa using s4
  rw [s4,a6G s4] at g5
  have h6:=hs p hp
  have hb:=hsf p hp
  have i1:=hb.sz
  have i2:=hb.hi
  obtain ⟨x,hxx⟩:=C2 (sm p).1
  have h7:=a0E hl2 hb.hi a5q
  unfold b91
  by_cases s5:A2 ts a5q (sm p).2=true
  ·obtain ⟨k1,k2⟩:=o8 hE hb.hi s5
   have h9:=hs ((sm p).2.1+1,0) k1
   have hb2:=hsf ((sm p).2.1+1,0) k1
   have i3:=hb2.sz
   have i4:=hb2.hi
   obtain ⟨y,hyy⟩:=C2 (sm ((sm p).2.1+1,0)).1
   obtain ⟨z,hz,ho⟩:=b3l 40 a5q (j6 ts p.1).at_ [(sm p).1,(sm ((sm p).2.1+1,0)).1] (by simp) (by simp only [d3j,d3m,d3f,d2R];omega)
   rw [show rP [(sm p).1,(sm ((sm p).2.1+1,0)).1]=[cE x,cE y] by unfold rP;rw [d3c,d3c,d35,hxx,hyy]] at ho
   rw [d2S s5]
   rw [s5,a5p s5] at h7
   rw [hxx] at h6
   rw [hyy] at h9
   simp only
   rw [hz]
   exact c9T ho hd h1 g2 g3 g4 g5 h6 h7 h9
  rw [d2T s5]
  replace s5:A2 ts a5q (sm p).2=false:=by simpa using s5
  rw [s5,a6G s5] at h7
  have h8:=a0E hl2 hb.hi a6I
  by_cases s6:A2 ts a6I (sm p).2=true
  ·obtain ⟨k1,k2⟩:=o8 hE hb.hi s6
   have h9:=hs ((sm p).2.1+1,0) k1
   have hb2:=hsf ((sm p).2.1+1,0) k1
   have i3:=hb2.sz
   have i4:=hb2.hi
   obtain ⟨y,hyy⟩:=C2 (sm ((sm p).2.1+1,0)).1
   obtain ⟨z,hz,ho⟩:=b3l 40 a6I (j6 ts p.1).at_ [(sm p).1,(sm ((sm p).2.1+1,0)).1] (by simp) (by simp only [d3j,d3m,d3f,d2R];omega)
   rw [show rP [(sm p).1,(sm ((sm p).2.1+1,0)).1]=[cE x,cE y] by unfold rP;rw [d3c,d3c,d35,hxx,hyy]] at ho
   rw [d2S s6]
   rw [s6,a5p s6] at h8
   rw [hxx] at h6
   rw [hyy] at h9
   simp only
   rw [hz]
   exact c9U ho hd h1 g2 g3 g4 g5 h6 h7 h8 h9
  rw [d2T s6]
  replace s6:A2 ts a6I (sm p).2=false:=by simpa using s6
  rw [s6,a6G s6] at h8
  rw [hxx] at h6 ⊢
  exact c73 hd h1 g2 g3 g4 g5 h6 h7 h8
 ·rw [d2S h0]
  rw [d2Y h0] at hd
  simp only
  rw [b0f]
  exact b7J hd
theorem c7N {ts:List Tok} (hE:o5 ts) (n:Nat) {ex sm:PF} (hf:B8 ts ex) (he:∀p:PE,p.2≠0→ex p=(zPL,p)) (hs:B8 ts sm):B8 ts (a25 ts n ex sm):=fun p hp=>by
 have z0:(zPL:PL).2.length=0:=rfl
 have next:∀(q:PE) (r:PL×PE),p.1+1≤q.1→p.2=0→FitP ts q r→FitP ts p r:=fun q r h1 h2 h=>⟨by have:=h.lo;omega,h.hi,by have:=h.sz;omega,fun h0=>⟨h2,by have:=(h.ok h0).2;omega⟩⟩
 unfold a25
 by_cases h0:p.2=0
 ·rw [d2T (fun h=>h h0)]
  split
  ·rename_i h
   exact next (p.1+1,0) _ (d3b _) h0 (b1J hE n hf he _ _ (o8 hE hp h).1)
  split
  ·rename_i h
   exact next (p.1+1,0) _ (d3b _) h0 (b1J hE n hf he _ _ (o8 hE hp h).1)
  split
  ·rename_i h
   obtain ⟨k1,_⟩:=o8 hE hp h
   obtain ⟨b1,b2,b3⟩:=A0 hE (p:=(p.1+1,0)) k1
   simp only at b2 b3
   generalize i9 ts (p.1+1,0)=w at *
   unfold c2M
   obtain ⟨c1,c2,c3⟩:=j8 (s:=C6) hE b1
   have hb:=hf _ c1
   have e1:=he (j0 ts C6 w.2)
   generalize j0 ts C6 w.2=q at *
   obtain ⟨d1,d2,d3⟩:=j8 (s:=gIn) hE hb.hi
   have l1:=hb.lo
   have l2:=hb.sz
   have l4:=hb.ok
   have hb2:=hf _ d1
   have e2:=he (j0 ts gIn (ex q).2)
   generalize j0 ts gIn (ex q).2=r at *
   have m1:=hb2.lo
   have m2:=hb2.sz
   have m4:=hb2.ok
   have el:(s8 38 w.1 ⟨#[]⟩ (j6 ts p.1).at_ [(ex q).1,(ex r).1]).2.length=(ex q).1.2.length+(ex r).1.2.length+1:=by simp [s8,y8]
   refine ⟨by simp only;omega,hb2.hi,?_,fun h=>⟨h0,?_⟩⟩
   ·simp only
    rw [el]
    by_cases hr:r.2=0
    ·have:=(l4 (d3 hr).1).2
     omega
    ·have e2:=e2 hr
     rw [e2] at m1 ⊢
     simp only at m1 ⊢
     omega
   ·have:=m4 h
    have:=(l4 (d3 this.1).1).2
    simp only
    rw [el]
    omega
  split
  ·rename_i h
   obtain ⟨k1,_⟩:=o8 hE hp h
   have ha:=hf (p.1+1,0) k1
   generalize ex (p.1+1,0)=a at *
   have j1:=ha.lo
   have j2:=ha.sz
   have j4:=ha.ok
   simp only at j1 j2 j4
   unfold ifW
   obtain ⟨c1,c2,c3⟩:=j8 (s:=a1A) hE ha.hi
   have hb:=hf _ c1
   have e1:=he (j0 ts a1A a.2)
   generalize j0 ts a1A a.2=q at *
   obtain ⟨d1,d2,d3⟩:=j8 (s:=J4) hE hb.hi
   have l1:=hb.lo
   have l2:=hb.sz
   have l4:=hb.ok
   have hb2:=hf _ d1
   have e2:=he (j0 ts J4 (ex q).2)
   generalize j0 ts J4 (ex q).2=r at *
   have m1:=hb2.lo
   have m2:=hb2.sz
   have m4:=hb2.ok
   have el:(s8 39 ⟨#[]⟩ ⟨#[]⟩ (j6 ts p.1).at_ [a.1,(ex q).1,(ex r).1]).2.length=a.1.2.length+((ex q).1.2.length+(ex r).1.2.length)+1:=by simp [s8,y8]
   refine ⟨by simp only;omega,hb2.hi,?_,fun h=>⟨h0,?_⟩⟩
   ·simp only
    rw [el]
    by_cases hq:q.2=0
    ·have:=(j4 (c3 hq).1).2
     by_cases hr:r.2=0
     ·have:=(l4 (d3 hr).1).2
      omega
     ·have e2:=e2 hr
      rw [e2] at m1 ⊢
      simp only at m1 ⊢
      omega
    ·have e1:=e1 hq
     have hr:r.2≠0:=fun h5=>by
      have h6:=(d3 h5).1
      rw [e1] at h6
      exact hq h6
     have e2:=e2 hr
     rw [e2] at m1 ⊢
     rw [e1] at l1 d2 ⊢
     simp only at l1 d2 m1 ⊢
     omega
   ·have h5:=m4 h
    have h6:=l4 (d3 h5.1).1
    have:=(j4 (c3 h6.1).1).2
    simp only
    rw [el]
    omega
  ·have ha:=hs p hp
   have j1:=ha.lo
   have j2:=ha.sz
   have j4:=ha.ok
   have two:∀(s g:ByteArray),A2 ts s (sm p).2=true→FitP ts p (s8 40 g ⟨#[]⟩ (j6 ts p.1).at_ [(sm p).1,(sm ((sm p).2.1+1,0)).1],(sm ((sm p).2.1+1,0)).2):=fun s g h=>by
    obtain ⟨k1,k2⟩:=o8 hE ha.hi h
    have hb:=hs ((sm p).2.1+1,0) k1
    have l1:=hb.lo
    have l2:=hb.sz
    have l4:=hb.ok
    simp only at l1 l2 l4
    have:=(j4 k2).2
    have el:(s8 40 g ⟨#[]⟩ (j6 ts p.1).at_ [(sm p).1,(sm ((sm p).2.1+1,0)).1]).2.length=(sm p).1.2.length+(sm ((sm p).2.1+1,0)).1.2.length+1:=by simp [s8,y8]
    exact ⟨by simp only;omega,hb.hi,by simp only;omega,fun h=>⟨h0,by have:=(l4 h).2;simp only;omega⟩⟩
   unfold b91
   split
   ·rename_i h;exact two _ _ h
   split
   ·rename_i h;exact two _ _ h
   ·exact ha
 ·rw [d2S h0]
  exact ⟨d3b _,hp,by show 0+2 * p.1≤2 * p.1+2;omega,fun h=>absurd h h0⟩
section
section
variable {ts:List Tok} (hE:o5 ts) {ex:PF} (hf:B8 ts ex) (he:∀p:PE,p.2≠0→ex p=(zPL,p)) {a:Nat} (hp:a+1<ts.length)
include hE hf hp
theorem b93 (n:Nat) (pl:Int):a+1≤(a1e ts n ex pl (a+1,0)).2.1:=by
 have hb:=hf (a+1,0) hp
 have l1:=hb.lo
 simp only at l1
 unfold a1e
 split
 ·rename_i h
  obtain ⟨k1,k2⟩:=o8 hE hb.hi h
  obtain ⟨d1,d2,d3⟩:=a40 hE (n - 1) (p:=((ex (a+1,0)).2.1+1,0)) k1
  obtain ⟨c1,c2,c3⟩:=j8 (s:=a0H) hE d1
  simp only at d2 ⊢
  omega
 ·obtain ⟨c1,c2,c3⟩:=j8 (s:=a0H) hE hb.hi
  simp only
  omega
include he
theorem b6l (pl:Int):a+1≤(T8 ts ex pl (a+1,0)).2.1:=by
 unfold T8
 split
 ·show a+1≤a+1+1
  omega
 ·obtain ⟨b1,b2,b3⟩:=A0 hE (p:=(a+1,0)) hp
  simp only at b2 b3
  split
  ·rename_i h
   obtain ⟨k1,k2⟩:=o8 hE b1 h
   have hb:=hf ((i9 ts (a+1,0)).2.1+1,0) k1
   obtain ⟨c1,c2,c3⟩:=j8 (s:=H6) hE hb.hi
   have hb2:=hf _ c1
   obtain ⟨d1,d2,d3⟩:=j8 (s:=U6) hE hb2.hi
   have l1:=hb.lo
   have l2:=hb2.lo
   simp only at l1 ⊢
   omega
  ·have h1:=(a42 hE hf he pl (i9 ts (a+1,0)).1 b1).lo
   omega
theorem b6m (pl:Int):a+1≤(Y0 ts ex pl (a+1,0)).2.1:=by
 obtain ⟨a1,a2⟩:=b3j hE hf (p:=(a+1,0)) hp
 have hB:=(b3i hE hf he (a+1) ts.length true _ a1).1
 unfold Y0
 generalize chL ts ex ts.length true ([(ex (a+1,0)).1],j0 ts a4Z (ex (a+1,0)).2)=s at *
 obtain ⟨c1,c2,c3⟩:=j8 (s:=Z7) hE hB.hi
 have l1:=hB.lo
 simp only
 omega
end
theorem c2N {ts:List Tok} (hE:o5 ts) (n:Nat) {ex:PF} (hf:B8 ts ex) (he:∀p:PE,p.2≠0→ex p=(zPL,p)) {p:PE} (hp:p.1<ts.length) (h0:p.2=0) (hst:T7 (j6 ts p.1)=true) (n1:A2 ts gAt p=false) (n2:A2 ts b0s p=false):p.1<(a0v ts n ex p).2.1:=by
 unfold a0v
 rw [d2T (fun h=>h h0)]
 split
 ·show p.1<p.1+1;omega
 rename_i k1
 split
 ·show p.1<p.1+1;omega
 rename_i k2
 split
 ·show p.1<p.1+1;omega
 rename_i s1
 split
 ·show p.1<p.1+1;omega
 rename_i s2
 split
 ·rename_i h;exact b93 hE hf (o8 hE hp h).1 n _
 rename_i s3
 split
 ·rename_i h;exact b6l hE hf he (o8 hE hp h).1 _
 rename_i s4
 split
 ·rename_i h;exact b6m hE hf he (o8 hE hp h).1 _
 rename_i s5
 exfalso
 have e:∀s,A2 ts s p=L7 (j6 ts p.1) s:=fun s=>by unfold A2;rw [h0];rfl
 rw [e] at n1 n2 s1 s2 s3 s4 s5
 unfold L7 at n1 n2 s1 s2 s3 s4 s5
 unfold T7 at hst
 simp only [a4S,List.any_cons,List.any_nil,Bool.or_false,d36,d2Z,d3F] at hst
 simp only [d2Z,d3F,Bool.and_eq_false_iff,d34] at n1 n2 s1 s2 s3 s4 s5
 rcases hst with h|h|⟨hk,h⟩
 ·exact k1 h
 ·exact k2 h
 ·rcases h with h|h|h|h|h|h|h
  ·exact n1.elim (fun g=>g hk) fun g=>g h
  ·exact n2.elim (fun g=>g hk) fun g=>g h
  ·exact s1 ⟨hk,h⟩
  ·exact s2 ⟨hk,h⟩
  ·exact s3 ⟨hk,h⟩
  ·exact s4 ⟨hk,h⟩
  ·exact s5 ⟨hk,h⟩
theorem b4N {ts:List Tok} (hE:o5 ts) {a:Int}:∀(k:Nat) (s:PL×PE),s.2.1<ts.length→s.2.1≤(M5 ts a k s).2.1
 | 0,s,_=>d3b _
 | k+1,s,hs=>by
  rw [M5]
  cases hg:n8 ts a1c s.2 with
  | none=>exact d3b _
  | some g =>
   obtain ⟨_,h2,_⟩:=P8 hE hs hg
   obtain ⟨b1,b2,b3⟩:=A0 hE (p:=(s.2.1+1,0)) h2
   simp only at b2
   have:=b4N (a:=a) hE k (s8 (a2t g) (i9 ts (s.2.1+1,0)).1 F8 a [s.1],(i9 ts (s.2.1+1,0)).2) b1
   simp only at this ⊢
   omega
theorem b7T {ts:List Tok} (hE:o5 ts) (m n:Nat) {ex pr:PF} (hf:B8 ts ex) (he:∀p:PE,p.2≠0→ex p=(zPL,p)) (hr:B8 ts pr):StF ts (a76 ts m (a4z (a0v ts n ex) ts) pr):=fun p hp h0 hst=>by
 have key:∀(s:ByteArray) (op:Int),A2 ts s p=true→p.1<(a3B ts m op pr p).2.1:=fun s op h=>by
  obtain ⟨k1,k2⟩:=o8 hE hp h
  obtain ⟨b1,b2,b3⟩:=A0 hE (p:=(p.1+1,0)) k1
  simp only at b2
  have hb:=(hr _ b1).lo
  unfold a3B
  split
  ·have:(K6 m (i9 ts (p.1+1,0)).2).1=(i9 ts (p.1+1,0)).2.1:=by
    unfold K6
    split
    ·exact (G2 6 (by decide) _).1
    ·rfl
   simp only
   omega
  ·simp only
   omega
 unfold a76
 split
 ·rename_i h;exact key _ _ h
 rename_i h1
 split
 ·rename_i h;exact key _ _ h
 rename_i h2
 unfold a4z
 have h3:=c2N hE n hf he hp h0 hst (by simpa using h1) (by simpa using h2)
 have h4:=b4N hE (a:=(j6 ts p.1).at_) ts.length (a0v ts n ex p) (b0r hE n hf he hp).hi
 omega
end
abbrev a43 (ts:List Tok) (n:Nat) (ex pr:PF):PF:=a76 ts n (a4z (a0v ts (n+1) ex) ts) pr
abbrev c7O (ts:List Tok) (P:PF):PF:=b9n (a7T (a73 P ts) ts) ts
def lvW (ts:List Tok):Nat→PF×PF
 | 0=>(fun p=>(zPL,E7 6 p),fun p=>(zPL,E7 6 p))
 | n+1=>(a25 ts (n+1) (lvW ts n).1 (c7O ts (a43 ts n (lvW ts n).1 (lvW ts n).2)),a43 ts n (lvW ts n).1 (lvW ts n).2)
theorem a2u {ts:List Tok} (hE:o5 ts) {P:PF} (h:B8 ts P):B8 ts (a7T (a73 P ts) ts)∧B8 ts (c7O ts P) :=
 ⟨c78 (sg:=a1K) (a:=fun p=>(j6 ts p.1).at_) hE (b9o h),c78 (sg:=a4y) (a:=fun p=>(j6 ts p.1).at_) hE (c78 (sg:=a1K) (a:=fun p=>(j6 ts p.1).at_) hE (b9o h))⟩
theorem a44 {ts:List Tok} (hE:o5 ts):∀n,B8 ts (lvW ts n).1∧(∀p:PE,p.2≠0→(lvW ts n).1 p=(zPL,p))∧B8 ts (lvW ts n).2
 | 0=>by
  have h:B8 ts fun p=>(zPL,E7 6 p):=fun p hp=>by
   obtain ⟨f1,f2⟩:=G2 6 (by decide) p
   exact ⟨by show p.1≤(E7 6 p).1;omega,by show (E7 6 p).1<_;omega,by show 0+2 * p.1≤2 * (E7 6 p).1+2;omega,fun h=>absurd h f2⟩
  exact ⟨h,fun p hp=>by show (zPL,E7 6 p)=_;unfold E7;rw [d2S hp],h⟩
 | n+1=>by
  obtain ⟨h1,h2,h3⟩:=a44 hE n
  have hP:B8 ts (a43 ts n (lvW ts n).1 (lvW ts n).2):=d00 hE n (c9Z hE fun p hp=>b0r hE (n+1) h1 h2 hp) h3
  exact ⟨c7N hE (n+1) h1 h2 (a2u hE hP).2,fun p hp=>b92 _ _ _ _ p hp,hP⟩
theorem d03 {ts:List Tok} (hE:o5 ts) (hN:a0n ts) (hl:ts.length≤65537):∀(n:Nat) (L:Int),T6 n L→(∀p:PE,p.1<ts.length→L3 19 [vi .i64 L] ts p [.ag (A7 (cP ((lvW ts n).1 p).1))] ((lvW ts n).1 p).2)∧(n≠0→∀p:PE,p.1<ts.length→L3 122 [vi .i64 L] ts p [.ag (A7 (cP ((lvW ts n).2 p).1))] ((lvW ts n).2 p).2)
 | 0,L,hv=>⟨fun p hp=>by
   have hL:200<L:=by unfold T6 at hv;omega
   have hd:=b3b (by omega:ts.length≤1048576) hp (n:=0) (L:=L) (.inl ⟨rfl,hL⟩)
   obtain ⟨f1,f2⟩:=G2 6 (by decide) p
   rw [show K6 0 p=E7 6 p from rfl,d2Y f2] at hd
   show L3 _ _ ts p [.ag (A7 (cP zPL))] (E7 6 p)
   rw [b0f]
   exact b7J hd,fun h=>absurd rfl h⟩
 | n+1,L,hv=>by
  have hb:0≤L∧L≤200∧(n=0∧200<L+1∨n≠0∧L+1≤200):=by unfold T6 at hv;omega
  have hv2:T6 n (L+1):=a4T hv
  obtain ⟨i1,i2⟩:=d03 hE hN hl n (L+1) hv2
  obtain ⟨h1,h2,h3⟩:=a44 hE n
  have hat:B8 ts (a0v ts (n+1) (lvW ts n).1):=fun p hp=>b0r hE (n+1) h1 h2 hp
  have hP:B8 ts (a43 ts n (lvW ts n).1 (lvW ts n).2):=(a44 hE (n+1)).2.2
  have hpre:∀p:PE,p.1<ts.length→L3 122 [vi .i64 L] ts p [.ag (A7 (cP (a43 ts n (lvW ts n).1 (lvW ts n).2 p).1))] (a43 ts n (lvW ts n).1 (lvW ts n).2 p).2:=fun p hp =>
   d01 hE hl hb.1 (by omega) hb.2.2 h3 (fun q hq=>c7A hE hl hat (fun r hr=>c7L hE hN hl (n+1) L hv (by omega) h1 h2 i1 hr) q hq) (fun hm q hq _=>i2 hm q hq) hp
  have happ:=fun p hp=>c9Y hl hP (b7T hE n (n+1) h1 h2 h3) hpre p hp
  have hprod:=fun p hp=>c77 hE hl (b9o hP) happ p hp
  have hsum:=fun p hp=>c9W hE hl (a2u hE hP).1 hprod p hp
  exact ⟨fun p hp=>c7M hE hN hl (n+1) L hv (by omega) h1 (a2u hE hP).2 i1 hsum hp,fun _=>hpre⟩
section
def cl (r:PL×PE):PL×PE:=if r.2.2=0 then r else (zPL,r.2)
theorem a2y {r:PL×PE} (h:r.2.2=0):cl r=r:=d2S h
theorem b0t {r:PL×PE} (h:r.2.2≠0):cl r=(zPL,r.2):=d2T h
theorem b4O {x:PL} {e:PE} (h:e.2=0):cl (x,e)=(x,(e.1,0)):=by rw [a2y (r:=(x,e)) h,←h]
theorem b1P {x:PL} {e:PE} (h:e.2≠0):cl (x,e)=(zPL,e):=b0t h
theorem d04 (r:PL×PE):(cl r).2=r.2:=by unfold cl;split <;> rfl
section
variable {ts:List Tok} (hE:o5 ts) {n:Nat}
theorem a45 (l:List Pm):∀(k:Nat) (m:List Pm) (p:PE),B5 ts n k (l++m,p)=(l++(B5 ts n k (m,p)).1,(B5 ts n k (m,p)).2)
 | 0,m,p=>rfl
 | k+1,m,p=>by
  rw [B5,B5]
  by_cases h:p.2=0∧L7 (j6 ts p.1) Q5=false
  ·rw [d2S h,d2S h,d37]
   exact a45 l k _ _
  ·rw [d2T h,d2T h]
include hE
theorem a6J:∀(k j:Nat) (s:List Pm×PE),s.2.1<ts.length→(s.2.2=0→ts.length - s.2.1≤k∧ts.length - s.2.1≤j)→B5 ts n k s=B5 ts n j s
 | 0,j,s,h,h1=>by rw [a1d fun hh=>by have:=h1 hh.1;omega,a1d fun hh=>by have:=h1 hh.1;omega]
 | k+1,0,s,h,h1=>by rw [a1d fun hh=>by have:=h1 hh.1;omega,a1d fun hh=>by have:=h1 hh.1;omega]
 | k+1,j+1,s,h,h1=>by
  rw [B5,B5]
  by_cases hc:s.2.2=0∧L7 (j6 ts s.2.1) Q5=false
  ·rw [d2S hc,d2S hc]
   obtain ⟨a1,a2,a3⟩:=U8 hE n h
   exact a6J k j _ a1 fun h0=>by have:=a3 h0;have:=h1 hc.1;simp only at *;omega
  ·rw [d2T hc,d2T hc]
theorem a7X {p:PE} (h:¬((m7 ts n p).2.2=0∧L7 (j6 ts (m7 ts n p).2.1) Q5=false)):v6 ts n p=([(m7 ts n p).1],j0 ts Q5 (m7 ts n p).2):=by
 unfold v6
 rw [a1d h]
theorem b4P {p:PE} (hp:p.1<ts.length) (h0:(m7 ts n p).2.2=0) (h:L7 (j6 ts (m7 ts n p).2.1) Q5=false):v6 ts n p=((m7 ts n p).1::(v6 ts n (m7 ts n p).2).1,(v6 ts n (m7 ts n p).2).2):=by
 obtain ⟨a1,a2,a3⟩:=U8 hE n hp
 obtain ⟨b1,b2,b3⟩:=U8 hE n a1
 have key:B5 ts n ts.length ([(m7 ts n p).1],(m7 ts n p).2)=((m7 ts n p).1::(B5 ts n ts.length ([(m7 ts n (m7 ts n p).2).1],(m7 ts n (m7 ts n p).2).2)).1,(B5 ts n ts.length ([(m7 ts n (m7 ts n p).2).1],(m7 ts n (m7 ts n p).2).2)).2):=by
  rw [a6J hE ts.length (ts.length+1) _ a1 fun _=>by simp only;omega]
  rw [B5,d2S ⟨h0,h⟩]
  exact a45 [(m7 ts n p).1] ts.length [(m7 ts n (m7 ts n p).2).1] _
 unfold v6
 rw [key]
end
def fn1 (op:Int) (nm:ByteArray) (pl:Int) (x:PL):List Pm→PL
 | []=>x
 | m::l=>y8 op nm m.1 0 m.2.1 m.2.2.1 pl [fnW 0 false F8 x false l]
theorem c5T (pl:Int) (r:Bool) (w:ByteArray) (x:PL):∀l:List Pm,fnW pl r w x false l=fnW 0 false F8 x false l
 | []=>rfl
 | m::l=>by
  rw [fnW,fnW,c5T pl r w x l]
  cases r <;> rfl
theorem d05 (x:PL) (m:Pm) (l:List Pm):fnW 0 false F8 x false (m::l)=fn1 35 ⟨#[]⟩ m.2.2.2 x (m::l):=by
 rw [fnW,fn1]
 rfl
theorem c5U (pl:Int) (r:Bool) (w:ByteArray) (x:PL) (l:List Pm):fnW pl r w x true l=fn1 (if r=true then 36 else 35) (if r=true then w else ⟨#[]⟩) pl x l:=by
 cases l with
 | nil=>rfl
 | cons m l =>
  rw [fnW,fn1,c5T]
  cases r <;> rfl
theorem b94 (ts:List Tok) (n:Nat) (p:PE):(m7 ts n p).1.2.2.2=(j6 ts p.1).at_:=by unfold m7;split <;> rfl
section
variable {ts:List Tok} {ex:PF}
theorem a7Y (l:List Fd):∀(k:Nat) (m:List Fd) (p:PE),E5 ts ex k (l++m,p)=(l++(E5 ts ex k (m,p)).1,(E5 ts ex k (m,p)).2)
 | 0,m,p=>rfl
 | k+1,m,p=>by
  rw [E5,E5]
  by_cases h:A2 ts J1 p=true
  ·rw [d2S h,d2S h,d37]
   exact a7Y l k _ _
  ·rw [d2T h,d2T h]
variable (hE:o5 ts) (hf:B8 ts ex)
include hE hf
theorem b7U {q:PE} (hq:q.1<ts.length) (h:A2 ts J1 q=true):(ex (j0 ts C6 (i9 ts (q.1+1,0)).2)).2.1<ts.length∧q.1+1≤(ex (j0 ts C6 (i9 ts (q.1+1,0)).2)).2.1:=by
 obtain ⟨k1,k2⟩:=o8 hE hq h
 obtain ⟨b1,b2,b3⟩:=A0 hE (p:=(q.1+1,0)) k1
 obtain ⟨c1,c2,c3⟩:=j8 (s:=C6) hE b1
 have hb:=hf _ c1
 have l1:=hb.lo
 simp only at b2
 exact ⟨hb.hi,by omega⟩
theorem a6K:∀(k j:Nat) (s:List Fd×PE),s.2.1<ts.length→ts.length - s.2.1≤k→ts.length - s.2.1≤j→E5 ts ex k s=E5 ts ex j s
 | 0,j,s,h,h1,h2=>by omega
 | k+1,0,s,h,h1,h2=>by omega
 | k+1,j+1,s,h,h1,h2=>by
  rw [E5,E5]
  by_cases hc:A2 ts J1 s.2=true
  ·rw [d2S hc,d2S hc]
   obtain ⟨a1,a2⟩:=b7U hE hf h hc
   exact a6K k j _ a1 (by simp only;omega) (by simp only;omega)
  ·rw [d2T hc,d2T hc]
theorem b4Q (pl:Int) (w:ByteArray) {p:PE} (h:A2 ts J1 (ex (j0 ts C6 p)).2=false):a41 ts ex pl w p=([(w,pl,(ex (j0 ts C6 p)).1)],(ex (j0 ts C6 p)).2):=b0n h _
theorem c2O (pl:Int) (w:ByteArray) {p:PE} (hp:p.1<ts.length) (h:A2 ts J1 (ex (j0 ts C6 p)).2=true) :
  a41 ts ex pl w p=((w,pl,(ex (j0 ts C6 p)).1)::(a41 ts ex (j6 ts ((ex (j0 ts C6 p)).2.1+1)).at_ (i9 ts ((ex (j0 ts C6 p)).2.1+1,0)).1 (i9 ts ((ex (j0 ts C6 p)).2.1+1,0)).2).1,(a41 ts ex (j6 ts ((ex (j0 ts C6 p)).2.1+1)).at_ (i9 ts ((ex (j0 ts C6 p)).2.1+1,0)).1 (i9 ts ((ex (j0 ts C6 p)).2.1+1,0)).2).2):=by
 obtain ⟨c1,c2,c3⟩:=j8 (s:=C6) hE hp
 have hb:=hf _ c1
 unfold a41
 rw [a6K hE hf ts.length (ts.length+1) _ hb.hi (by omega) (by omega)]
 conv=>lhs;rw [E5]
 rw [d2S h]
 exact a7Y [(w,pl,(ex (j0 ts C6 p)).1)] ts.length [_] _
end
def frW (ts:List Tok) (ex:PF) (pl:Int) (w:ByteArray) (p:PE):PL×PE:=(fdW (G9 ts ex (a41 ts ex pl w p).2).1 (a41 ts ex pl w p).1,(G9 ts ex (a41 ts ex pl w p).2).2)
theorem a7Z (ts:List Tok) (ex:PF) (pl:Int) (w:ByteArray) (p:PE):Y9 ts ex pl w p=((frW ts ex pl w p).1,j0 ts U6 (frW ts ex pl w p).2):=rfl
end
end Go.Proofs.YtahpnackkmbmgaaGreat.Vm
end

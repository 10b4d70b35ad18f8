/- Part 19 of the proof. Conditions: none. -/
import Derived.Test.YtlofmibkljoapaaDoorN18
import Derived.Test.YtlofmibkljoapaaDoorN0
set_option linter.all false
set_option linter.unusedVariables false
set_option linter.unusedSimpArgs false
section
namespace Go.Proofs.YtlofmibkljoapaaDoor.Vm
open Go.RowKit
set_option maxRecDepth 100000
set_option maxHeartbeats 4000000
def b6z (t:Ty):ByteArray:=bx (A5 d8 (b9 t))
theorem b2n (g:Ty->List UInt8):∀(l:List (ByteArray×Ty)) (b:Bool) (k:Nat),(J5 g b (l.take k)).length<=(J5 g b l).length
 | [],b,k=>by simp
 | x::l,b,0=>by simp[J5]
 | x::l,b,k+1=>by
  rw[List.take_succ_cons,J5,J5];have:=b2n g l false k;simp only[c37,c3C];omega
theorem b60 {t:Ty} (hs:G2 t):A5 d8 (b9 t)=J5 d8 true ((d5 x8 (c6 t)).map cfS)++N3 (f7 t):=by
 unfold A5
 by_cases h11:t.op=11
 ·obtain⟨h1,h2⟩:=b3w hs h11;rw[h1,h2];rfl
 ·obtain⟨h1,h2⟩:=z8 h11;have h3:=z8 (t:=b9 t) (by rw[a4V hs];exact h11);rw[h3.1,h3.2,h1,h2,x9 h11];show []++N3 _=[]++_;unfold N3;rfl
theorem b8C (W:ByteArray->Bool) (t:Ty) (hs:c8 W t 114=true) (hsp:G2 t) (hN:t.parts.length<=1048576) (hn:∀x∈t.parts,x.n<=9223372036854775807) (hlen:(A5 d8 (b9 t)).length<=67108864) (hW:∀f∈c6 t,l6 23 [.ag (cT f.2)] [.one (.sc (.string (a1o (b9 f.2))))]) :
  l6 38 [.ag (cT t)] [.one (.sc (.string (b6z t)))]:=by
 have hF:=b7A t hsp hN
 have htl:(f7 t).op=8\/(f7 t).op=9\/(f7 t).op=10:=by
  have key:∀(m:Nat) (t:Ty),t.parts.length<=m->c8 W t 114=true->(f7 t).op=8\/(f7 t).op=9\/(f7 t).op=10:=by
   intro m
   induction m with
   | zero=>intro t h;have:=j5 t;omega
   | succ m ih =>
    intro t hm hs
    rcases (M9 hs).2 with⟨h,_⟩|⟨h,a,b,hk,_,hb⟩
    ·rw[(z8 (by omega)).2];exact h
    ·have hkb:=(m9 t).2 b (by rw[hk];simp);obtain⟨op,nm,n,ks⟩:=t;have hk:ks=[a,b]:=hk;have h:op=11:=h;subst hk;subst h;rw[f7,c3E rfl];exact ih b (by omega) hb
  exact key _ t (c3A _) hs
 have htm:=a3c hsp;have htn:=hn _ htm
 have ht0:0<=(f7 t).n:=by
  have key:∀(m:Nat) (t:Ty),t.parts.length<=m->c8 W t 114=true->0<=(f7 t).n:=by
   intro m
   induction m with
   | zero=>intro t h;have:=j5 t;omega
   | succ m ih =>
    intro t hm hs
    rcases M9 hs with⟨h0,⟨h,_⟩|⟨h,a,b,hk,_,hb⟩⟩
    ·rw[(z8 (by omega)).2];exact h0
    ·have hkb:=(m9 t).2 b (by rw[hk];simp);obtain⟨op,nm,n,ks⟩:=t;have hk:ks=[a,b]:=hk;have h:op=11:=h;subst hk;subst h;rw[f7,c3E rfl];exact ih b (by omega) hb
  exact key _ t (c3A _) hs
 have hrc:=b60 hsp;unfold b6z;rw[hrc] at hlen ⊢;have hW2:∀f∈d5 x8 (c6 t),l6 23 [.ag (cT f.2)] [.one (.sc (.string (a1o (b9 f.2))))]:=λf hf=>hW f (B8 hf)
 have hLN:(d5 x8 (c6 t)).length<=1048576:=by
  rw[K8];have:=b0c _ t (c3A _);omega
 generalize d5 x8 (c6 t)=L at *;clear hW hrc;have htc:cT (f7 t)=[.sc (.int .u8 (f7 t).op),.sc (.string (f7 t).name),.sc (.int .i64 (f7 t).n),.sl 4 (rT (f7 t).kids)]:=a60 _;rw[htc] at hF;have htW:∃o n,o=(f7 t).op/\n=(f7 t).n/\N3 (f7 t)=if o=9 then [124,63] else if o=10 then 124::39::Lib.itoa n else []:=⟨_,_,rfl,rfl,rfl⟩
 obtain⟨to,tn,hto,htn',htw⟩:=htW;rw[<-hto] at htl hF;rw[<-htn'] at htn ht0 hF;rw[htw] at hlen ⊢;generalize (f7 t).name=tnm at *;generalize rT (f7 t).kids=tK at *;obtain⟨a0,a1,a2,a3,ha⟩:=c9 t;rw[ha] at hF ⊢;obtain⟨Q,hQ⟩:∃Q,Q=rF L:=⟨_,rfl⟩;rw[<-hQ] at hF;clear htm htw hto htn' htc;obtain⟨RES,hRES⟩:∃S,S=bx (J5 d8 true (L.map cfS)++(if to=9 then [124,63] else if to=10 then 124::39::Lib.itoa tn else [])):=⟨_,rfl⟩;rw[<-hRES]
 have hpre:∀k,(J5 d8 true ((L.map cfS).take k)).length<=67108864:=λk=>by
  have:=b2n d8 (L.map cfS) true k;rw[c37] at hlen;omega
 refine K7 Tryd.func38 rfl ?_;intro qa qb _ _ _ _ _ qh _ qj _ _ _ _ qp _ _ _ _ _ _ _ qy qz _ _ _ _ _ _ _ _ _ _ _ _ _ _ _ _ _ vy;intros;rename_i hA;obtain⟨e1,e2,e3,e4,e5,e6,e7,e8,e9⟩:=j3 hA;obtain⟨r1,r2,r3,r4⟩:=m8 hA;obtain⟨s1,s2,s3,s4,s5,s6,s7⟩:=w7 hA;have hcat:∀x y,qp (bx x) (bx y)=bx (x++y):=λx y=>by rw[s4,a3q]
 iterate 2 (try cbv;repeat ((first|with_reducible apply b6 hA|refine c5 hA _ hF rfl ?_|refine c7 hA _ hF ?_);cbv))
 try simp (maxSteps:=4000000) only [nc] at *
 refine l7 hA (γ:=Int×ByteArray) (λx=>[(6,vi .i64 x.1),(3,vs x.2),(7,.jk),(9,.jk)]) (λx=>[]) (λx=>∃k:Nat,x.1=(k:Int)/\k<=L.length/\x.2=bx (J5 d8 true ((L.map cfS).take k))) (λx=>L.length - x.1.toNat) (0,⟨#[]⟩) ?_ ?_ ?_
 ·exact⟨0,rfl,c4e _,rfl⟩
 ·cbv
 ·intro x hinv;obtain⟨z,O⟩:=x;cbv
  repeat ((with_reducible apply b6 hA);cbv)
  try simp (maxSteps:=4000000) only [nc] at *
  obtain⟨k,hz,hk,hO⟩:=hinv;replace hO:O=bx (J5 d8 true ((L.map cfS).take k)):=hO;have hll:qy Q=((L.length:Nat):Int):=by rw[r1,hQ,G1]
  have hlt:qh z (qy Q)=decide (k<L.length):=by rw[e7,hll,hz];exact c3M.2 (by omega)
  by_cases h9:k<L.length
  ·rw[c3K h9] at hlt;obtain⟨x,hx⟩:∃x,L[k]?=some x:=⟨_,c39 h9⟩;have hspx:=hW2 x (c3J hx);have hx2:(L.map cfS)[k]?=some (x.1,b9 x.2):=by rw[c4j,hx];rfl
   have hsn:(L.map cfS).take (k+1)=(L.map cfS).take k++[(x.1,b9 x.2)]:=by rw[c5a,hx2];rfl
   have hem:((L.map cfS).take k).isEmpty=decide (k=0):=by
    cases k with
    | zero=>rfl
    | succ k =>
     have:((L.map cfS).take (k+1)).length=k+1:=by rw[c3Z,c4h];omega
     cases hq:(L.map cfS).take (k+1) with
     | nil=>rw[hq] at this;cases this
     | cons y l=>simp
   have hpk:=hpre (k+1);have hrow:=a9y d8 ((L.map cfS).take k) true (x.1,b9 x.2);rw[<-hsn,hem] at hrow;rw[hrow] at hpk;simp only[c37,c3C,c4O] at hpk hrow;obtain⟨xn,xt⟩:=x;obtain⟨x0,x1,x2,x3,hxx⟩:=c9 xt;simp only at hspx hpk hrow;rw[hxx] at hspx;have gx:qz Q z=some [.sc (.string xn),x0,x1,x2,x3]:=by rw[r2,hz,c3E (by omega),hQ,show ((k:Int)).toNat=k by omega,a1d hx,hxx]
   have hz1:qa .i64 (qb z 1)=((k+1:Nat):Int):=by rw[e1,e2,hz,IntWalk.i64_in _ (by omega)];omega
   have hmu:L.length - (qa .i64 (qb z 1)).toNat<L.length - z.toNat:=by rw[hz1,hz];omega
   have hgt:qh 0 z=decide (0<k):=by rw[e7,hz];exact c3M.2 (by omega)
   have hxn:xn=bx (I5 xn):=(c1L xn).symm;obtain⟨xb,hxb⟩:∃l,l=I5 xn:=⟨_,rfl⟩;have hxl:xn.data.toList=xb:=hxb.symm;rw[hxl] at hpk hrow;rw[<-hxb] at hxn;obtain⟨pre,hpreq⟩:∃l,l=J5 d8 true ((L.map cfS).take k):=⟨_,rfl⟩;rw[<-hpreq] at hO hpk hrow;obtain⟨tx,htx⟩:∃l,l=d8 (b9 xt):=⟨_,rfl⟩;rw[<-htx] at hpk hrow;rw[show a1o (b9 xt)=bx tx by rw[htx];rfl] at hspx;rw[hlt]
   by_cases hk0:k=0
   ·rw[c3K hk0,c3E rfl,c4t] at hrow;rw[c3K hk0,c3E rfl,c3H] at hpk;rw[c3I (by omega)] at hgt;obtain⟨O1,hO1⟩:∃S,S=bx (pre++xb):=⟨_,rfl⟩;obtain⟨O2,hO2⟩:∃S,S=bx (pre++xb++[58]):=⟨_,rfl⟩;obtain⟨O3,hO3⟩:∃S,S=bx (pre++xb++[58]++tx):=⟨_,rfl⟩;have k1:qp O xn=O1:=by rw[hO,hxn,hcat,hO1]
    have k2:qp O1 ⟨#[58]⟩=O2:=by rw[hO1,show (⟨#[58]⟩:ByteArray)=bx [58] from rfl,hcat,hO2]
    have z1:O.size+xn.size<=4611686018427387904:=by rw[hO,hxn,s8,s8];omega
    have z2:O1.size+(⟨#[58]⟩:ByteArray).size<=4611686018427387904:=by rw[hO1,show (⟨#[58]⟩:ByteArray)=bx [58] from rfl,s8,s8,c37,c43];omega
    have z3:O2.size+(bx tx).size<=4611686018427387904:=by rw[hO2,s8,s8];simp only[c37,c43];omega
    have k3:qp O2 (bx tx)=O3:=by rw[hO2,hcat,hO3]
    have fin:O3=bx (J5 d8 true ((L.map cfS).take (k+1))):=by rw[hO3,hrow];simp
    generalize bx tx=TX at *
    iterate 2 (try cbv;repeat ((first|with_reducible apply b6 hA|rw[hgt]|rw[gx]|rw[k1]|rw[k2]|rw[k3]|refine c5 hA _ hspx rfl ?_|refine c7 hA _ hspx ?_|refine A6 hA z1 ?_|refine A6 hA z2 ?_|refine A6 hA z3 ?_);cbv))
    try simp (maxSteps:=4000000) only [nc] at *
    refine⟨(qa .i64 (qb z 1),O3),⟨k+1,hz1,h9,fin⟩,hmu,?_⟩;cbv
   ·rw[c3I hk0,c3G (by decide)] at hrow;rw[c3I hk0,c3G (by decide),c43] at hpk;rw[c3K (by omega)] at hgt;obtain⟨O0,hO0⟩:∃S,S=bx (pre++[44]):=⟨_,rfl⟩;obtain⟨O1,hO1⟩:∃S,S=bx (pre++[44]++xb):=⟨_,rfl⟩;obtain⟨O2,hO2⟩:∃S,S=bx (pre++[44]++xb++[58]):=⟨_,rfl⟩;obtain⟨O3,hO3⟩:∃S,S=bx (pre++[44]++xb++[58]++tx):=⟨_,rfl⟩;have k0:qp O ⟨#[44]⟩=O0:=by rw[hO,show (⟨#[44]⟩:ByteArray)=bx [44] from rfl,hcat,hO0]
    have k1:qp O0 xn=O1:=by rw[hO0,hxn,hcat,hO1]
    have k2:qp O1 ⟨#[58]⟩=O2:=by rw[hO1,show (⟨#[58]⟩:ByteArray)=bx [58] from rfl,hcat,hO2]
    have z0:O.size+(⟨#[44]⟩:ByteArray).size<=4611686018427387904:=by rw[hO,show (⟨#[44]⟩:ByteArray)=bx [44] from rfl,s8,s8,c43];omega
    have z1:O0.size+xn.size<=4611686018427387904:=by rw[hO0,hxn,s8,s8];simp only[c37,c43];omega
    have z2:O1.size+(⟨#[58]⟩:ByteArray).size<=4611686018427387904:=by rw[hO1,show (⟨#[58]⟩:ByteArray)=bx [58] from rfl,s8,s8];simp only[c37,c43];omega
    have z3:O2.size+(bx tx).size<=4611686018427387904:=by rw[hO2,s8,s8];simp only[c37,c43];omega
    have k3:qp O2 (bx tx)=O3:=by rw[hO2,hcat,hO3]
    have fin:O3=bx (J5 d8 true ((L.map cfS).take (k+1))):=by rw[hO3,hrow];simp
    generalize bx tx=TX at *
    iterate 2 (try cbv;repeat ((first|with_reducible apply b6 hA|rw[hgt]|rw[gx]|rw[k0]|rw[k1]|rw[k2]|rw[k3]|refine c5 hA _ hspx rfl ?_|refine c7 hA _ hspx ?_|refine A6 hA z0 ?_|refine A6 hA z1 ?_|refine A6 hA z2 ?_|refine A6 hA z3 ?_);cbv))
    try simp (maxSteps:=4000000) only [nc] at *
    refine⟨(qa .i64 (qb z 1),O3),⟨k+1,hz1,h9,fin⟩,hmu,?_⟩;cbv
  ·rw[c3I h9] at hlt;rw[c4i (by rw[c4h];omega)] at hO;rw[c37] at hlen;generalize J5 d8 true (L.map cfS)=pre at *;rw[hlt]
   rcases htl with ho|ho|ho
   ·have q9:qj to 9=false:=by rw[e9,ho];rfl
    have q10:qj to 10=false:=by rw[e9,ho];rfl
    rw[c3G (by omega),c3G (by omega),c3X,<-hO] at hRES;rw[hRES]
    iterate 2 (try cbv;repeat ((first|with_reducible apply b6 hA|rw[q9]|rw[q10]);cbv))
   ·have q9:qj to 9=true:=by rw[e9,ho];rfl
    rw[c3E ho] at hRES hlen;have k1:qp O ⟨#[124,63]⟩=RES:=by rw[hO,show (⟨#[124,63]⟩:ByteArray)=bx [124,63] from rfl,hcat,hRES]
    have z1:O.size+(⟨#[124,63]⟩:ByteArray).size<=4611686018427387904:=by rw[hO,show (⟨#[124,63]⟩:ByteArray)=bx [124,63] from rfl,s8,s8];omega
    iterate 2 (try cbv;repeat ((first|with_reducible apply b6 hA|rw[q9]|rw[k1]|refine A6 hA z1 ?_);cbv))
   ·have q9:qj to 9=false:=by rw[e9,ho];rfl
    have q10:qj to 10=true:=by rw[e9,ho];rfl
    rw[c3G (by omega),c3E ho] at hRES hlen;have hi:=c0A tn.toNat tn (c3A _) ht0 htn;obtain⟨O1,hO1⟩:∃S,S=bx (pre++[124,39]):=⟨_,rfl⟩;have k1:qp O ⟨#[124,39]⟩=O1:=by rw[hO,show (⟨#[124,39]⟩:ByteArray)=bx [124,39] from rfl,hcat,hO1]
    have k2:qp O1 (bx (Lib.itoa tn))=RES:=by rw[hO1,hcat,hRES];simp
    simp only[c3C] at hlen;have z1:O.size+(⟨#[124,39]⟩:ByteArray).size<=4611686018427387904:=by rw[hO,show (⟨#[124,39]⟩:ByteArray)=bx [124,39] from rfl,s8,s8];simp only[c3C,c3H];omega
    have z2:O1.size+(bx (Lib.itoa tn)).size<=4611686018427387904:=by rw[hO1,s8,s8];simp only[c37,c3C,c3H];omega
    generalize bx (Lib.itoa tn)=NT at *
    iterate 2 (try cbv;repeat ((first|with_reducible apply b6 hA|rw[q9]|rw[q10]|rw[k1]|rw[k2]|refine c5 hA _ hi rfl ?_|refine c7 hA _ hi ?_|refine A6 hA z1 ?_|refine A6 hA z2 ?_);cbv))
end Go.Proofs.YtlofmibkljoapaaDoor.Vm
end

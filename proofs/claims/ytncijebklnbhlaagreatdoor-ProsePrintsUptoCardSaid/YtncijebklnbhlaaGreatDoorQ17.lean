/- Part 17 of the proof. Conditions: none. -/
import Derived.Test.YtncijebklnbhlaaGreatDoorQ16
set_option linter.all false
set_option linter.unusedVariables false
set_option linter.unusedSimpArgs false
section
namespace Go.Proofs.YtncijebklnbhlaaGreatDoor.Vm
open Go.RowKit
set_option maxRecDepth 100000
set_option maxHeartbeats 4000000
def b3T (t:Ty):ByteArray:=bx (B1 l8 (j7 t))
theorem b0A (g:Ty->List UInt8):∀(l:List (ByteArray×Ty)) (b:Bool) (k:Nat),(K6 g b (l.take k)).length<=(K6 g b l).length
 | [],b,k=>by simp
 | x::l,b,0=>by simp[K6]
 | x::l,b,k+1=>by
  rw[List.take_succ_cons,K6,K6];have:=b0A g l false k;simp only[List.length_append,List.length_cons];omega
theorem b3U {t:Ty} (hs:G4 t):B1 l8 (j7 t)=K6 l8 true ((j9 C4 (l5 t)).map cfS)++U5 (o4 t):=by
 unfold B1
 by_cases h11:t.op=11
 ·obtain⟨h1,h2⟩:=b12 hs h11;rw[h1,h2];rfl
 ·obtain⟨h1,h2⟩:=B3 h11;have h3:=B3 (t:=j7 t) (by rw[a3P hs];exact h11);rw[h3.1,h3.2,h1,h2,C7 h11];show []++U5 _=[]++_;unfold U5;rfl
theorem b5W (W:ByteArray->Bool) (t:Ty) (hs:m8 W t 114=true) (hsp:G4 t) (hN:t.parts.length<=1048576) (hn:∀x∈t.parts,x.n<=9223372036854775807) (hlen:(B1 l8 (j7 t)).length<=67108864) (hW:∀f∈l5 t,j5 20 [.ag (cT f.2)] [.one (.sc (.string (a4G (j7 f.2))))]) :
  j5 34 [.ag (cT t)] [.one (.sc (.string (b3T t)))]:=by
 have hF:=b54 t hsp hN
 have htl:(o4 t).op=8\/(o4 t).op=9\/(o4 t).op=10:=by
  have key:∀(m:Nat) (t:Ty),t.parts.length<=m->m8 W t 114=true->(o4 t).op=8\/(o4 t).op=9\/(o4 t).op=10:=by
   intro m
   induction m with
   | zero=>intro t h;have:=v6 t;omega
   | succ m ih =>
    intro t hm hs
    rcases (a6D hs).2 with⟨h,_⟩|⟨h,a,b,hk,_,hb⟩
    ·rw[(B3 (by omega)).2];exact h
    ·have hkb:=(A4 t).2 b (by rw[hk];simp);obtain⟨op,nm,n,ks⟩:=t;have hk:ks=[a,b]:=hk;have h:op=11:=h;subst hk;subst h;rw[o4,if_pos rfl];exact ih b (by omega) hb
  exact key _ t (Nat.le_refl _) hs
 have htm:=b0n hsp;have htn:=hn _ htm
 have ht0:0<=(o4 t).n:=by
  have key:∀(m:Nat) (t:Ty),t.parts.length<=m->m8 W t 114=true->0<=(o4 t).n:=by
   intro m
   induction m with
   | zero=>intro t h;have:=v6 t;omega
   | succ m ih =>
    intro t hm hs
    rcases a6D hs with⟨h0,⟨h,_⟩|⟨h,a,b,hk,_,hb⟩⟩
    ·rw[(B3 (by omega)).2];exact h0
    ·have hkb:=(A4 t).2 b (by rw[hk];simp);obtain⟨op,nm,n,ks⟩:=t;have hk:ks=[a,b]:=hk;have h:op=11:=h;subst hk;subst h;rw[o4,if_pos rfl];exact ih b (by omega) hb
  exact key _ t (Nat.le_refl _) hs
 have hrc:=b3U hsp;unfold b3T;rw[hrc] at hlen ⊢;have hW2:∀f∈j9 C4 (l5 t),j5 20 [.ag (cT f.2)] [.one (.sc (.string (a4G (j7 f.2))))]:=λf hf=>hW f (F6 hf)
 have hLN:(j9 C4 (l5 t)).length<=1048576:=by
  rw[N0];have:=a8V _ t (Nat.le_refl _);omega
 generalize j9 C4 (l5 t)=L at *;clear hW hrc;have htc:cT (o4 t)=[.sc (.int .u8 (o4 t).op),.sc (.string (o4 t).name),.sc (.int .i64 (o4 t).n),.sl 4 (rT (o4 t).kids)]:=a5b _;rw[htc] at hF;have htW:∃o n,o=(o4 t).op/\n=(o4 t).n/\U5 (o4 t)=if o=9 then [124,63] else if o=10 then 124::39::Lib.itoa n else []:=⟨_,_,rfl,rfl,rfl⟩
 obtain⟨to,tn,hto,htn',htw⟩:=htW;rw[<-hto] at htl hF;rw[<-htn'] at htn ht0 hF;rw[htw] at hlen ⊢;generalize (o4 t).name=tnm at *;generalize rT (o4 t).kids=tK at *;obtain⟨a0,a1,a2,a3,ha⟩:=l6 t;rw[ha] at hF ⊢;obtain⟨Q,hQ⟩:∃Q,Q=rF L:=⟨_,rfl⟩;rw[<-hQ] at hF;clear htm htw hto htn' htc;obtain⟨RES,hRES⟩:∃S,S=bx (K6 l8 true (L.map cfS)++(if to=9 then [124,63] else if to=10 then 124::39::Lib.itoa tn else [])):=⟨_,rfl⟩;rw[<-hRES]
 have hpre:∀k,(K6 l8 true ((L.map cfS).take k)).length<=67108864:=λk=>by
  have:=b0A l8 (L.map cfS) true k;rw[List.length_append] at hlen;omega
 refine C2 Tryz.func34 rfl ?_;intro qa qb _ _ _ _ _ qh _ qj _ _ _ _ qp _ _ _ _ _ _ _ qz va _ _ _ _ _ _ _ _ _ _ _ _ _ _ _ _ _ vv;intros;rename_i hA;obtain⟨e1,e2,e3,e4,e5,e6,e7,e8,e9⟩:=l7 hA;obtain⟨r1,r2,r3,r4⟩:=n8 hA;obtain⟨s1,s2,s3,s4,s5,s6,s7⟩:=o8 hA;have hcat:∀x y,qp (bx x) (bx y)=bx (x++y):=λx y=>by rw[s4,a13]
 iterate 2 (try cbv;repeat ((first|with_reducible apply j2 hA|refine j3 hA _ hF rfl ?_|refine j4 hA _ hF ?_);cbv))
 try simp (maxSteps:=4000000) only [nc] at *
 refine o5 hA (γ:=Int×ByteArray) (λx=>[(6,vi .i64 x.1),(3,vs x.2),(7,.jk),(9,.jk)]) (λx=>[]) (λx=>∃k:Nat,x.1=(k:Int)/\k<=L.length/\x.2=bx (K6 l8 true ((L.map cfS).take k))) (λx=>L.length - x.1.toNat) (0,⟨#[]⟩) ?_ ?_ ?_
 ·exact⟨0,rfl,Nat.zero_le _,rfl⟩
 ·cbv
 ·intro x hinv;obtain⟨z,O⟩:=x;cbv
  repeat ((with_reducible apply j2 hA);cbv)
  try simp (maxSteps:=4000000) only [nc] at *
  obtain⟨k,hz,hk,hO⟩:=hinv;replace hO:O=bx (K6 l8 true ((L.map cfS).take k)):=hO;have hll:qz Q=((L.length:Nat):Int):=by rw[r1,hQ,N4]
  have hlt:qh z (qz Q)=decide (k<L.length):=by rw[e7,hll,hz];exact decide_eq_decide.2 (by omega)
  by_cases h9:k<L.length
  ·rw[decide_eq_true h9] at hlt;obtain⟨x,hx⟩:∃x,L[k]?=some x:=⟨_,List.getElem?_eq_getElem h9⟩;have hspx:=hW2 x (List.mem_of_getElem? hx);have hx2:(L.map cfS)[k]?=some (x.1,j7 x.2):=by rw[List.getElem?_map,hx];rfl
   have hsn:(L.map cfS).take (k+1)=(L.map cfS).take k++[(x.1,j7 x.2)]:=by rw[List.take_add_one,hx2];rfl
   have hem:((L.map cfS).take k).isEmpty=decide (k=0):=by
    cases k with
    | zero=>rfl
    | succ k =>
     have:((L.map cfS).take (k+1)).length=k+1:=by rw[List.length_take,List.length_map];omega
     cases hq:(L.map cfS).take (k+1) with
     | nil=>rw[hq] at this;cases this
     | cons y l=>simp
   have hpk:=hpre (k+1);have hrow:=a7X l8 ((L.map cfS).take k) true (x.1,j7 x.2);rw[<-hsn,hem] at hrow;rw[hrow] at hpk;simp only[List.length_append,List.length_cons,Bool.true_and] at hpk hrow;obtain⟨xn,xt⟩:=x;obtain⟨x0,x1,x2,x3,hxx⟩:=l6 xt;simp only at hspx hpk hrow;rw[hxx] at hspx;have gx:va Q z=some [.sc (.string xn),x0,x1,x2,x3]:=by rw[r2,hz,if_pos (by omega),hQ,show ((k:Int)).toNat=k by omega,a3j hx,hxx]
   have hz1:qa .i64 (qb z 1)=((k+1:Nat):Int):=by rw[e1,e2,hz,IntWalk.i64_in _ (by omega)];omega
   have hmu:L.length - (qa .i64 (qb z 1)).toNat<L.length - z.toNat:=by rw[hz1,hz];omega
   have hgt:qh 0 z=decide (0<k):=by rw[e7,hz];exact decide_eq_decide.2 (by omega)
   have hxn:xn=bx (H3 xn):=(b99 xn).symm;obtain⟨xb,hxb⟩:∃l,l=H3 xn:=⟨_,rfl⟩;have hxl:xn.data.toList=xb:=hxb.symm;rw[hxl] at hpk hrow;rw[<-hxb] at hxn;obtain⟨pre,hpreq⟩:∃l,l=K6 l8 true ((L.map cfS).take k):=⟨_,rfl⟩;rw[<-hpreq] at hO hpk hrow;obtain⟨tx,htx⟩:∃l,l=l8 (j7 xt):=⟨_,rfl⟩;rw[<-htx] at hpk hrow;rw[show a4G (j7 xt)=bx tx by rw[htx];rfl] at hspx;rw[hlt]
   by_cases hk0:k=0
   ·rw[decide_eq_true hk0,if_pos rfl,List.nil_append] at hrow;rw[decide_eq_true hk0,if_pos rfl,List.length_nil] at hpk;rw[decide_eq_false (by omega)] at hgt;obtain⟨O1,hO1⟩:∃S,S=bx (pre++xb):=⟨_,rfl⟩;obtain⟨O2,hO2⟩:∃S,S=bx (pre++xb++[58]):=⟨_,rfl⟩;obtain⟨O3,hO3⟩:∃S,S=bx (pre++xb++[58]++tx):=⟨_,rfl⟩;have k1:qp O xn=O1:=by rw[hO,hxn,hcat,hO1]
    have k2:qp O1 ⟨#[58]⟩=O2:=by rw[hO1,show (⟨#[58]⟩:ByteArray)=bx [58] from rfl,hcat,hO2]
    have z1:O.size+xn.size<=4611686018427387904:=by rw[hO,hxn,s8,s8];omega
    have z2:O1.size+(⟨#[58]⟩:ByteArray).size<=4611686018427387904:=by rw[hO1,show (⟨#[58]⟩:ByteArray)=bx [58] from rfl,s8,s8,List.length_append,List.length_singleton];omega
    have z3:O2.size+(bx tx).size<=4611686018427387904:=by rw[hO2,s8,s8];simp only[List.length_append,List.length_singleton];omega
    have k3:qp O2 (bx tx)=O3:=by rw[hO2,hcat,hO3]
    have fin:O3=bx (K6 l8 true ((L.map cfS).take (k+1))):=by rw[hO3,hrow];simp
    generalize bx tx=TX at *
    iterate 2 (try cbv;repeat ((first|with_reducible apply j2 hA|rw[hgt]|rw[gx]|rw[k1]|rw[k2]|rw[k3]|refine j3 hA _ hspx rfl ?_|refine j4 hA _ hspx ?_|refine n9 hA z1 ?_|refine n9 hA z2 ?_|refine n9 hA z3 ?_);cbv))
    try simp (maxSteps:=4000000) only [nc] at *
    refine⟨(qa .i64 (qb z 1),O3),⟨k+1,hz1,h9,fin⟩,hmu,?_⟩;cbv
   ·rw[decide_eq_false hk0,if_neg (by decide)] at hrow;rw[decide_eq_false hk0,if_neg (by decide),List.length_singleton] at hpk;rw[decide_eq_true (by omega)] at hgt;obtain⟨O0,hO0⟩:∃S,S=bx (pre++[44]):=⟨_,rfl⟩;obtain⟨O1,hO1⟩:∃S,S=bx (pre++[44]++xb):=⟨_,rfl⟩;obtain⟨O2,hO2⟩:∃S,S=bx (pre++[44]++xb++[58]):=⟨_,rfl⟩;obtain⟨O3,hO3⟩:∃S,S=bx (pre++[44]++xb++[58]++tx):=⟨_,rfl⟩;have k0:qp O ⟨#[44]⟩=O0:=by rw[hO,show (⟨#[44]⟩:ByteArray)=bx [44] from rfl,hcat,hO0]
    have k1:qp O0 xn=O1:=by rw[hO0,hxn,hcat,hO1]
    have k2:qp O1 ⟨#[58]⟩=O2:=by rw[hO1,show (⟨#[58]⟩:ByteArray)=bx [58] from rfl,hcat,hO2]
    have z0:O.size+(⟨#[44]⟩:ByteArray).size<=4611686018427387904:=by rw[hO,show (⟨#[44]⟩:ByteArray)=bx [44] from rfl,s8,s8,List.length_singleton];omega
    have z1:O0.size+xn.size<=4611686018427387904:=by rw[hO0,hxn,s8,s8];simp only[List.length_append,List.length_singleton];omega
    have z2:O1.size+(⟨#[58]⟩:ByteArray).size<=4611686018427387904:=by rw[hO1,show (⟨#[58]⟩:ByteArray)=bx [58] from rfl,s8,s8];simp only[List.length_append,List.length_singleton];omega
    have z3:O2.size+(bx tx).size<=4611686018427387904:=by rw[hO2,s8,s8];simp only[List.length_append,List.length_singleton];omega
    have k3:qp O2 (bx tx)=O3:=by rw[hO2,hcat,hO3]
    have fin:O3=bx (K6 l8 true ((L.map cfS).take (k+1))):=by rw[hO3,hrow];simp
    generalize bx tx=TX at *
    iterate 2 (try cbv;repeat ((first|with_reducible apply j2 hA|rw[hgt]|rw[gx]|rw[k0]|rw[k1]|rw[k2]|rw[k3]|refine j3 hA _ hspx rfl ?_|refine j4 hA _ hspx ?_|refine n9 hA z0 ?_|refine n9 hA z1 ?_|refine n9 hA z2 ?_|refine n9 hA z3 ?_);cbv))
    try simp (maxSteps:=4000000) only [nc] at *
    refine⟨(qa .i64 (qb z 1),O3),⟨k+1,hz1,h9,fin⟩,hmu,?_⟩;cbv
  ·rw[decide_eq_false h9] at hlt;rw[List.take_of_length_le (by rw[List.length_map];omega)] at hO;rw[List.length_append] at hlen;generalize K6 l8 true (L.map cfS)=pre at *;rw[hlt]
   rcases htl with ho|ho|ho
   ·have q9:qj to 9=false:=by rw[e9,ho];rfl
    have q10:qj to 10=false:=by rw[e9,ho];rfl
    rw[if_neg (by omega),if_neg (by omega),List.append_nil,<-hO] at hRES;rw[hRES]
    iterate 2 (try cbv;repeat ((first|with_reducible apply j2 hA|rw[q9]|rw[q10]);cbv))
   ·have q9:qj to 9=true:=by rw[e9,ho];rfl
    rw[if_pos ho] at hRES hlen;have k1:qp O ⟨#[124,63]⟩=RES:=by rw[hO,show (⟨#[124,63]⟩:ByteArray)=bx [124,63] from rfl,hcat,hRES]
    have z1:O.size+(⟨#[124,63]⟩:ByteArray).size<=4611686018427387904:=by rw[hO,show (⟨#[124,63]⟩:ByteArray)=bx [124,63] from rfl,s8,s8];omega
    iterate 2 (try cbv;repeat ((first|with_reducible apply j2 hA|rw[q9]|rw[k1]|refine n9 hA z1 ?_);cbv))
   ·have q9:qj to 9=false:=by rw[e9,ho];rfl
    have q10:qj to 10=true:=by rw[e9,ho];rfl
    rw[if_neg (by omega),if_pos ho] at hRES hlen;have hi:=b8u tn.toNat tn (Nat.le_refl _) ht0 htn;obtain⟨O1,hO1⟩:∃S,S=bx (pre++[124,39]):=⟨_,rfl⟩;have k1:qp O ⟨#[124,39]⟩=O1:=by rw[hO,show (⟨#[124,39]⟩:ByteArray)=bx [124,39] from rfl,hcat,hO1]
    have k2:qp O1 (bx (Lib.itoa tn))=RES:=by rw[hO1,hcat,hRES];simp
    simp only[List.length_cons] at hlen;have z1:O.size+(⟨#[124,39]⟩:ByteArray).size<=4611686018427387904:=by rw[hO,show (⟨#[124,39]⟩:ByteArray)=bx [124,39] from rfl,s8,s8];simp only[List.length_cons,List.length_nil];omega
    have z2:O1.size+(bx (Lib.itoa tn)).size<=4611686018427387904:=by rw[hO1,s8,s8];simp only[List.length_append,List.length_cons,List.length_nil];omega
    generalize bx (Lib.itoa tn)=NT at *
    iterate 2 (try cbv;repeat ((first|with_reducible apply j2 hA|rw[q9]|rw[q10]|rw[k1]|rw[k2]|refine j3 hA _ hi rfl ?_|refine j4 hA _ hi ?_|refine n9 hA z1 ?_|refine n9 hA z2 ?_);cbv))
end Go.Proofs.YtncijebklnbhlaaGreatDoor.Vm
end

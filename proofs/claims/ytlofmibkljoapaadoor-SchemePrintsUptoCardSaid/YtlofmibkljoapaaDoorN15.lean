/- Part 15 of the proof. Conditions: none. -/
import Derived.Test.YtlofmibkljoapaaDoorN4
import Derived.Test.YtlofmibkljoapaaDoorN8
import Derived.Test.YtlofmibkljoapaaDoorN12
import Derived.Test.YtlofmibkljoapaaDoorN13
import Derived.IntWalk
import Derived.Test.YtlofmibkljoapaaDoorN0
set_option linter.all false
set_option linter.unusedVariables false
set_option linter.unusedSimpArgs false
section
namespace Go.Proofs.YtlofmibkljoapaaDoor.Vm
open Go.RowKit
set_option maxRecDepth 100000
set_option maxHeartbeats 4000000
theorem a9q (l:List (Int×Ty)):∀ts:List Ty,B2.putPs l ts=ts.map (B2 l)
 | []=>by rw[B2.putPs];rfl
 | t::ts=>by rw[B2.putPs,a9q l ts];rfl
theorem b4V {l:List (Int×Ty)} {n:Int} {row:Bool} {p:Int×Ty} (h:ofS l n row=some p):p∈l/\a5h row p.2=true:=by
 unfold ofS at h;have h1:=c5n h;simp only[c3D] at h1;exact⟨c47 h,h1.2⟩
theorem b6j {row:Bool} {t:Ty} (h:a5h row t=true):c8 f8 t (if row=true then 114 else 116)=true:=by
 unfold a5h at h;cases row <;> simp only[j1,c3D] at h ⊢ <;> exact h.1
theorem b1T {W:ByteArray->Bool} {op:Int} {nm:ByteArray} {n:Int} {ks:List Ty} {s:Int} (h:c8 W (.mk op nm n ks) s=true):(op=7->s≠114)/\(op=10->s=114):=by
 obtain⟨k,hk,h1,_⟩:=f9 h;simp only[Ty.op] at h1;refine⟨λe=>?_,λe=>?_⟩
 ·subst e
  simpa using h1
 ·subst e
  simpa using h1
theorem b3l {W:ByteArray->Bool} {t:Ty} {s:Int} (h:c8 W t s=true) (hs:s≠114):c8 W t 116=true:=by
 obtain⟨k,hk,h1,h2,h3,h4,h5,h6⟩:=f9 h;obtain⟨op,nm,n,ks⟩:=t;refine a1g hk ?_ h2 h3 h4 h5 h6;have e:(s == 114)=false:=by simpa using hs
 rw[e] at h1;exact h1
theorem b8r {W:ByteArray->Bool} {t:Ty} {s:Int} (h:c8 W t 116=true) (hs:s≠114):c8 W t s=true:=by
 obtain⟨k,hk,h1,h2,h3,h4,h5,h6⟩:=f9 h;obtain⟨op,nm,n,ks⟩:=t;refine a1g hk ?_ h2 h3 h4 h5 h6;have e:(s == 114)=false:=by simpa using hs
 rw[e];exact h1
theorem b6k {W:ByteArray->Bool} (t:Ty):∀s,c8 W t s=true->∀x∈t.parts,∃c,c8 W x c=true:=by
 induction t using Ty.ind with
 | h t ih =>
  intro s h x hx;rw[d9] at hx
  rcases c3F.1 hx with rfl|hx
  ·exact⟨s,h⟩
  ·obtain⟨y,hy,hx⟩:=c4a.1 hx;obtain⟨k,hk,h1,h2,h3,h4,h5,h6⟩:=f9 h;obtain⟨c,hc⟩:=J0 W _ _ h6 y hy;exact ih y hy c hc x hx
theorem b3m {W:ByteArray->Bool} {t:Ty} {s:Int} (h:c8 W t s=true):c25 t:=λx hx=>by
 obtain⟨c,hc⟩:=b6k t s h x hx;obtain⟨k,hk,h1,h2,_⟩:=f9 hc;rw[h2];unfold y6 at hk
 repeat' split at hk
 all_goals first|cases hk;simp|cases hk
theorem a9r (l:List (Int×Ty)) {op:Int} (nm:ByteArray) (n:Int) (ks:List Ty) (h:¬(op=7\/op=10)):b0u l (.mk op nm n ks)=.mk op nm n (ks.map (b0u l)):=by rw[b0u,c3G h,a9m]
theorem U8 (l:List (Int×Ty)) {op:Int} (nm:ByteArray) (n:Int) (ks:List Ty) (h:¬(op=7\/op=10)):B2 l (.mk op nm n ks)=.mk op nm n (ks.map (B2 l)):=by rw[B2,c3G h,a9q]
theorem b1U {l:List (Int×Ty)} {op:Int} {nm:ByteArray} {n:Int} {ks:List Ty} {s:Int} {p:Int×Ty} (h:c8 f8 (.mk op nm n ks) s=true) (hop:op=7\/op=10) (hp:ofS l n (op == 10)=some p):c8 f8 p.2 s=true/\c8 f8 p.2 (if (op == 10)=true then 114 else 116)=true:=by
 have h1:=b6j (b4V hp).2;have h2:=b1T h;refine⟨?_,h1⟩
 rcases hop with rfl|rfl
 ·exact b8r h1 (h2.1 rfl)
 ·rw[h2.2 rfl];exact h1
theorem b3n (l:List (Int×Ty)) (t:Ty):∀s,c8 f8 t s=true->c8 f8 (b0u l t) s=true:=by
 induction t using Ty.ind with
 | h t ih =>
  intro s h;obtain⟨op,nm,n,ks⟩:=t
  by_cases hop:op=7\/op=10
  ·rw[b0u,c3E hop];cases hp:ofS l n (op == 10) with
   | none=>exact h
   | some p=>exact(b1U h hop hp).1
  ·rw[a9r l nm n ks hop];obtain⟨k,hk,h1,h2,h3,h4,h5,h6⟩:=f9 h;exact a1g hk h1 (by rw[c4h];exact h2) h3 h4 h5 (a1i h6 λx hx k hxk=>ih x hx k hxk)
theorem a2q (l:List (Int×Ty)) (t:Ty):∀s,c8 f8 t s=true->c8 f8 (B2 l t) s=true:=by
 induction t using Ty.ind with
 | h t ih =>
  intro s h;obtain⟨op,nm,n,ks⟩:=t
  by_cases hop:op=7\/op=10
  ·rw[B2,c3E hop];cases hp:ofS l n (op == 10) with
   | none=>exact h
   | some p=>exact A3 _ p.2 s (c3A _) (b1U h hop hp).1
  ·rw[U8 l nm n ks hop];obtain⟨k,hk,h1,h2,h3,h4,h5,h6⟩:=f9 h;exact a1g hk h1 (by rw[c4h];exact h2) h3 h4 h5 (a1i h6 λx hx k hxk=>ih x hx k hxk)
theorem b8s (l:List (Int×Ty)) {t:Ty} {s:Int} (h:c8 f8 t s=true) (hk:t.kids=[]) (h11:t.op≠11):B2 l t=b9 (b0u l t):=by
 obtain⟨op,nm,n,ks⟩:=t;obtain rfl:ks=[]:=hk
 by_cases hop:op=7\/op=10
 ·rw[B2,c3E hop,b0u,c3E hop];cases hp:ofS l n (op == 10) with
  | none=>exact(a0O h11 rfl).symm
  | some p=>rfl
 ·rw[U8 l nm n [] hop,a9r l nm n [] hop];exact(a0O h11 rfl).symm
section
section
variable {I0:Nat->Nat->Prop} {X:Nat->Prop} {w0:W0} {I:Nat->Nat->Prop} {g:Nat->Value} {s:S} {a:Act} {w:World}
end
theorem v7.drop (s:S) (k:Nat):v7 s ⟨s.t,B5 s.o k .dead⟩:=by
 rintro I0 X w0 a w ⟨I,g,h⟩
 rw[y5];refine⟨I,g,h.im,h.lt,h.fr,h.kp,by simp only[c3N];exact h.lo,h.st,λi o ho=>?_,λi j b hi hj=>h.dis i j b (a3C hi) (a3C hj),λi hi=>h.out i (by simpa using hi),h.tmp,h.dfr⟩
 by_cases hd:o=.dead
 ·subst hd;exact True.intro
 by_cases hik:k=i
 ·subst hik;rw[List.getElem?_set] at ho
  split at ho
  ·split at ho
   ·exact absurd (Option.some.inj ho).symm hd
   ·cases ho
  ·exact absurd rfl ‹¬_›
 ·simp only[c3O hik] at ho;exact h.obj i o ho
section
variable {qa:IntKind->Int->Int} {qb:Int->Int->Int} {qc:Int->Int->Int} {qd:Int->Int->Int} {qe:Int->Int->Int} {qf:Int->Int->Int} {qg:BinOp->IntKind->Int->IntKind->Int->Option Int} {qh:Int->Int->Bool} {qi:Int->Int->Bool} {qj:Int->Int->Bool} {qk:Int->Prop->Prop} {ql:List UInt8->List UInt8->Bool} {qm:List UInt8->List UInt8->Bool} {qo:ByteArray->List UInt8} {qp:ByteArray->ByteArray->ByteArray} {qq:ByteArray->ByteArray->Prop->Prop} {qs:ByteArray->Int} {qt:ByteArray->Int->Option Int} {qu:ByteArray->Int->Int->Option ByteArray} {qv:List (List D)->Option ByteArray} {qw:ByteArray->List (List D)} {qx:Int->Nat->Option Nat} {qy:List (List D)->Int} {qz:List (List D)->Int->Option (List D)} {vc:List (List D)->Int->Int->Option (List (List D))} {vd:List (List D)->List (List D)->List (List D)} {ve:List (List D)->Int->List D->List (List D)} {vf:List (List D)->List (List D)->Prop->Prop} {vg:List (R×R)->R->Option R} {vh:List (R×R)->R->R->List (R×R)} {vj:List D->List D->Bool} {vk:Int->List D->(List (List D)->Prop)->Prop} {vl:Nat->List R->(List R->Prop)->Prop} {vp:Nat->List V->List O->(V->Prop)->Prop} {vq:Nat->List V->S->(V->S->Prop)->Prop} {vr:Nat->List V->List Nat->S->(V->S->Prop)->Prop} {vt:Nat->(Bool->Prop)->Prop} {vu:Nat->(Bool->Prop)->Prop} {vv:Nat->(List V->List O->Prop)->List V->S->Prop} {vw:(S->Prop)->S->Prop} {vx:Op->Option Nat->S->(S->Prop)->Prop} {vy:Array Oper->S->(S->Prop)->Prop} {vz:Code->(S->(X->S->Prop)->Prop)->S->(X->S->Prop)->Prop}
end
end

def sR (op nm n:Value) (K:List (List D)) (res:List V) (os:List O):Prop:=res=[.ag [.d (.sc op),.d (.sc nm),.d (.sc n),.d (.sl 4 K)]]/\os=[.dead]


def rI (l:List Int):List (List D):=l.map λn=>[.sc (.int .i64 n)]
theorem a8e (l:List Int):(rI l).length=l.length:=by rw[rI,c4h]
theorem b8t {l:List Int} {k:Nat} {x:Int} (h:l[k]?=some x):(rI l)[k]?=some [.sc (.int .i64 x)]:=by rw[rI,c4j,h];rfl
theorem b8u {l:List Int} {x y:Int} {k:Nat} (h:l[k]?=some y):atS (l.drop k) x k=if y=x then (k:Int) else atS (l.drop (k+1)) x (k+1):=by
 obtain⟨hi,e⟩:=c35.1 h;rw[c3U hi,e,atS]
theorem c28 (l:List Int) (x:Int) (hl:l.length<=1048576):l6 66 [.one (.sl 1 (rI l)),.one (.sc (.int .i64 x))] [.one (.sc (.int .i64 (atS l x 0)))]:=by
 obtain⟨L,hL⟩:∃L,L=rI l:=⟨_,rfl⟩;obtain⟨r,hr⟩:∃r,r=atS l x 0:=⟨_,rfl⟩;rw[<-hL,<-hr];refine K7 Tryd.func66 rfl ?_;intro qa qb _ _ _ _ _ qh _ qj _ _ _ _ _ _ _ _ _ _ _ _ qy qz;intros;rename_i hA;cbv;refine gn ?_;obtain⟨e1,e2,e3,e4,e5,e6,e7,e8,e9⟩:=j3 hA;obtain⟨r1,r2,-⟩:=m8 hA;refine l7 hA (γ:=Int) (λz=>[(5,vi .i64 z)]) (λz=>[]) (λz=>∃k:Nat,z=(k:Int)/\k<=l.length/\r=atS (l.drop k) x k) (λz=>l.length - z.toNat) 0 ?_ ?_ ?_
 ·exact⟨0,rfl,c4e _,hr⟩
 ·cbv
 ·intro z hinv;cbv
  repeat ((with_reducible apply b6 hA);cbv)
  obtain⟨k,hz,hk,hR⟩:=hinv;replace hz:z=(k:Int):=hz;have hll:qy L=((l.length:Nat):Int):=by rw[r1,hL,a8e]
  have hlt:qh z (qy L)=decide (k<l.length):=by rw[e7,hll,hz];exact c3M.2 (by omega)
  by_cases h9:k<l.length
  ·rw[c3K h9] at hlt;obtain⟨y,hy⟩:∃y,l[k]?=some y:=⟨_,c39 h9⟩;rw[b8u hy] at hR;have gx:qz L z=some [.sc (.int .i64 y)]:=by rw[r2,hz,c3E (by omega),hL,show ((k:Int)).toNat=k by omega,b8t hy]
   have heq:qj y x=decide (y=x):=by rw[e9];rfl
   have hz1:qa .i64 (qb z 1)=((k+1:Nat):Int):=by rw[e1,e2,hz,IntWalk.i64_in _ (by omega)];omega
   have hmu:l.length - (qa .i64 (qb z 1)).toNat<l.length - z.toNat:=by rw[hz1,hz];omega
   by_cases hyx:y=x
   ·rw[c3E hyx] at hR;rw[c3K hyx] at heq;have hzr:z=r:=by rw[hz,hR]
    subst hzr;rw[hlt];cbv
    repeat (first|(with_reducible apply b6 hA;cbv)|(rw[gx];cbv)|(rw[heq];cbv))
   ·rw[c3G hyx] at hR;rw[c3I hyx] at heq;rw[hlt];cbv
    repeat (first|(with_reducible apply b6 hA;cbv)|(rw[gx];cbv)|(rw[heq];cbv))
    refine⟨qa .i64 (qb z 1),⟨k+1,hz1,h9,hR⟩,hmu,?_⟩;cbv
  ·rw[c3I h9] at hlt;rw[c5j (by omega),atS] at hR;subst hR;rw[hlt];cbv
   repeat ((with_reducible apply b6 hA);cbv)
theorem c1D:∀(l:List Int) (x:Int) (k:Nat),0<=atS l x k↔x∈l:=λl x k=>by
 by_cases h:x∈l
 ·exact⟨λ_=>h,λ_=>b0b l x k h⟩
 ·rw[b1w l x k h];exact⟨λe=>absurd e (by decide),λe=>absurd e h⟩
theorem c3j (l:List Int) (x:Int) (hl:l.length<=1048576):l6 67 [.one (.sl 1 (rI l)),.one (.sc (.int .i64 x))] [.one (.sc (.bool (decide (x∈l))))]:=by
 have h1:=c28 l x hl;have h2:decide (0<=atS l x 0)=decide (x∈l):=c3M.2 (c1D l x 0);generalize decide (x∈l)=b at *;generalize rI l=L at *;generalize atS l x 0=r at *;refine K7 Tryd.func67 rfl ?_;intro _ _ _ _ _ _ _ _ qi;intros;rename_i hA;have h8:qi 0 r=b:=by have e:=j3 hA;rw[e.2.2.2.2.2.2.2.1,h2]
 cbv
 repeat (first|(with_reducible apply b6 hA;cbv)|(refine c5 hA _ h1 rfl ?_;cbv)|(rw[h8];cbv))
theorem b4W (l:List Int) (x:Int):rI (l++[x])=rI l++[[.sc (.int .i64 x)]]:=by unfold rI;rw[c4J];rfl
def nmI (v i:Bool) (x y:List Int):List Int:=match v with|true=>(match i with|true=>y|false=>x)|false=>y
theorem c1E (t:Ty) (ht:t.parts.length<=1048576) (hst:∀x∈t.parts,G2 x):l6 42 [.ag (cT t)] [.one (.sl 1 (rI (w5 t)))]:=by
 have hp:=E9 _ t (c3A _) hst;have h1:=b41 _ t (c3A _) ht hst;have h2:=a9V (b9 t) (by omega);have hv:w5 t=v8 (b9 t).parts []:=rfl;obtain⟨a0,a1,a2,a3,ha⟩:=c9 t;obtain⟨c0,c1,c2,c3,hc⟩:=c9 (b9 t);rw[ha,hc] at h1;rw[hc] at h2;rw[ha];generalize (b9 t).parts=ps at *;obtain⟨P,hP⟩:∃P,P=rT ps:=⟨_,rfl⟩;obtain⟨Q,hQ⟩:∃Q,Q=rI (w5 t):=⟨_,rfl⟩;rw[<-hP] at h2;rw[<-hQ];have hps:ps.length<=1048576:=by omega
 refine K7 Tryd.func42 rfl ?_;intro qa qb _ _ _ _ _ qh _ qj _ _ _ _ _ _ _ _ _ _ _ _ qy qz _ vd;intros;rename_i hA;cbv
 repeat (first|(refine a2g hA 3 3 true rfl ?_;cbv)|(with_reducible apply b6 hA;cbv)|(refine c5 hA _ h1 rfl ?_;cbv)|(refine c5 hA _ h2 rfl ?_;cbv))
 obtain⟨e1,e2,e3,e4,e5,e6,e7,e8,e9⟩:=j3 hA;obtain⟨r1,r2,r3,r4⟩:=m8 hA;refine l7 hA (γ:=Int×List (List D)) (λx=>[(5,vi .i64 x.1),(3,.own 1)]) (λx=>[(1,.row true 3 x.2)]) (λx=>∃k:Nat,x.1=(k:Int)/\k<=ps.length/\x.2=rI (v8 (ps.take k) [])) (λx=>ps.length - x.1.toNat) (0,[]) ?_ ?_ ?_
 ·exact⟨0,rfl,c4e _,rfl⟩
 ·cbv
 ·intro x hinv;obtain⟨z,M⟩:=x;cbv;refine gn ?_;obtain⟨k,hz,hk,hM⟩:=hinv;replace hz:z=(k:Int):=hz;replace hM:M=rI (v8 (ps.take k) []):=hM;have hll:qy P=((ps.length:Nat):Int):=by rw[r1,hP,B7]
  have hlt:qh z (qy P)=decide (k<ps.length):=by rw[e7,hll,hz];exact c3M.2 (by omega)
  by_cases h9:k<ps.length
  ·rw[c3K h9] at hlt;obtain⟨x,hx⟩:∃x,ps[k]?=some x:=⟨_,c39 h9⟩;have hal:=U4 (ps.take k) [];rw[c3Z,c3H] at hal;have hsn:=a7I (ps.take k) [] x;rw[show ps.take k++[x]=ps.take (k+1) by rw[c5a,hx];rfl] at hsn;obtain⟨op,nm,n,ks⟩:=x;have gx:qz P z=some [.sc (.int .u8 op),.sc (.string nm),.sc (.int .i64 n),.sl 4 (rT ks)]:=by rw[r2,hz,c3E (by omega),hP,show ((k:Int)).toNat=k by omega,T3 hx,cT]
   generalize rT ks=K1 at *;generalize v8 (ps.take k) []=acc at *;have h3:=c3j acc n (by omega);rw[<-hM] at h3;have hz1:qa .i64 (qb z 1)=((k+1:Nat):Int):=by rw[e1,e2,hz,IntWalk.i64_in _ (by omega)];omega
   have hmu:ps.length - (qa .i64 (qb z 1)).toNat<ps.length - z.toNat:=by rw[hz1,hz];omega
   have hMl:M.length<=1048576:=by rw[hM,a8e];omega
   have hadd:vd M [[.sc (.int .i64 n)]]=rI (acc++[n]):=by rw[r4,b4W,hM]
   have q7:qj op 7=(op == 7):=e9 _ _;have q10:qj op 10=(op == 10):=e9 _ _;have hiv:r9 (Ty.mk op nm n ks)=((op == 7) || (op == 10)):=rfl;rw[hiv,show (Ty.mk op nm n ks).n=n from rfl] at hsn;have hsn2:v8 (ps.take (k+1)) []=nmI ((op == 7) || (op == 10)) (decide (n∈acc)) (acc++[n]) acc:=by rw[hsn];cases ((op == 7) || (op == 10)) <;> by_cases hn:n∈acc <;> simp[nmI,hn]
   clear hsn hiv;rw[hlt];generalize (op == 7)=b7 at *;generalize (op == 10)=b10 at *;generalize decide (n∈acc)=bi at *;cases b7 <;> cases b10 <;> cases bi
   all_goals
    cbv
    repeat (first|(with_reducible apply b6 hA;cbv)|(rw[gx];cbv)|(rw[q7];cbv)|(rw[q10];cbv)|(refine c5 hA _ h3 rfl ?_;cbv)|(refine z6 hA true ?_;cbv)|(refine w8 hA (by simp only[c3C,c3H];omega) ?_;cbv))
    first
    | (refine⟨(qa .i64 (qb z 1),M),⟨k+1,hz1,h9,by rw[hsn2];exact hM⟩,hmu,?_⟩;cbv;done)
    | (refine⟨(qa .i64 (qb z 1),vd M [[.sc (.int .i64 n)]]),⟨k+1,hz1,h9,by rw[hsn2];exact hadd⟩,hmu,?_⟩;cbv)
  ·rw[c3I h9] at hlt;have hM2:M=Q:=by rw[hM,c4i (by omega),hQ,hv]
   rw[hlt];cbv;refine gn ?_;exact⟨by rw[hM2],trivial⟩
def vO (es:List (R×R)) (L:List (List D)):List O:=[.box [.mp 2],.box [.own 3],.mp 3 es,.row true 3 L]
def a8f (acc:List Int) (x:Ty):List Int:=if r9 x=true/\x.n∉acc then acc++[x.n] else acc
def a4v (acc:List Int):Int->Option Bool:=λn=>if n∈acc then some true else none
theorem SAt.add {es:List (R×R)} {acc:List Int} (h:SAt es (a4v acc)) (n:Int):SAt (a05 es (ik n) (.one (.sc (.bool true)))) (a4v (acc++[n])):=by
 have h2:=h.set n true
 have e:a7D (a4v acc) n true=a4v (acc++[n]):=by
  funext x
  unfold a7D a4v
  by_cases hx:x=n
  ·subst hx;simp
  ·simp[hx]
 rw[e] at h2;exact h2
theorem b9V (x:Ty) (acc:List Int) (es:List (R×R)) (hes:SAt es (a4v acc)) (hacc:acc.length<=1048576) :
  o5 52 [.ag (ofD (cT x)),.ptr 0 0,.ptr 1 0] (vO es (rI acc)) (λres os=>res=[]/\∃es',SAt es' (a4v (a8f acc x))/\os=vO es' (rI (a8f acc x))):=by
 obtain⟨op,nm,n,ks⟩:=x;have hlk:=hes.2 n;have hmem:(a4v acc n).map (λb=>R.one (.sc (.bool b)))=if n∈acc then some (R.one (.sc (.bool true))) else none:=by unfold a4v;by_cases h:n∈acc <;> simp[h]
 rw[hmem] at hlk;have hset:=hes.add n;have hadd:a8f acc (.mk op nm n ks)=if ((op == 7) || (op == 10))=true/\n∉acc then acc++[n] else acc:=rfl
 rw[hadd];have hsnoc:=b4W acc n;obtain⟨Q,hQ⟩:∃Q:List V->List O->Prop,Q=(λres os=>res=[]/\∃es',SAt es' (a4v (if ((op == 7) || (op == 10))=true/\n∉acc then acc++[n] else acc))/\os=vO es' (rI (if ((op == 7) || (op == 10))=true/\n∉acc then acc++[n] else acc))):=⟨_,rfl⟩;rw[<-hQ]
 have hQ1:((op == 7) || (op == 10))=true->n∉acc->Q [] (vO (a05 es (ik n) (.one (.sc (.bool true)))) (rI (acc++[n]))):=λh1 h2=>by
  rw[hQ];refine⟨rfl,a05 es (ik n) (.one (.sc (.bool true))),?_,?_⟩
  ·rw[c3E ⟨h1,h2⟩];exact hset
  ·rw[c3E ⟨h1,h2⟩]
 have hQ2:((op == 7) || (op == 10))=false\/n∈acc->Q [] (vO es (rI acc)):=λh=>by
  have hn:¬(((op == 7) || (op == 10))=true/\n∉acc):=by
   rintro ⟨h1,h2⟩
   rcases h with h|h
   ·rw[h] at h1;cases h1
   ·exact h2 h
  rw[hQ];refine⟨rfl,es,?_,?_⟩
  ·rw[c3G hn];exact hes
  ·rw[c3G hn]
 clear hQ hset hmem hadd hes;obtain⟨M,hM⟩:∃M,M=rI acc:=⟨_,rfl⟩;obtain⟨es2,he2⟩:∃e,e=a05 es (ik n) (.one (.sc (.bool true))):=⟨_,rfl⟩;have hMl:M.length<=1048576:=by rw[hM,a8e];exact hacc
 rw[<-hM] at hQ2 ⊢;rw[hsnoc,<-hM,<-he2] at hQ1;clear hsnoc;rw[cT];obtain⟨K,hK⟩:∃K,K=rT ks:=⟨_,rfl⟩;rw[<-hK];unfold vO at hQ1 hQ2 ⊢;unfold ik at hlk he2;refine so9 Tryd.func52 rfl ?_;intro _ _ _ _ _ _ _ _ _ qj _ _ _ _ _ _ _ _ _ _ _ _ _ _ _ vd _ _ vg vh;intros;rename_i hA;cbv;refine gn ?_;obtain⟨e1,e2,e3,e4,e5,e6,e7,e8,e9⟩:=j3 hA;obtain⟨r1,r2,r3,r4⟩:=m8 hA;obtain⟨m1,m2,-⟩:=N6 hA;have q7:qj op 7=(op == 7):=e9 _ _;have q10:qj op 10=(op == 10):=e9 _ _;have hl:vg es (.one (.sc (.int .i64 n)))=if n∈acc then some (R.one (.sc (.bool true))) else none:=by rw[m1];exact hlk
 have hp:vh es (.one (.sc (.int .i64 n))) (.one (.sc (.bool true)))=es2:=by rw[m2,he2]
 have ha:vd M [[.sc (.int .i64 n)]]=M++[[.sc (.int .i64 n)]]:=r4 _ _;generalize (op == 7)=b7 at *;generalize (op == 10)=b10 at *
 by_cases hm:n∈acc
 ·rw[c3E hm] at hl;replace hQ2:=hQ2 (.inr hm);cases b7 <;> cases b10
  all_goals
   iterate 2 (try cbv;repeat ((first|with_reducible apply b6 hA|rw[q7]|rw[q10]|rw[hl]);cbv))
   try simp (maxSteps:=4000000) only [nc] at *
   exact i6 hA [0,1,2,3] ⟨rfl,rfl,rfl,rfl,rfl,rfl,rfl,rfl⟩ hQ2
 ·rw[c3G hm] at hl;cases b7 <;> cases b10
  ·replace hQ2:=hQ2 (.inl rfl)
   iterate 2 (try cbv;repeat ((first|with_reducible apply b6 hA|rw[q7]|rw[q10]|rw[hl]);cbv))
   try simp (maxSteps:=4000000) only [nc] at *
   exact i6 hA [0,1,2,3] ⟨rfl,rfl,rfl,rfl,rfl,rfl,rfl,rfl⟩ hQ2
  all_goals
   replace hQ1:=hQ1 rfl hm;rw[<-ha] at hQ1
   iterate 2 (try cbv;repeat ((first|with_reducible apply b6 hA|rw[q7]|rw[q10]|rw[hl]|rw[hp]|refine z6 hA true ?_|(refine w8 hA (by simp only[c3C,c3H];omega) ?_));cbv))
   try simp (maxSteps:=4000000) only [nc] at *
   exact i6 hA [0,1,2,3] ⟨rfl,rfl,rfl,rfl,rfl,rfl,rfl,rfl⟩ hQ1
theorem a5l:∀(a b:List Ty) (acc:List Int),v8 (a++b) acc=v8 b (v8 a acc)
 | [],b,acc=>rfl
 | x::a,b,acc=>by rw[c4r,v8,v8];exact a5l a b _
theorem a6w {ks:List Ty} {k:Nat} {x:Ty} (h:ks[k]?=some x):o8 (ks.take (k+1))=o8 (ks.take k)++x.parts:=by
 rw[U3,U3,(b1s ks k x h).2]
theorem c1F:∀(t:Ty) (acc:List Int) (es:List (R×R)),SAt es (a4v acc)->acc.length+t.parts.length<=1048576 ->
  o5 51 [.ag (ofD (cT t)),.cl 52 [0,1]] (vO es (rI acc)) (λres os=>res=[]/\∃es',SAt es' (a4v (v8 t.parts acc))/\os=vO es' (rI (v8 t.parts acc))):=by
 intro t
 induction t using Ty.ind with
 | h t ih =>
  intro acc es hes hN;have hcl:=b9V t acc es hes (by omega);have hkl:=m9 t;have hpe:t.parts=t::o8 t.kids:=r7 t;have hpl:t.parts.length=1+(o8 t.kids).length:=by rw[hpe,c3C];omega
  have hvl:v8 t.parts acc=v8 (o8 t.kids) (a8f acc t):=by rw[hpe,v8];rfl
  have hal:(a8f acc t).length<=acc.length+1:=by unfold a8f;split <;> simp
  rw[hvl];obtain⟨Q,hQ⟩:∃Q:List V->List O->Prop,Q=(λres os=>res=[]/\∃es',SAt es' (a4v (v8 (o8 t.kids) (a8f acc t)))/\os=vO es' (rI (v8 (o8 t.kids) (a8f acc t)))):=⟨_,rfl⟩;rw[<-hQ];have hQ1:∀es',SAt es' (a4v (v8 (o8 t.kids) (a8f acc t)))->Q [] (vO es' (rI (v8 (o8 t.kids) (a8f acc t)))):=λes' h=>by rw[hQ];exact⟨rfl,es',h,rfl⟩
  clear hQ hvl hpe;generalize a8f acc t=ac1 at *;obtain⟨op,nm,n,ks⟩:=t;simp only[Ty.kids] at hkl ih hpl hQ1
  have hxp:∀k,k<=ks.length->(o8 (ks.take k)).length<=(o8 ks).length:=λk _=>by
   conv=>rhs;rw[<-c4D k ks]
   rw[U3,U3,List.flatMap_append,c37];omega
  rw[cT] at hcl ⊢;obtain⟨K,hK⟩:∃K,K=rT ks:=⟨_,rfl⟩;rw[<-hK] at hcl ⊢;obtain⟨M,hM⟩:∃M,M=rI acc:=⟨_,rfl⟩;rw[<-hM] at hcl ⊢;unfold vO at hcl hQ1 ⊢;refine so9 Tryd.func51 rfl ?_;intro qa qb _ _ _ _ _ qh _ _ _ _ _ _ _ _ _ _ _ _ _ _ qy qz;intros;rename_i hA;cbv;refine gn ?_;obtain⟨e1,e2,e3,e4,e5,e6,e7,e8,e9⟩:=j3 hA;obtain⟨r1,r2,r3,r4⟩:=m8 hA;refine d7 hA [0,1,2,3] hcl ⟨rfl,rfl,rfl,rfl,rfl,rfl,rfl⟩ ?_
  rintro res os2 ⟨rfl,es1,hes1,rfl⟩
  obtain⟨M1,hM1⟩:∃M,M=rI ac1:=⟨_,rfl⟩;rw[<-hM1];cbv;refine gn ?_
  refine l7 hA (γ:=Int×List (R×R)×List (List D)) (λx=>[(12,vi .i64 x.1)]) (λx=>[(2,.mp 3 x.2.1),(3,.row true 3 x.2.2)])
   (λx=>∃k:Nat,x.1=(k:Int)/\k<=ks.length/\SAt x.2.1 (a4v (v8 (o8 (ks.take k)) ac1))/\x.2.2=rI (v8 (o8 (ks.take k)) ac1)) (λx=>ks.length - x.1.toNat) (0,es1,M1) ?_ ?_ ?_
  ·exact⟨0,rfl,c4e _,by rw[List.take_zero,o8,v8];exact hes1,by rw[List.take_zero,o8,v8];exact hM1⟩
  ·cbv
  ·intro x hinv;obtain⟨z,es2,M2⟩:=x;cbv;refine gn ?_;try simp only[nc] at *
   obtain⟨k,hz,hk,hes2,hM2⟩:=hinv;have hlen:qy K=(ks.length:Int):=by rw[r1,hK,B7]
   have hlt:qh z (qy K)=decide (k<ks.length):=by rw[e7,hlen,hz];exact c3M.2 (by omega)
   by_cases h9:k<ks.length
   ·rw[c3K h9] at hlt;obtain⟨x,hx⟩:∃x,ks[k]?=some x:=⟨_,c39 h9⟩;have hvl2:=U4 (o8 (ks.take k)) ac1;have hx1:=hxp (k+1) (by omega);rw[a6w hx,c37] at hx1;have hstep:v8 (o8 (ks.take (k+1))) ac1=v8 x.parts (v8 (o8 (ks.take k)) ac1):=by rw[a6w hx,a5l]
    have hsp:=ih x (c3J hx) _ es2 hes2 (by omega);rw[<-hM2,<-hstep] at hsp;obtain⟨M3,hM3⟩:∃M,M=rI (v8 (o8 (ks.take (k+1))) ac1):=⟨_,rfl⟩;rw[<-hM3] at hsp;obtain⟨x0,x1,x2,x3,hxx⟩:=c9 x;have g1:qz K z=some [x0,x1,x2,x3]:=by rw[r2,hz,c3E (by omega),hK,c3W,T3 hx,hxx]
    have hz1:qa .i64 (qb z 1)=((k+1:Nat):Int):=by rw[e1,e2,hz,IntWalk.i64_in _ (by omega)];omega
    have hmu:ks.length - (qa .i64 (qb z 1)).toNat<ks.length - z.toNat:=by rw[hz1,hz];omega
    rw[hxx] at hsp;unfold vO at hsp;rw[hlt];cbv
    repeat (first|(with_reducible apply b6 hA;cbv)|(rw[g1];cbv))
    refine d7 hA [0,1,2,3] hsp ⟨rfl,rfl,rfl,rfl,rfl,rfl,rfl⟩ ?_
    rintro res os2 ⟨rfl,es3,hes3,rfl⟩
    cbv;refine gn ?_;refine⟨(qa .i64 (qb z 1),es3,M3),⟨k+1,hz1,h9,hes3,hM3⟩,hmu,?_⟩;cbv
   ·rw[c3I h9] at hlt;rw[hlt];rw[c4i (by omega)] at hes2 hM2;replace hQ1:=hQ1 es2 hes2;rw[<-hM2] at hQ1;cbv;refine gn ?_;exact i6 hA [0,1,2,3] ⟨rfl,rfl,rfl,rfl,rfl,rfl,rfl,rfl⟩ hQ1
theorem l6.one0 {f:Nat} {rs:List R} {n:Nat} (m:Nat) (h:l6 f rs [.one (.sl n [])]):l6 f rs [.one (.sl m [])]:=h.mono λI w v hv=>AtD.empty m hv
theorem b4X (t:Ty) (ht:Sm t):l6 29 [.ag (cT t)] [.one (.sl 1 (rI (if w6 t=true then w5 t else [])))]:=by
 have h1:=a3l t ht.1 ht.2;have hb:(j1 t 116 || j1 t 114)=w6 t:=rfl;rw[hb] at h1
 by_cases he:w6 t=true
 ·rw[c3E he];have h2:=a3k _ t (c3A _) ht.1 (N2 he);have h3:=c1F (b9 t) [] [] ⟨SAt.nil.1,λn=>by rw[SAt.nil.2];rfl⟩ (by rw[E9 _ t (c3A _) (N2 he)];simpa using ht.1);rw[show v8 (b9 t).parts []=w5 t from rfl] at h3;rw[he] at h1;obtain⟨L,hL⟩:∃L,L=rI (w5 t):=⟨_,rfl⟩;rw[<-hL] at h3 ⊢;obtain⟨a0,a1,a2,a3,ha⟩:=c9 t;obtain⟨c0,c1,c2,c3,hc⟩:=c9 (b9 t);rw[ha] at h1 h2 ⊢;rw[hc] at h2 h3;unfold vO at h3;refine K7 Tryd.func29 rfl λqa qb qc qd qe qf qg qh qi qj qk ql qm qo qp qq qs qt qu qv qw qx qy qz vc vd ve vf vg vh vj vk vl vp vq vr vt vu vv vw vx vy vz hA=>?_
  cbv
  repeat (first|(refine c5 hA _ h1 rfl ?_;cbv)|(refine a5U hA 1 0 3 true rfl rfl ?_;cbv)|(refine c5 hA _ h2 rfl ?_;cbv)|(with_reducible apply b6 hA;cbv))
  refine d7 hA [4,1,3,2] h3 ⟨rfl,rfl,rfl,rfl,rfl,rfl,rfl⟩ ?_
  rintro res os2 ⟨rfl,es3,hes3,rfl⟩
  cbv
  repeat ((with_reducible apply b6 hA);cbv)
 ·have he:w6 t=false:=by simpa using he
  rw[he,c3G (by simp)];rw[he] at h1;obtain⟨a0,a1,a2,a3,ha⟩:=c9 t;rw[ha] at h1 ⊢;refine l6.one0 (n:=0) 1 ?_;refine K7 Tryd.func29 rfl λqa qb qc qd qe qf qg qh qi qj qk ql qm qo qp qq qs qt qu qv qw qx qy qz vc vd ve vf vg vh vj vk vl vp vq vr vt vu vv vw vx vy vz hA=>?_
  iterate 2 (try cbv;repeat ((first|with_reducible apply b6 hA|refine c5 hA _ h1 rfl ?_);cbv))
theorem C8 {W:ByteArray->Bool} {t:Ty}:∀ {s:Int},c8 W t s=true->∀x∈t.parts,∃c,c8 W x c=true:=by
 induction t using Ty.ind with
 | h t ih =>
  intro s h x hx;rw[d9] at hx
  rcases c3F.1 hx with rfl|hx
  ·exact⟨s,h⟩
  ·obtain⟨y,hy,hxy⟩:=c4a.1 hx;obtain⟨k,hk,h1,h2,h3,h4,h5,h6⟩:=f9 h;obtain⟨c,hc⟩:=J0 W _ _ h6 y hy;exact ih y hy hc x hxy
theorem b6l {nm:ByteArray} (h:f8 nm=true):nm.size<=32:=by
 unfold f8 at h;rw[c3D] at h;exact c4d h.1
theorem b3o {t:Ty} {s:Int} (h:c8 f8 t s=true):t.name.size<=32:=by
 obtain⟨k,hk,h1,h2,h3,-⟩:=f9 h
 split at h3
 ·exact b6l h3
 ·have h4:t.name.toList=[]:=c4d h3;have h5:t.name.data.toList=[]:=by rw[<-ByteArray.toList_eq];exact h4
  have h6:t.name.size=t.name.data.toList.length:=by rw[c5r];rfl
  rw[h6,h5]
  simp
theorem c08 {t:Ty} {s:Int} (h:c8 f8 t s=true) (hN:t.parts.length<=1048576):Sm t:=⟨hN,λx hx=>by
 obtain⟨c,hc⟩:=C8 h x hx;have:=b3o hc
 omega⟩
theorem b1V {t u:Ty} (h:P6 t=true) (hu:∀x∈u.parts,x∈t.parts\/x.op=11):P6 u=true:=by
 refine a2X λx hx y hy=>?_
 cases hc:F8 x y with
 | false=>rfl
 | true =>
  have hc':=hc;unfold F8 at hc';simp only[c3D,c4v] at hc';have h1:=(hu x hx).resolve_right (by omega);have h2:=(hu y hy).resolve_right (by omega);rw[a4S h1 h2 hc] at h;cases h
def Ok1 (s:Int) (t:Ty):Prop:=j1 t s=true/\Cn t/\t.parts.length<=1048576
theorem Ok1.sm {t:Ty} {s:Int} (h:Ok1 s t):Sm t:=c08 (j4 h.1).1 h.2.2
theorem Ok1.shape {t:Ty} {s:Int} (h:Ok1 s t):c8 f8 t s=true:=(j4 h.1).1
theorem Ok1.part {t x:Ty} {s c:Int} (h:Ok1 s t) (hx:x∈t.parts) (hc:Cn x) (hs:c8 f8 x c=true):Ok1 c x:=by
 refine⟨?_,hc,c4E (b18 hx) h.2.2⟩;unfold j1;rw[hs,b1V (j4 h.1).2 λy hy=>.inl (A2 hy hx)];rfl
theorem a5m {t x:Ty} (h:x∈t.kids):x∈t.parts:=by
 rw[d9];exact c36 _ (c4a.2 ⟨x,h,by rw[r7];exact c38 ..⟩)
theorem Ok1.field {t:Ty} (h:Ok1 114 t) {f:ByteArray×Ty} (hf:f∈c6 t):Ok1 116 f.2 :=
 h.part (M5 _ t (c3A _) f hf) ((L3 h.shape h.2.1).2 f hf) ((y7 h.shape).1 f hf).2
theorem a6b {tl:Ty}:∀ {fs:List (ByteArray×Ty)} {x:Ty},x∈(A4 fs tl).parts->x.op=11\/(∃f∈fs,x∈f.2.parts)\/x∈tl.parts
 | [],x,h=>.inr (.inr h)
 | f::fs,x,h=>by
  rw[H6,d9] at h
  rcases c3F.1 h with rfl|h
  ·exact .inl rfl
  ·simp only[Ty.kids,c4H,c5k,c3X,c4b] at h
   rcases h with h|h
   ·exact .inr (.inl ⟨f,c38 ..,h⟩)
   ·rcases a6b h with h|⟨g,hg,h⟩|h
    ·exact .inl h
    ·exact .inr (.inl ⟨g,c36 _ hg,h⟩)
    ·exact .inr (.inr h)
theorem b1W {l:List (ByteArray×Ty)} (h:∀f∈l,Cn f.2):l.map cF=l:=by
 conv=>rhs;rw[<-List.map_id l]
 refine c4s λf hf=>?_
 show (f.1,b9 f.2)=f;rw[h f hf]
theorem b6m {l m:List (ByteArray×Ty)} (h:l.Sublist m):B4 l<=B4 m:=by
 induction h with
 | slnil=>exact c3A _
 | cons a _ ih=>simp only[B4,c3Y,c4I] at ih ⊢;omega
 | cons_cons a _ ih=>simp only[B4,c3Y,c4I] at ih ⊢;omega
theorem Ok1.rest {t:Ty} (h:Ok1 114 t) {left:List (ByteArray×Ty)} (hl:left.Sublist (c6 t)):Ok1 114 (A4 left (f7 t)):=by
 have hte:=P9 h.shape;have hcf:=L3 h.shape h.2.1;have hsp:=(j7 h.shape).self;have hsh:c8 f8 (A4 left (f7 t)) 114=true:=a1h (y7 h.shape).2 λf hf=>(y7 h.shape).1 f (hl.subset hf)
 refine⟨?_,?_,?_⟩
 ·unfold j1;rw[hsh,b1V (j4 h.1).2 λy hy=>?_]
  ·rfl
  ·rcases a6b hy with h1|⟨f,hf,h1⟩|h1
   ·exact .inr h1
   ·exact .inl (A2 h1 (M5 _ t (c3A _) f (hl.subset hf)))
   ·exact .inl (A2 h1 (a3c hsp))
 ·show b9 _=_;rw[a4p (hcf.1.sublist hl) hte.1 hte.2.1,b1W λf hf=>hcf.2 f (hl.subset hf)]
 ·rw[a2i];have h1:=a0y _ t (c3A _) hsp
  have h2:B4 left<=B4 (c6 t):=by
   exact b6m hl
  have:=h.2.2;omega
def esT (c:List (Int×Ty)):List (R×R):=c.map λp=>(ik p.1,R.ag (cT p.2))
theorem b0w (n:Int):∀c:List (Int×Ty),a11 (esT c) (ik n)=(c.find? λp=>p.1 == n).map λp=>R.ag (cT p.2)
 | []=>rfl
 | p::c=>by
  show (match rEq (ik p.1) (ik n) with|true=>_|false=>a11 (esT c) (ik n))=_;rw[a5O,b0w n c];cases h:p.1 == n with
  | true=>rw[List.find?_cons_of_pos (by exact h)];rfl
  | false=>rw[List.find?_cons_of_neg (by simp[h])]
theorem b4Y (n:Int) (x:Ty):∀c:List (Int×Ty),(c.find? λp=>p.1 == n)=none->a05 (esT c) (ik n) (.ag (cT x))=esT (c++[(n,x)])
 | [],_=>rfl
 | p::c,h=>by
  rw[List.find?_cons] at h
  split at h
  ·cases h
  ·rename_i hp;have hp:(p.1 == n)=false:=by simpa using hp
   show (match rEq (ik p.1) (ik n) with|true=>_|false=>(ik p.1,R.ag (cT p.2))::a05 (esT c) (ik n) (.ag (cT x)))=_;rw[a5O,hp,b4Y n x c h];rfl
def CB (c:List (Int×Ty)):Prop:=∀p∈c,Ok1 116 p.2\/Ok1 114 p.2
def a3n (o:Option (List (Int×Ty))) (res:List V) (os:List O):Prop:=(∃c',o=some c'/\res=[vb true]/\os=[.mp 3 (esT c')])\/(o=none/\res=[vb false]/\∃es',os=[.mp 3 es'])
theorem b9W {x y:Ty} (hx:Ok1 116 x\/Ok1 114 x) (hy:Ok1 116 y\/Ok1 114 y):b4R x y=L4 x y/\Sm x/\Sm y:=by
 have key:∀ {z:Ty},Ok1 116 z\/Ok1 114 z->w6 z=true/\b9 z=z/\Sm z:=λ{z} h=>by
  rcases h with h|h
  ·exact⟨by unfold w6;rw[h.1];rfl,h.2.1,h.sm⟩
  ·exact⟨by unfold w6;rw[h.1,Bool.or_true],h.2.1,h.sm⟩
 obtain⟨a1,a2,a3⟩:=key hx;obtain⟨b1,b2,b3⟩:=key hy;refine⟨?_,a3,b3⟩;unfold b4R;rw[a1,b1,a2,b2];rfl
theorem b1X {c c':List (Int×Ty)} {n:Int} {x:Ty} (h:a1L c n x=some c') (hc:CB c) (hx:Ok1 116 x\/Ok1 114 x):CB c':=by
 unfold a1L at h
 split at h
 ·split at h
  ·injection h with h;subst h;exact hc
  ·cases h
 ·injection h with h;subst h;intro p hp
  rcases c4b.1 hp with hp|hp
  ·exact hc p hp
  ·simp at hp;subst hp;exact hx
theorem b8v (c:List (Int×Ty)) (n:Int) (x:Ty) (hc:CB c) (hx:Ok1 116 x\/Ok1 114 x):o5 49 [.ag [.mp 0],vi .i64 n,.ag (ofD (cT x))] [.mp 3 (esT c)] (a3n (a1L c n x)):=by
 have hg:=b0w n c;unfold a1L;cases hf:c.find? λp=>p.1 == n with
 | none =>
  rw[hf] at hg;have hset:=b4Y n x c hf;obtain⟨Q,hQ⟩:∃Q,Q=a3n (some (c++[(n,x)])):=⟨_,rfl⟩;have hq:Q [vb true] [.mp 3 (esT (c++[(n,x)]))]:=by rw[hQ];exact .inl ⟨_,rfl,rfl,rfl⟩
  simp only;rw[<-hQ];clear hQ;generalize esT (c++[(n,x)])=E2 at *;generalize esT c=E at *;obtain⟨x0,x1,x2,x3,hxx⟩:=c9 x;rw[hxx] at hset ⊢;unfold ik at hg hset;refine so9 Tryd.func49 rfl λqa qb qc qd qe qf qg qh qi qj qk ql qm qo qp qq qs qt qu qv qw qx qy qz vc vd ve vf vg vh vj vk vl vp vq vr vt vu vv vw vx vy vz hA=>?_
  cbv
  repeat ((with_reducible apply b6 hA);cbv)
  obtain⟨m1,m2,-⟩:=N6 hA;rw[<-m1] at hg;rw[<-m2] at hset;simp only[Option.map_none] at hg
  iterate 2 (try cbv;repeat ((first|with_reducible apply b6 hA|rw[hg]|rw[hset]);cbv))
  try simp (maxSteps:=4000000) only [nc] at *
  exact i6 hA [0] ⟨rfl,rfl,rfl,rfl,rfl,rfl,rfl,rfl⟩ hq
 | some p =>
  rw[hf] at hg;have hpm:=c47 hf;obtain⟨hsm,s1,s2⟩:=b9W (hc p hpm) hx;have hS:=c1A p.2 x s1 s2;rw[hsm] at hS;simp only;obtain⟨Q,hQ⟩:∃Q,Q=a3n (if L4 p.2 x=true then some c else none):=⟨_,rfl⟩
  have hq:Q [vb (L4 p.2 x)] [.mp 3 (esT c)]:=by
   rw[hQ];cases L4 p.2 x with
   | true=>exact .inl ⟨_,rfl,rfl,rfl⟩
   | false=>exact .inr ⟨rfl,rfl,_,rfl⟩
  rw[<-hQ];clear hQ;generalize esT c=E at *;generalize L4 p.2 x=bb at *;obtain⟨x0,x1,x2,x3,hxx⟩:=c9 x;obtain⟨y0,y1,y2,y3,hyy⟩:=c9 p.2;simp only[c4G] at hg;rw[hxx] at hS ⊢;rw[hyy] at hS hg;unfold ik at hg;refine so9 Tryd.func49 rfl λqa qb qc qd qe qf qg qh qi qj qk ql qm qo qp qq qs qt qu qv qw qx qy qz vc vd ve vf vg vh vj vk vl vp vq vr vt vu vv vw vx vy vz hA=>?_
  cbv
  repeat ((with_reducible apply b6 hA);cbv)
  obtain⟨m1,m2,-⟩:=N6 hA;rw[<-m1] at hg
  iterate 2 (try cbv;repeat ((first|with_reducible apply b6 hA|rw[hg]|refine c5 hA _ hS rfl ?_);cbv))
  try simp (maxSteps:=4000000) only [nc] at *
  exact i6 hA [0] ⟨rfl,rfl,rfl,rfl,rfl,rfl,rfl,rfl⟩ hq
end Go.Proofs.YtlofmibkljoapaaDoor.Vm
end

/- Part 26 of the proof. Conditions: none. -/
import Derived.Test.YtlofmibkljoapaaDoorO19
import Derived.Test.YtlofmibkljoapaaDoorO24
import Derived.Test.YtlofmibkljoapaaDoorO25
import Derived.Test.YtlofmibkljoapaaDoorO0
set_option linter.all false
set_option linter.unusedVariables false
set_option linter.unusedSimpArgs false
section
namespace Go.Proofs.YtlofmibkljoapaaDoor.Vm
open Go.RowKit
set_option maxRecDepth 100000
set_option maxHeartbeats 8000000
theorem a60:o9 Tryd.prog (Tryd.f4.body.getD .skip)=true:=L6 (by kernel_rfl)
theorem b3j (t:Ty) (l m:List (Int×Ty)) (ht:Sm t) (hl:l.length<=1048576) (hm:m.length<=1048576) (h:(200<t.parts.length\/10<l.length+m.length)\/d8 t 116=false):m6 4 [.ag (cT t),.one (.sl 5 (rB l)),.one (.sl 5 (rB m))] [.one (.sc (.bool true))]:=by
 have hal:=b4J;have hmg:=b0m t ht.1;have hRt:=a6s t ht.1 ht.2;obtain⟨g0,g1,g2,g3,hgg⟩:=d6 t;rw[hgg] at hmg hRt ⊢;obtain⟨B,hB⟩:∃B,B=rB l:=⟨_,rfl⟩;obtain⟨C,hC⟩:∃C,C=rB m:=⟨_,rfl⟩;rw[<-hB,<-hC]
 have q10:∀qa qb qc qd qe qf qg qh qi qj qk ql qm qo qp qq qs qt qu qv qw qx qy qz va vc vd ve vf vg vh vj vk vl vp vq vr vt vu vv vw vx vy,Ar.mk qa qb qc qd qe qf qg qh qi qj qk ql qm qo qp qq qs qt qu qv qw qx qy qz va vc vd ve vf vg vh vj vk vl vp vq vr vt vu vv vw vx vy=a7->qh 10 (qa .i64 (qb (qy B) (qy C)))=decide (10<l.length+m.length):=λqa qb qc qd qe qf qg qh qi qj qk ql qm qo qp qq qs qt qu qv qw qx qy qz va vc vd ve vf vg vh vj vk vl vp vq vr vt vu vv vw vx vy hA=>by
  obtain⟨e1,e2,e3,e4,e5,e6,e7,-⟩:=j8 hA;obtain⟨r1,-⟩:=n9 hA;rw[e7,r1,r1,hB,hC,a4m,a4m,e2,e1,IntWalk.i64_in _ (by omega)];exact c2Q.2 (by omega)
 by_cases h1:200<t.parts.length
 ·rw[c2J h1] at hmg;refine a2a Tryd.func4 rfl (by kernel_rfl) a60 (by kernel_rfl) λqa qb qc qd qe qf qg qh qi qj qk ql qm qo qp qq qs qt qu qv qw qx qy qz va vc vd ve vf vg vh vj vk vl vp vq vr vt vu vv vw vx vy hA=>?_
  iterate 2 (try cbv;repeat ((first|with_reducible apply b5 hA|refine b9 hA _ hal rfl ?_|refine c5 hA _ hal ?_|refine b9 hA _ hmg rfl ?_|refine c5 hA _ hmg ?_);cbv))
 ·rw[c2G h1] at hmg
  by_cases h2:10<l.length+m.length
  ·rw[c2J h2] at q10;refine a2a Tryd.func4 rfl (by kernel_rfl) a60 (by kernel_rfl) λqa qb qc qd qe qf qg qh qi qj qk ql qm qo qp qq qs qt qu qv qw qx qy qz va vc vd ve vf vg vh vj vk vl vp vq vr vt vu vv vw vx vy hA=>?_
   have h10:=q10 _ _ _ _ _ _ _ _ _ _ _ _ _ _ _ _ _ _ _ _ _ _ _ _ _ _ _ _ _ _ _ _ _ _ _ _ _ _ _ _ _ _ _ hA
   iterate 2 (try cbv;repeat ((first|with_reducible apply b5 hA|rw[h10]|refine b9 hA _ hal rfl ?_|refine c5 hA _ hal ?_|refine b9 hA _ hmg rfl ?_|refine c5 hA _ hmg ?_);cbv))
  ·rw[c2G h2] at q10
   have hr:d8 t 116=false:=by
    rcases h with (h|h)|h
    ·exact absurd h h1
    ·exact absurd h h2
    ·exact h
   rw[hr] at hRt;refine a2a Tryd.func4 rfl (by kernel_rfl) a60 (by kernel_rfl) λqa qb qc qd qe qf qg qh qi qj qk ql qm qo qp qq qs qt qu qv qw qx qy qz va vc vd ve vf vg vh vj vk vl vp vq vr vt vu vv vw vx vy hA=>?_
   have h10:=q10 _ _ _ _ _ _ _ _ _ _ _ _ _ _ _ _ _ _ _ _ _ _ _ _ _ _ _ _ _ _ _ _ _ _ _ _ _ _ _ _ _ _ _ hA
   iterate 2 (try cbv;repeat ((first|with_reducible apply b5 hA|rw[h10]|refine b9 hA _ hal rfl ?_|refine c5 hA _ hal ?_|refine b9 hA _ hmg rfl ?_|refine c5 hA _ hmg ?_|refine b9 hA _ hRt rfl ?_|refine c5 hA _ hRt ?_);cbv))
theorem c0X (t:Ty) (l m:List (Int×Ty)) (ht:Sm t) (hlp:∀p∈l,Sm p.2) (hmp:∀p∈m,Sm p.2) (h1:¬200<t.parts.length) (h2:l.length+m.length<=10) (hr:d8 t 116=true) (h20:∀p∈l++m,p.2.parts.length<=20) :
  ∃x0 x1 x2 x3 b1 b2,m6 14 [.ag (cT t),.one (.sl 5 (rB l))] [.ag [x0,x1,x2,x3]]/\m6 9 [.ag [x0,x1,x2,x3]] [.one (.sc (.bool b1))]/\m6 6 [.ag [x0,x1,x2,x3]] [.one (.sc (.bool b2))] /\
   (b1=true->b2=false->∃y0 y1 y2 y3 c1 c2,m6 14 [.ag [x0,x1,x2,x3],.one (.sl 5 (rB m))] [.ag [y0,y1,y2,y3]]/\m6 9 [.ag [y0,y1,y2,y3]] [.one (.sc (.bool c1))]/\m6 6 [.ag [y0,y1,y2,y3]] [.one (.sc (.bool c2))] /\
    (c1=true->c2=false->m6 12 [.ag (cT t),.ag [x0,x1,x2,x3]] [.one (.sc (.bool true))]/\m6 12 [.ag [x0,x1,x2,x3],.ag [y0,y1,y2,y3]] [.one (.sc (.bool true))]/\m6 12 [.ag (cT t),.ag [y0,y1,y2,y3]] [.one (.sc (.bool true))] /\
     ∃f1 f2 b4,m6 8 [.ag (cT t)] [.one (.sc (.int .u64 f1)),.one (.sc (.int .u8 0))]/\m6 8 [.ag [y0,y1,y2,y3]] [.one (.sc (.int .u64 f2)),.one (.sc (.int .u8 0))]/\m6 12 [.ag [y0,y1,y2,y3],.ag (cT t)] [.one (.sc (.bool b4))]/\(b4=true->f1=f2))):=by
 have go:∀(u:Ty) (k:List (Int×Ty)),k.length<=10->(∀p∈k,Sm p.2)->(∀p∈k,p.2.parts.length<=20)->Sm u->u.parts.length<=200->d8 u 116=true->∃v,v=b6 (l7 k (b6 u))/\Sm v/\m6 14 [.ag (cT u),.one (.sl 5 (rB k))] [.ag (cT v)]:=λu k hk hkp hk20 hu hu2 hru=>by
  have hsh:=(j7 hru).1;have hcs:=y5 _ u 116 (c2A _) hsh;have hps:=Z9 k _ 116 hcs
  have hlen:(l7 k (b6 u)).parts.length<=4000:=by
   have h3:=b7I k 20 (by omega) hk20 (b6 u);rw[B6 _ u (c2A _) (j5 hsh)] at h3;omega
  have hA:=b7J k (by omega) hkp u hu (λ_=>by omega);have e:b0k u k=b6 (l7 k (b6 u)):=by unfold b0k;rw[c2E hru]
  rw[e] at hA;have hcl:=B6 _ (l7 k (b6 u)) (c2A _) (j5 hps);exact⟨_,rfl,b7K (y5 _ _ 116 (c2A _) hps) (by omega),hA⟩
 obtain⟨x,ex,hX,hAx⟩:=go t l (by omega) hlp (λp hp=>h20 p (c33 _ hp)) ht (by omega) hr;obtain⟨x0,x1,x2,x3,hx⟩:=d6 x;refine⟨x0,x1,x2,x3,d8 x 116,decide (200<x.parts.length),hx ▸ hAx,hx ▸ a6s x hX.1 hX.2,hx ▸ b0m x hX.1,λhb1 hb2=>?_⟩;have hx2:x.parts.length<=200:=by have:=c35 hb2;omega
 obtain⟨y,ey,hY,hAy⟩:=go x m (by omega) hmp (λp hp=>h20 p (c3L _ hp)) hX hx2 hb1;obtain⟨y0,y1,y2,y3,hy⟩:=d6 y;refine⟨y0,y1,y2,y3,d8 y 116,decide (200<y.parts.length),by rw[<-hx,<-hy];exact hAy,hy ▸ a6s y hY.1 hY.2,hy ▸ b0m y hY.1,λhc1 hc2=>?_⟩;obtain⟨i1,i2,i3⟩:=b7S l m hr ex hb1 ey hc1;have hI1:=a2j t x ht hX;have hI2:=a2j x y hX hY;have hI3:=a2j t y ht hY;have hI4:=a2j y t hY ht;rw[i1] at hI1;rw[i2] at hI2;rw[i3] at hI3;refine⟨hx ▸ hI1,by rw[<-hx,<-hy];exact hI2,hy ▸ hI3,_,_,(H5 y t).isSome,c1T t ht hr,hy ▸ c1T y hY hc1,hy ▸ hI4,λh4=>?_⟩;rw[b0n hr hc1 i3 h4]
theorem b9x (t:Ty) (l m:List (Int×Ty)) (ht:Sm t) (hlp:∀p∈l,Sm p.2) (hmp:∀p∈m,Sm p.2) (h1:¬200<t.parts.length) (h2:l.length+m.length<=10) (hr:d8 t 116=true):m6 4 [.ag (cT t),.one (.sl 5 (rB l)),.one (.sl 5 (rB m))] [.one (.sc (.bool true))]:=by
 have hal:=b4J;have hmg:=b0m t ht.1;have hRt:=a6s t ht.1 ht.2;rw[hr] at hRt;rw[c2G h1] at hmg;have key:=c0X t l m ht hlp hmp h1 h2 hr
 have hall:∀p∈l++m,Sm p.2:=λp hp=>by
  rcases c2W.1 hp with hp|hp
  ·exact hlp p hp
  ·exact hmp p hp
 have hrA:=c0T l m;have hlA:(rB (l++m)).length=l.length+m.length:=by rw[a4m,c29]
 have hlB:=a4m l;have hlC:=a4m m;have hgetA:=λ(k:Nat) (p:Int×Ty) (h:(l++m)[k]?=some p)=>b0h h
 have hal2:(l++m).length=l.length+m.length:=c29;generalize l++m=a at *;obtain⟨B,hB⟩:∃B,B=rB l:=⟨_,rfl⟩;obtain⟨C,hC⟩:∃C,C=rB m:=⟨_,rfl⟩;obtain⟨AL,hAL⟩:∃AL,AL=rB a:=⟨_,rfl⟩;rw[<-hB,<-hC,<-hAL] at hrA;rw[<-hB] at key hlB ⊢;rw[<-hC] at key hlC ⊢;rw[<-hAL] at hlA;obtain⟨g0,g1,g2,g3,hgg⟩:=d6 t;rw[hgg] at hmg hRt key ⊢;refine a2a Tryd.func4 rfl (by kernel_rfl) a60 (by kernel_rfl) ?_;intro qa qb _ _ _ _ _ qh _ qj _ _ _ _ _ _ _ _ _ _ _ _ qy qz _ vc;intros;rename_i hA;obtain⟨e1,e2,e3,e4,e5,e6,e7,e8,e9⟩:=j8 hA;obtain⟨r1,r2,r3,r4⟩:=n9 hA
 have h10:qh 10 (qa .i64 (qb (qy B) (qy C)))=false:=by
  rw[e7,r1,r1,hlB,hlC,e2,e1,IntWalk.i64_in _ (by omega)];exact c2G (by omega)
 iterate 2 (try cbv;repeat ((first|with_reducible apply b5 hA|rw[h10]|refine b9 hA _ hal rfl ?_|refine c5 hA _ hal ?_|refine b9 hA _ hmg rfl ?_|refine c5 hA _ hmg ?_|refine b9 hA _ hRt rfl ?_|refine c5 hA _ hRt ?_);cbv))
 try simp (maxSteps:=4000000) only [nc] at *
 have hap:vc (vc [] B) C=AL:=by rw[r4,r4,c3t,hrA]
 have hap1:vc [] B=B:=by rw[r4,c3t]
 refine b2z hA true ?_;cbv
 iterate 2 (try cbv;repeat ((first|with_reducible apply b5 hA|(refine K4 hA (by simp only[r4,c29,c2D,c2N];omega) ?_));cbv))
 try simp (maxSteps:=4000000) only [nc] at *
 rw[hap];have hlA2:qy AL=((a.length:Nat):Int):=by rw[r1,hlA,hal2]
 refine l9 hA (γ:=Int) (λz=>[(8,vi .i64 z)]) (λz=>[]) (λz=>∃k:Nat,z=(k:Int)/\k<=a.length/\∀p∈a.take k,p.2.parts.length<=20) (λz=>a.length - z.toNat) 0 ?_ ?_ ?_
 ·exact⟨0,rfl,c3d _,by simp⟩
 ·cbv
 ·intro z hinv;cbv
  repeat ((with_reducible apply b5 hA);cbv)
  try simp (maxSteps:=4000000) only [nc] at *
  obtain⟨k,hz,hk,h20⟩:=hinv;replace hz:z=(k:Int):=hz;have hlt:qh z (qy AL)=decide (k<a.length):=by rw[e7,hlA2,hz];exact c2Q.2 (by omega)
  by_cases h9:k<a.length
  ·rw[c2J h9] at hlt;obtain⟨p,hp⟩:∃p,a[k]?=some p:=⟨_,c28 h9⟩;have hP:=a9L p.2 (hall p (c2F hp)).1;obtain⟨PT,hPT⟩:∃PT,PT=rT p.2.parts:=⟨_,rfl⟩;rw[<-hPT] at hP;have hlen:qy PT=((p.2.parts.length:Nat):Int):=by rw[r1,hPT,E8]
   have htk:a.take (k+1)=a.take k++[p]:=by rw[c4v,hp];rfl
   have hgp:=hgetA k p hp;obtain⟨pn,pt⟩:=p;simp only at hP hlen;obtain⟨c0,c1,c2,c3,hc⟩:=d6 pt;rw[hc] at hP;have gx:qz AL z=some [.sc (.int .i64 pn),c0,c1,c2,c3]:=by rw[r2,hz,c2E (by omega),hAL,show ((k:Int)).toNat=k by omega,hgp,hc]
   have hz1:qa .i64 (qb z 1)=((k+1:Nat):Int):=by rw[e1,e2,hz,IntWalk.i64_in _ (by omega)];omega
   have hmu:a.length - (qa .i64 (qb z 1)).toNat<a.length - z.toNat:=by rw[hz1,hz];omega
   by_cases h21:20<pt.parts.length
   ·have hq:qh 20 (qy PT)=true:=by rw[e7,hlen];exact c2J (by omega)
    rw[hlt]
    iterate 2 (try cbv;repeat ((first|with_reducible apply b5 hA|rw[gx]|rw[hq]|refine b9 hA _ hP rfl ?_|refine c5 hA _ hP ?_);cbv))
   ·have hq:qh 20 (qy PT)=false:=by rw[e7,hlen];exact c2G (by omega)
    rw[hlt]
    iterate 2 (try cbv;repeat ((first|with_reducible apply b5 hA|rw[gx]|rw[hq]|refine b9 hA _ hP rfl ?_|refine c5 hA _ hP ?_);cbv))
    try simp (maxSteps:=4000000) only [nc] at *
    refine⟨qa .i64 (qb z 1),⟨k+1,hz1,h9,λq hq=>?_⟩,hmu,?_⟩
    ·rw[htk] at hq
     rcases c2W.1 hq with hq|hq
     ·exact h20 q hq
     ·simp at hq
      subst hq;show pt.parts.length<=20;omega
    cbv
  ·rw[c2G h9] at hlt;obtain⟨x0,x1,x2,x3,b1,b2,hAp,hRx,hMx,hyes⟩:=key λp hp=>h20 p (by rw[c3r (by omega)];exact hp)
   have q1:qj (qa .i64 (qb (qa .i64 0) (qa .i64 0))) 0=true:=by rw[e9,e1,e1,e2];rfl
   rw[hlt];clear key hgetA hall;cases b1 with
   | false =>
    iterate 2 (try cbv;repeat ((first|with_reducible apply b5 hA|refine b9 hA _ hAp rfl ?_|refine c5 hA _ hAp ?_|refine b9 hA _ hRx rfl ?_|refine c5 hA _ hRx ?_);cbv))
   | true =>
    cases b2 with
    | true =>
     iterate 2 (try cbv;repeat ((first|with_reducible apply b5 hA|refine b9 hA _ hAp rfl ?_|refine c5 hA _ hAp ?_|refine b9 hA _ hRx rfl ?_|refine c5 hA _ hRx ?_|refine b9 hA _ hMx rfl ?_|refine c5 hA _ hMx ?_);cbv))
    | false =>
     obtain⟨y0,y1,y2,y3,c1,c2,hAy,hRy,hMy,hin⟩:=hyes rfl rfl;clear hyes;cases c1 with
     | false =>
      iterate 2 (try cbv;repeat ((first|with_reducible apply b5 hA|refine b9 hA _ hAp rfl ?_|refine c5 hA _ hAp ?_|refine b9 hA _ hRx rfl ?_|refine c5 hA _ hRx ?_|refine b9 hA _ hMx rfl ?_|refine c5 hA _ hMx ?_|refine b9 hA _ hAy rfl ?_|refine c5 hA _ hAy ?_|refine b9 hA _ hRy rfl ?_|refine c5 hA _ hRy ?_);cbv))
     | true =>
      cases c2 with
      | true =>
       iterate 2 (try cbv;repeat ((first|with_reducible apply b5 hA|refine b9 hA _ hAp rfl ?_|refine c5 hA _ hAp ?_|refine b9 hA _ hRx rfl ?_|refine c5 hA _ hRx ?_|refine b9 hA _ hMx rfl ?_|refine c5 hA _ hMx ?_|refine b9 hA _ hAy rfl ?_|refine c5 hA _ hAy ?_|refine b9 hA _ hRy rfl ?_|refine c5 hA _ hRy ?_|refine b9 hA _ hMy rfl ?_|refine c5 hA _ hMy ?_);cbv))
      | false =>
       obtain⟨i1,i2,i3,f1,f2,b4,hF1,hF2,i4,hsame⟩:=hin rfl rfl;clear hin;cases b4 with
       | false =>
        iterate 2 (try cbv;repeat ((first|with_reducible apply b5 hA|rw[q1]|refine b9 hA _ hAp rfl ?_|refine c5 hA _ hAp ?_|refine b9 hA _ hRx rfl ?_|refine c5 hA _ hRx ?_|refine b9 hA _ hMx rfl ?_|refine c5 hA _ hMx ?_|refine b9 hA _ hAy rfl ?_|refine c5 hA _ hAy ?_|refine b9 hA _ hRy rfl ?_|refine c5 hA _ hRy ?_|refine b9 hA _ hMy rfl ?_|refine c5 hA _ hMy ?_|refine b9 hA _ i1 rfl ?_|refine c5 hA _ i1 ?_|refine b9 hA _ i2 rfl ?_|refine c5 hA _ i2 ?_|refine b9 hA _ i3 rfl ?_|refine c5 hA _ i3 ?_|refine b9 hA _ hF1 rfl ?_|refine c5 hA _ hF1 ?_|refine b9 hA _ hF2 rfl ?_|refine c5 hA _ hF2 ?_|refine b9 hA _ i4 rfl ?_|refine c5 hA _ i4 ?_);cbv))
       | true =>
        obtain rfl:=hsame rfl;have q2:qj f1 f1=true:=by rw[e9];exact c4a _
        iterate 2 (try cbv;repeat ((first|with_reducible apply b5 hA|rw[q1]|rw[q2]|refine b9 hA _ hAp rfl ?_|refine c5 hA _ hAp ?_|refine b9 hA _ hRx rfl ?_|refine c5 hA _ hRx ?_|refine b9 hA _ hMx rfl ?_|refine c5 hA _ hMx ?_|refine b9 hA _ hAy rfl ?_|refine c5 hA _ hAy ?_|refine b9 hA _ hRy rfl ?_|refine c5 hA _ hRy ?_|refine b9 hA _ hMy rfl ?_|refine c5 hA _ hMy ?_|refine b9 hA _ i1 rfl ?_|refine c5 hA _ i1 ?_|refine b9 hA _ i2 rfl ?_|refine c5 hA _ i2 ?_|refine b9 hA _ i3 rfl ?_|refine c5 hA _ i3 ?_|refine b9 hA _ hF1 rfl ?_|refine c5 hA _ hF1 ?_|refine b9 hA _ hF2 rfl ?_|refine c5 hA _ hF2 ?_|refine b9 hA _ i4 rfl ?_|refine c5 hA _ i4 ?_);cbv))
theorem c2s (t:Ty) (l m:List (Int×Ty)) (ht:Sm t) (hl:l.length<=1048576) (hm:m.length<=1048576) (hlp:∀p∈l,Sm p.2) (hmp:∀p∈m,Sm p.2):m6 4 [.ag (cT t),.one (.sl 5 (rB l)),.one (.sl 5 (rB m))] [.one (.sc (.bool true))]:=by
 by_cases h1:200<t.parts.length
 ·exact b3j t l m ht hl hm (.inl (.inl h1))
 ·by_cases h2:10<l.length+m.length
  ·exact b3j t l m ht hl hm (.inl (.inr h2))
  ·cases hr:d8 t 116 with
   | true=>exact b9x t l m ht hlp hmp h1 (by omega) hr
   | false=>exact b3j t l m ht hl hm (.inr hr)
set_option maxRecDepth 100000 in
theorem XO_up {r0 r1 r2:R} {m0 m1 m2:Nat} (d0:W9 Tryd.prog 25 r0 m0) (d1:W9 Tryd.prog 37 r1 m1) (d2:W9 Tryd.prog 37 r2 m2) (hm:m0+m1+m2<=1048576):m6 4 [r0,r1,r2] [.one (.sc (.bool true))]:=by
 obtain⟨t,rfl,h1,_,h2⟩:=b9v d0;obtain⟨l,rfl,h3,h4⟩:=a8c d1;obtain⟨m,rfl,h5,h6⟩:=a8c d2;exact c2s t l m ⟨by omega,λx hx=>by have:=h2 x hx;omega⟩ (by omega) (by omega) (λp hp=>by have h7:=h4 p hp;exact⟨by omega,λx hx=>by have:=h7.2 x hx;omega⟩) λp hp=>by have h7:=h6 p hp;exact⟨by omega,λx hx=>by have:=h7.2 x hx;omega⟩
end Go.Proofs.YtlofmibkljoapaaDoor.Vm
end

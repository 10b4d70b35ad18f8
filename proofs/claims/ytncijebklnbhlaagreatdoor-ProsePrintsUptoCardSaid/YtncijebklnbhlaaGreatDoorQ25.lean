/- Part 25 of the proof. Conditions: none. -/
import Derived.Test.YtncijebklnbhlaaGreatDoorQ24
set_option linter.all false
set_option linter.unusedVariables false
set_option linter.unusedSimpArgs false
section
namespace Go.Proofs.YtncijebklnbhlaaGreatDoor.Vm
open Go.RowKit
set_option maxRecDepth 100000
set_option maxHeartbeats 1000000
section
theorem gq {P Q:Prop} (hq:Q) (h:Q->P:=by
  intro hq;refine b8y rfl rfl rfl ?_
  iterate 2 (try cbv;repeat ((first|rw[q0]|rw[q1]|rw[q2]|rw[q3]|rw[q4]|rw[q5]|rw[q6]|rw[q7]|rw[q8]|rw[p0]|rw[p1]|rw[p2]|rw[p3]|refine j3 hA _ k0 rfl ?_|refine j4 hA _ k0 ?_|refine j3 hA _ k1 rfl ?_|refine j4 hA _ k1 ?_|refine j3 hA _ k2 rfl ?_|refine j4 hA _ k2 ?_|refine j3 hA _ k3 rfl ?_|refine j4 hA _ k3 ?_|refine j3 hA _ k4 rfl ?_|refine j4 hA _ k4 ?_|refine j3 hA _ k5 rfl ?_|refine j4 hA _ k5 ?_|refine j3 hA _ k6 rfl ?_|refine j4 hA _ k6 ?_|refine j3 hA _ k7 rfl ?_|refine j4 hA _ k7 ?_|refine j3 hA _ k8 rfl ?_|refine j4 hA _ k8 ?_|refine j3 hA _ k9 rfl ?_|refine j4 hA _ k9 ?_|refine j3 hA _ c0 rfl ?_|refine j4 hA _ c0 ?_|refine j3 hA _ c1 rfl ?_|refine j4 hA _ c1 ?_);cbv))
  with_reducible apply j2 hA
  cbv;refine a3Z hA [0,1,2,4] λF hF=>?_
  cbv;rw[hF]
  exact hq):P:=h hq
theorem eq9 {P:Prop} (h:P:=by
  refine b8y rfl rfl rfl ?_
  iterate 2 (try cbv;repeat ((first|rw[q0]|rw[q1]|rw[q2]|rw[q3]|rw[q4]|rw[q5]|rw[q6]|rw[q7]|rw[q8]|rw[p0]|rw[p1]|rw[p2]|rw[p3]|refine j3 hA _ k0 rfl ?_|refine j4 hA _ k0 ?_|refine j3 hA _ k1 rfl ?_|refine j4 hA _ k1 ?_|refine j3 hA _ k2 rfl ?_|refine j4 hA _ k2 ?_|refine j3 hA _ k3 rfl ?_|refine j4 hA _ k3 ?_|refine j3 hA _ k4 rfl ?_|refine j4 hA _ k4 ?_|refine j3 hA _ k5 rfl ?_|refine j4 hA _ k5 ?_|refine j3 hA _ k6 rfl ?_|refine j4 hA _ k6 ?_|refine j3 hA _ k7 rfl ?_|refine j4 hA _ k7 ?_|refine j3 hA _ k8 rfl ?_|refine j4 hA _ k8 ?_|refine j3 hA _ k9 rfl ?_|refine j4 hA _ k9 ?_|refine j3 hA _ c0 rfl ?_|refine j4 hA _ c0 ?_|refine j3 hA _ c1 rfl ?_|refine j4 hA _ c1 ?_);cbv))
  with_reducible apply j2 hA
  iterate 2 (try cbv;repeat ((first|with_reducible apply j2 hA|rw[q0]|rw[q1]|rw[q2]|rw[q3]|rw[q4]|rw[q5]|rw[q6]|rw[q7]|rw[q8]|rw[p0]|rw[p1]|rw[p2]|rw[p3]|refine j3 hA _ k0 rfl ?_|refine j4 hA _ k0 ?_|refine j3 hA _ k1 rfl ?_|refine j4 hA _ k1 ?_|refine j3 hA _ k2 rfl ?_|refine j4 hA _ k2 ?_|refine j3 hA _ k3 rfl ?_|refine j4 hA _ k3 ?_|refine j3 hA _ k4 rfl ?_|refine j4 hA _ k4 ?_|refine j3 hA _ k5 rfl ?_|refine j4 hA _ k5 ?_|refine j3 hA _ k6 rfl ?_|refine j4 hA _ k6 ?_|refine j3 hA _ k7 rfl ?_|refine j4 hA _ k7 ?_|refine j3 hA _ k8 rfl ?_|refine j4 hA _ k8 ?_|refine j3 hA _ k9 rfl ?_|refine j4 hA _ k9 ?_|refine j3 hA _ c0 rfl ?_|refine j4 hA _ c0 ?_|refine j3 hA _ c1 rfl ?_|refine j4 hA _ c1 ?_);cbv))):P:=h
theorem gq0 {P Q:Prop} (hq:Q) (h:Q->P:=by
  intro hq
  iterate 2 (try cbv;repeat ((first|rw[q0]|rw[q1]|rw[q2]|rw[q3]|rw[q4]|rw[q5]|rw[q6]|rw[q7]|rw[q8]|rw[p0]|rw[p1]|rw[p2]|rw[p3]|refine j3 hA _ k0 rfl ?_|refine j4 hA _ k0 ?_|refine j3 hA _ k1 rfl ?_|refine j4 hA _ k1 ?_|refine j3 hA _ k2 rfl ?_|refine j4 hA _ k2 ?_|refine j3 hA _ k3 rfl ?_|refine j4 hA _ k3 ?_|refine j3 hA _ k4 rfl ?_|refine j4 hA _ k4 ?_|refine j3 hA _ k5 rfl ?_|refine j4 hA _ k5 ?_|refine j3 hA _ k6 rfl ?_|refine j4 hA _ k6 ?_|refine j3 hA _ k7 rfl ?_|refine j4 hA _ k7 ?_|refine j3 hA _ k8 rfl ?_|refine j4 hA _ k8 ?_|refine j3 hA _ k9 rfl ?_|refine j4 hA _ k9 ?_|refine j3 hA _ c0 rfl ?_|refine j4 hA _ c0 ?_|refine j3 hA _ c1 rfl ?_|refine j4 hA _ c1 ?_);cbv))
  with_reducible apply j2 hA
  cbv;refine a3Z hA [0,1,2,4] λF hF=>?_
  cbv;rw[hF]
  exact hq):P:=h hq
theorem eq0 {P:Prop} (h:P:=by
  iterate 2 (try cbv;repeat ((first|with_reducible apply j2 hA|rw[q0]|rw[q1]|rw[q2]|rw[q3]|rw[q4]|rw[q5]|rw[q6]|rw[q7]|rw[q8]|rw[p0]|rw[p1]|rw[p2]|rw[p3]|refine j3 hA _ k0 rfl ?_|refine j4 hA _ k0 ?_|refine j3 hA _ k1 rfl ?_|refine j4 hA _ k1 ?_|refine j3 hA _ k2 rfl ?_|refine j4 hA _ k2 ?_|refine j3 hA _ k3 rfl ?_|refine j4 hA _ k3 ?_|refine j3 hA _ k4 rfl ?_|refine j4 hA _ k4 ?_|refine j3 hA _ k5 rfl ?_|refine j4 hA _ k5 ?_|refine j3 hA _ k6 rfl ?_|refine j4 hA _ k6 ?_|refine j3 hA _ k7 rfl ?_|refine j4 hA _ k7 ?_|refine j3 hA _ k8 rfl ?_|refine j4 hA _ k8 ?_|refine j3 hA _ k9 rfl ?_|refine j4 hA _ k9 ?_|refine j3 hA _ c0 rfl ?_|refine j4 hA _ c0 ?_|refine j3 hA _ c1 rfl ?_|refine j4 hA _ c1 ?_);cbv))):P:=h
def ptB (eo en ea ei eb eT et any wn wa c8 c7 l0 g0 q1 hs z r v:Bool):Bool:=(eo == any) && ((eo || (en == wn && (en || c8))) && ((ea == wa && (ea || c7)) && ((!l0 && (!g0 || (ei || (eb && q1)))) && (if hs=true then (eT || et) && (r && v) else !eT && z))))
section
variable {op n:Int} {nm ar p:ByteArray} {x y z v k:D}
abbrev c1i (op n:Int) (nm ar p:ByteArray) (hs:Bool) (x y z v k:D) (b:Bool):Prop:=j5 14 [.ag [.sc (.int .u8 op),.sc (.string nm),.sc (.string ar),.sc (.int .i64 n),.sc (.bool hs),x,y,z,v,k],.one (.sc (.string p))] [.one (.sc (.bool b))]
theorem b7U {eo en ea ei eb' eT et wn wa hs zb rb vb:Bool} {W:List (List D)} (k0:b1S p 111 eo) (k1:b1S p 110 en) (k2:b1S p 97 ea) (k3:b1S p 105 ei) (k4:b1S p 98 eb') (k5:b1S p 84 eT) (k6:b1S p 116 et) (k7:c1h nm wn) (k8:c1h ar wa) (k9:j5 31 [.ag [x,y,z,v]] [.one (.sc (.bool zb))]) (c0:j5 32 [.ag [x,y,z,v]] [.one (.sc (.bool rb))]) (c1:rb=true->j5 33 [.ag [x,y,z,v]] [.one (.sl 1 W)]) (hvb:vb=((W.length:Int) == 0)) :
  c1i op n nm ar p hs x y z v k (ptB eo en ea ei eb' eT et (a12.any λs=>s.data.toList == nm.data.toList) wn wa (nm.data.toList == []) (ar.data.toList == []) (decide (n<0)) (decide (0<n)) (n == 1) hs zb rb vb):=by
 obtain⟨any,hany⟩:∃b,b=(a12.any λs=>s.data.toList == nm.data.toList):=⟨_,rfl⟩;have e:any=(([43] == nm.data.toList) || (([45] == nm.data.toList) || (([42] == nm.data.toList) || (([47] == nm.data.toList) || (([37] == nm.data.toList) || (([60] == nm.data.toList) || (([61,61] == nm.data.toList) || false))))))):=hany;rw[<-hany];have t0:=a0D nm [43];have t1:=a0D nm [45];have t2:=a0D nm [42];have t3:=a0D nm [47];have t4:=a0D nm [37];have t5:=a0D nm [60];have t6:=a0D nm [61,61];have t7:=a6Y ar;have t8:=a6Y nm;generalize ([43] == nm.data.toList)=b0 at *;generalize ([45] == nm.data.toList)=b1 at *;generalize ([42] == nm.data.toList)=b2 at *;generalize ([47] == nm.data.toList)=b3 at *;generalize ([37] == nm.data.toList)=b4 at *;generalize ([60] == nm.data.toList)=b5 at *;generalize ([61,61] == nm.data.toList)=b6 at *;generalize (ar.data.toList == [])=c7 at *;generalize (nm.data.toList == [])=c8 at *;obtain⟨l0,hl0⟩:∃b,b=decide (n<0):=⟨_,rfl⟩;obtain⟨g0,hg0⟩:∃b,b=decide (0<n):=⟨_,rfl⟩;obtain⟨e1q,he1⟩:∃b,b=(n == 1):=⟨_,rfl⟩;rw[<-hl0,<-hg0,<-he1];clear hany;obtain⟨T,hT⟩:∃T,T=ptB eo en ea ei eb' eT et any wn wa c8 c7 l0 g0 e1q hs zb rb vb:=⟨_,rfl⟩;rw[<-hT];unfold ptB at hT;refine a5q Tryz.func14 rfl (by kernel_rfl) (P7 (by kernel_rfl)) (by kernel_rfl) ?_;intro _ _ _ _ _ _ _ qh _ qj _ ql _ qo _ _ _ _ _ _ _ _ qz;intros;rename_i hA;obtain⟨e1,e2,e3,e4,e5,e6,e7,e8,e9⟩:=l7 hA;obtain⟨s1,s2,s3,s4,s5,s6,-⟩:=o8 hA;obtain⟨r1,r2,r3,r4⟩:=n8 hA;have q0:ql (qo nm) (qo ⟨⟨[43]⟩⟩)=b0:=by rw[s1,s3,s3];exact t0
 have q1:ql (qo nm) (qo ⟨⟨[45]⟩⟩)=b1:=by rw[s1,s3,s3];exact t1
 have q2:ql (qo nm) (qo ⟨⟨[42]⟩⟩)=b2:=by rw[s1,s3,s3];exact t2
 have q3:ql (qo nm) (qo ⟨⟨[47]⟩⟩)=b3:=by rw[s1,s3,s3];exact t3
 have q4:ql (qo nm) (qo ⟨⟨[37]⟩⟩)=b4:=by rw[s1,s3,s3];exact t4
 have q5:ql (qo nm) (qo ⟨⟨[60]⟩⟩)=b5:=by rw[s1,s3,s3];exact t5
 have q6:ql (qo nm) (qo ⟨⟨[61,61]⟩⟩)=b6:=by rw[s1,s3,s3];exact t6
 have q7:ql (qo ar) (qo ⟨⟨[]⟩⟩)=c7:=by rw[s1,s3,s3];exact t7
 have q8:ql (qo nm) (qo ⟨⟨[]⟩⟩)=c8:=by rw[s1,s3,s3];exact t8
 have p0:qh n 0=l0:=by rw[e7,hl0]
 have p1:qh 0 n=g0:=by rw[e7,hg0]
 have p2:qj n 1=e1q:=by rw[e9,he1]
 have p3:qj (qz W) 0=vb:=by rw[e9,r1,hvb]
 clear t0 t1 t2 t3 t4 t5 t6 t7 t8 hl0 hg0 he1 hvb;cbv;refine a3Z hA [0,1,2,4] λF hF=>?_
 cbv;rw[hF];clear hF;have key:(eo == any)=false\/eo=any:=by cases eo <;> cases any <;> simp
 rcases key with h|rfl
 ·have hT:T=false:=by rw[hT,h];rfl
  rw[hT];subst e;cases eo
  ·skip
   cases b0
   ·cases b1
    ·cases b2
     ·cases b3
      ·cases b4
       ·cases b5
        ·cases b6
         ·cases h
         ·exact eq9
        ·exact eq9
       ·exact eq9
      ·exact eq9
     ·exact eq9
    ·exact eq9
   ·exact eq9
  ·skip
   cases b0
   ·cases b1
    ·cases b2
     ·cases b3
      ·cases b4
       ·cases b5
        ·cases b6
         ·exact eq9
         ·cases h
        ·cases h
       ·cases h
      ·cases h
     ·cases h
    ·cases h
   ·cases h
 rw[beq_self_eq_true,Bool.true_and] at hT
 refine jn (by
  intro hq;cases b0
  ·cases b1
   ·cases b2
    ·cases b3
     ·cases b4
      ·cases b5
       ·cases b6
        ·obtain rfl:eo=false:=e;refine gq ?_;exact hq
        ·obtain rfl:eo=true:=e;refine gq ?_;exact hq
       ·obtain rfl:eo=true:=e;refine gq ?_;exact hq
      ·obtain rfl:eo=true:=e;refine gq ?_;exact hq
     ·obtain rfl:eo=true:=e;refine gq ?_;exact hq
    ·obtain rfl:eo=true:=e;refine gq ?_;exact hq
   ·obtain rfl:eo=true:=e;refine gq ?_;exact hq
  ·obtain rfl:eo=true:=e;refine gq ?_
   exact hq) ?_
 clear e q0 q1 q2 q3 q4 q5 q6;obtain⟨x2,hx2⟩:∃b,b=(eo || (en == wn && (en || c8))):=⟨_,rfl⟩;rw[<-hx2] at hT;cases x2
 ·have hT:T=false:=hT;rw[hT];cases eo
  ·cases en
   ·cases wn
    ·cases c8
     ·exact eq9
     ·cases hx2
    ·exact eq9
   ·cases wn
    ·exact eq9
    ·cases hx2
  ·cases hx2
 rw[Bool.true_and] at hT
 refine jn (by
  intro hq;cases eo
  ·cases en
   ·cases wn
    ·cases c8
     ·cases hx2
     ·refine gq ?_;exact hq
    ·cases hx2
   ·cases wn
    ·cases hx2
    ·refine gq ?_;exact hq
  ·refine gq ?_
   exact hq) ?_
 clear hx2 q8;obtain⟨x3,hx3⟩:∃b,b=(ea == wa && (ea || c7)):=⟨_,rfl⟩;rw[<-hx3] at hT;cases x3
 ·have hT:T=false:=hT;rw[hT];cases ea
  ·cases wa
   ·cases c7
    ·exact eq9
    ·cases hx3
   ·exact eq9
  ·cases wa
   ·exact eq9
   ·cases hx3
 rw[Bool.true_and] at hT
 refine jn (by
  intro hq;cases ea
  ·cases wa
   ·cases c7
    ·cases hx3
    ·refine gq ?_;exact hq
   ·cases hx3
  ·cases wa
   ·cases hx3
   ·refine gq ?_
    exact hq) ?_
 clear hx3 q7;obtain⟨x4,hx4⟩:∃b,b=(!l0 && (!g0 || (ei || (eb' && e1q)))):=⟨_,rfl⟩;rw[<-hx4] at hT;cases x4
 ·have hT:T=false:=hT;rw[hT];cases l0
  ·cases g0
   ·cases hx4
   ·cases ei
    ·cases eb'
     ·exact eq0
     ·cases e1q
      ·exact eq0
      ·cases hx4
    ·cases hx4
  ·exact eq0
 rw[Bool.true_and] at hT
 refine jn (by
  intro hq;cases l0
  ·cases g0
   ·refine gq0 ?_;exact hq
   ·cases ei
    ·cases eb'
     ·cases hx4
     ·cases e1q
      ·cases hx4
      ·refine gq0 ?_;exact hq
    ·refine gq0 ?_;exact hq
  ·cases hx4) ?_
 clear hx4 p0 p1 p2;rw[hT];cases hs
 ·rw[if_neg (by decide)];cases eT
  ·exact eq0
  ·exact eq0
 ·rw[if_pos rfl];cases rb
  ·clear c1;cases eT
   ·cases et
    ·exact eq0
    ·exact eq0
   ·exact eq0
  ·replace c1:=c1 rfl;cases eT
   ·cases et
    ·exact eq0
    ·exact eq0
   ·exact eq0
end
end
end Go.Proofs.YtncijebklnbhlaaGreatDoor.Vm
end

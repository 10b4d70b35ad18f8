/- Part 5 of the proof. Conditions: none. -/
import Derived.Test.YtdjnoafijjepcaaGreatT4
import Derived.Test.YtdjnoafijjepcaaGreatT0
set_option linter.all false
set_option linter.unusedVariables false
set_option linter.unusedSimpArgs false
section
namespace Go.Proofs.YtdjnoafijjepcaaGreat.Vm
open Go.RowKit
set_option maxRecDepth 100000
set_option maxHeartbeats 4000000
theorem b1S:∀l:List Int,a4o (Z4 l)=some (l.map λn=>UInt8.ofNat n.toNat)
 | []=>rfl
 | c::l=>by
  show (match b3G [D.sc (.int .u8 c)] with|some x=>(match a4o (Z4 l) with|some t=>some (x::t)|none=>none)|none=>none)=_;rw[b1S l];rfl
theorem b6o (l:List Int):a4R (Z4 l)=some (strOfNums l):=by unfold a4R;rw[b1S];rfl
theorem c5z {c:Int} {c0 c1:Bool} (m0:decide (65<=c)=c0) (m1:decide (c<=90)=c1):b1N 69 .u8 c (.sc (.bool (c0 && c1))):=by
 cases c0 <;> cases c1 <;> exact wk2 Tryz.func69 rfl
theorem c8C {c:Int} {c0 c1 c2 c3:Bool} (h0:b1N 68 .u8 c (.sc (.bool c0))) (h1:b1N 69 .u8 c (.sc (.bool c1))) (h2:b1N 70 .u8 c (.sc (.bool c2))) (b0:(c == 95)=c3):b1N 45 .u8 c (.sc (.bool (c0 || (c1 || (c2 || c3))))):=by
 cases c0 <;> cases c1 <;> cases c2 <;> cases c3 <;> exact wk2 Tryz.func45 rfl
theorem c2u (c:Int):b1N 45 .u8 c (.sc (.bool (H2 c))):=c8C (b7S c) (c5z rfl rfl) (a8N c) rfl
theorem c8D {a b:Int} (ha:0<=a/\a<=255) (hb:0<=b/\b<=255) (x y:UInt8):((strOfNums [a,b]).toList == (⟨⟨[x,y]⟩⟩:ByteArray).toList)=((a == (x.toNat:Int)) && (b == (y.toNat:Int))):=by
 rw[ByteArray.toList_eq ⟨⟨[x,y]⟩⟩];exact c5y ha hb x y
theorem c50 {l:List Int} (hb:Byt l) (h1:1<=l.length) (hl:l.length<=1048576):o8 47 [.one (.sl 1 (Z4 l))] [.one (.sc (.string (strOfNums (l.take (C4 l)))))]:=by
 have n0:((Z4 l).length:Int)=(l.length:Int):=by rw[a0Y]
 have g0:j5.get (Z4 l) 0=some [.sc (.int .u8 (gb l 0))]:=a3R (l:=l) (k:=0) (by omega)
 have y1:j5.sub2 (Z4 l) 0 1=some (Z4 [gb l 0]):=by
  have:=a3S (l:=l) (a:=0) (b:=1) (by omega) h1;rw[d5b,Nat.sub_zero,c79 h1] at this;exact this
 have y2:2<=l.length->j5.sub2 (Z4 l) 0 2=some (Z4 [gb l 0,gb l 1]):=λh=>by
  have:=a3S (l:=l) (a:=0) (b:=2) (by omega) h;rw[d5b,Nat.sub_zero,c7A h] at this;exact this
 have x1:=b6o [gb l 0];have x2:=b6o [gb l 0,gb l 1];have d:=c8D (Z8 hb 0) (Z8 hb 1);have hT2:=λh h'=>c2r (l:=l) h h'
 have hT1:=λh h'=>c2s (l:=l) h1 h h'
 have hT0:=λh h'=>b95 (l:=l) h h'
 unfold a81 at hT2 hT1 hT0;generalize strOfNums (l.take (C4 l))=T at *;generalize strOfNums [gb l 0]=S1 at *;generalize strOfNums [gb l 0,gb l 1]=S2 at *;generalize Z4 [gb l 0]=R1 at *;generalize Z4 [gb l 0,gb l 1]=R2 at *;generalize Z4 l=R at *;have d1:=d 61 61;have d2:=d 61 62;have d3:=d 58 61;have d4:=d 45 62;clear d;obtain⟨b1,hb1⟩:∃b,b=(gb l 0 == 61 && gb l 1 == 61):=⟨_,rfl⟩;obtain⟨b2,hb2⟩:∃b,b=(gb l 0 == 61 && gb l 1 == 62):=⟨_,rfl⟩;obtain⟨b3,hb3⟩:∃b,b=(gb l 0 == 58 && gb l 1 == 61):=⟨_,rfl⟩;obtain⟨b4,hb4⟩:∃b,b=(gb l 0 == 45 && gb l 1 == 62):=⟨_,rfl⟩;replace d1:=d1.trans hb1.symm;replace d2:=d2.trans hb2.symm;replace d3:=d3.trans hb3.symm;replace d4:=d4.trans hb4.symm;rw[<-hb1,<-hb2,<-hb3,<-hb4] at hT2 hT1 hT0;clear hb1 hb2 hb3 hb4;generalize gb l 0=c at *;obtain⟨N,hN⟩:∃N,N=(l.length:Int):=⟨_,rfl⟩;rw[<-hN] at n0;refine Q5 Tryz.func47 rfl ?_;intro _ _ _ _ _ _ _ qi _ qk _ qm _ qp _ _ _ _ _ qx;intros;rename_i hA;obtain⟨e1,e2,e3,e4,e5,e6,e7,e8,e9⟩:=m6 hA;obtain⟨s1,s2,s3,s4,s5,s6,-⟩:=G1 hA;obtain⟨f1,-⟩:=b79 hA;have q0:=en hA n0;have q1:=eg hA g0;have q2:=esb hA y1;have q3:qx R1=some S1:=(f1 _).trans x1;have q6:qx R2=some S2:=(f1 _).trans x2;have r1:qm (qp S2) (qp ⟨⟨[61,61]⟩⟩)=b1:=by rw[s1,s3,s3];exact d1
 have r2:qm (qp S2) (qp ⟨⟨[61,62]⟩⟩)=b2:=by rw[s1,s3,s3];exact d2
 have r3:qm (qp S2) (qp ⟨⟨[58,61]⟩⟩)=b3:=by rw[s1,s3,s3];exact d3
 have r4:qm (qp S2) (qp ⟨⟨[45,62]⟩⟩)=b4:=by rw[s1,s3,s3];exact d4
 clear d1 d2 d3 d4 x1 x2 y1 n0 g0
 have key:(qi 1 N=false/\¬(2<=l.length/\(b1 || (b2 || (b3 || b4)))=true))\/(qi 1 N=true/\2<=l.length):=by
  by_cases h:2<=l.length
  ·exact .inr ⟨el hA (d3S (by omega)),h⟩
  ·exact .inl ⟨el hA (d3P (by omega)),λh'=>h h'.1⟩
 rcases key with⟨t0,hn⟩|⟨t0,h2⟩
 case' inl =>
  iterate 2 (try cbv;repeat ((first|with_reducible apply j6 hA|rw[q0]|rw[t0]|rw[q1]);cbv))
 case' inr =>
  have q5:=esb hA (y2 h2);cases b1
  case true =>
   rw[hT2 h2 rfl]
   iterate 2 (try cbv;repeat ((first|with_reducible apply j6 hA|rw[q0]|rw[t0]|rw[q5]|rw[q6]|rw[r1]);cbv))
  cases b2
  case true =>
   rw[hT2 h2 rfl]
   iterate 2 (try cbv;repeat ((first|with_reducible apply j6 hA|rw[q0]|rw[t0]|rw[q5]|rw[q6]|rw[r1]|rw[r2]);cbv))
  cases b3
  case true =>
   rw[hT2 h2 rfl]
   iterate 2 (try cbv;repeat ((first|with_reducible apply j6 hA|rw[q0]|rw[t0]|rw[q5]|rw[q6]|rw[r1]|rw[r2]|rw[r3]);cbv))
  cases b4
  case true =>
   rw[hT2 h2 rfl]
   iterate 2 (try cbv;repeat ((first|with_reducible apply j6 hA|rw[q0]|rw[t0]|rw[q5]|rw[q6]|rw[r1]|rw[r2]|rw[r3]|rw[r4]);cbv))
  have hn:¬(2<=l.length/\(false || (false || (false || false)))=true):=λh=>by cases h.2
  iterate 2 (try cbv;repeat ((first|with_reducible apply j6 hA|rw[q0]|rw[t0]|rw[q5]|rw[q6]|rw[r1]|rw[r2]|rw[r3]|rw[r4]|rw[q1]);cbv))
 all_goals
  by_cases hm:c∈a6G
  ·rw[hT1 hn hm];clear q1 hT1 hT2 hT0
   rcases (c2t c).1 hm with rfl|rfl|rfl|rfl|rfl|rfl|rfl|rfl|rfl|rfl|rfl|rfl|rfl|rfl|rfl|rfl|rfl|rfl|rfl|rfl|rfl
   all_goals
    iterate 2 (try cbv;repeat ((first|with_reducible apply j6 hA|rw[e9]|rw[q2]|rw[q3]);cbv))
  ·rw[hT0 hn hm]
   have hq:∀k,qk c k=(!(a6G.contains k) && (c == k)):=λk=>by
    rw[e9]
    by_cases h:c=k
    ·have:a6G.contains k=false:=by rw[<-h];simpa using hm
     rw[this];rfl
    ·rw[d3T h,d5a]
   iterate 2 (try cbv;repeat ((first|with_reducible apply j6 hA|rw[hq]);cbv))
end Go.Proofs.YtdjnoafijjepcaaGreat.Vm
end

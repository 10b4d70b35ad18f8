/- Part 20 of the proof. Conditions: none. -/
import Derived.Test.YtdjnoafijjepcaaGreatT4
import Derived.Test.YtdjnoafijjepcaaGreatT17
import Derived.Test.YtdjnoafijjepcaaGreatT19
import Derived.Test.YtdjnoafijjepcaaGreatT0
set_option linter.all false
set_option linter.unusedVariables false
set_option linter.unusedSimpArgs false
section
namespace Go.Proofs.YtdjnoafijjepcaaGreat.Vm
open Go.RowKit
set_option maxRecDepth 100000
set_option maxHeartbeats 4000000
section
theorem c9N (t:Ty):o8 41 [.ag (cT t)] [.one (.sc (.bool (a0A t)))]:=by
 obtain⟨op,nm,n,ks⟩:=t;obtain⟨c1,h1⟩:∃c,c=(nm.data.toList == []):=⟨_,rfl⟩;obtain⟨c0,h0⟩:∃c,c=(op == 0):=⟨_,rfl⟩;obtain⟨c2,h2⟩:∃c,c=(n == 0):=⟨_,rfl⟩;have h3:((rT ks).length:Int)=(ks.length:Int):=by rw[M4]
 have h4:ks.isEmpty=((ks.length:Int) == 0):=by
  cases ks with
  | nil=>rfl
  | cons k ks=>exact(d3T (show ((k::ks).length:Int)≠0 by rw[d3O];omega)).symm
 rw[a0A,<-h0,<-h1,<-h2,h4,cT];obtain⟨c3,h5⟩:∃c,c=((ks.length:Int) == 0):=⟨_,rfl⟩;rw[<-h5];obtain⟨m,hm⟩:∃m:Int,m=(ks.length:Int):=⟨_,rfl⟩;rw[<-hm] at h3 h5;generalize rT ks=K at *;clear h4 hm;refine Q5 Tryz.func41 rfl ?_;intro _ _ _ _ _ _ _ _ _ _ _ qm _ qp;intros;rename_i hA;obtain⟨s1,s2,s3,s4,s5,s6,-⟩:=G1 hA;have q0:=eb hA h0.symm;have q1:qm (qp nm) (qp ⟨⟨[]⟩⟩)=c1:=by rw[s1,s3,s3,h1];exact a7X nm
 have q2:=eb hA h2.symm;have q3:=en hA h3;have q4:=eb hA h5.symm;cases c0
 ·try cbv;exact fr
 cases c1
 ·try cbv;exact fr
 cases c2
 ·try cbv;exact fr
 ·try cbv;exact fr
abbrev b1m (p:ByteArray) (c:Int) (b:Bool):Prop:=o8 39 [.one (.sc (.string p)),.one (.sc (.int .u8 c))] [.one (.sc (.bool b))]
abbrev c9O (s:ByteArray) (b:Bool):Prop:=o8 40 [.one (.sc (.string s))] [.one (.sc (.bool b))]
abbrev d3k (x y z v:D):Prop:=o8 42 [.ag [x,y,z,v]] [.one (.sc (.bool true))]/\o8 43 [.ag [x,y,z,v]] [.one (.sl 1 [])]
abbrev d1Z (op n:Int) (nm ar p:ByteArray) (hs:Bool) (x y z v k:D):Prop:=o8 19 [.ag [.sc (.int .u8 op),.sc (.string nm),.sc (.string ar),.sc (.int .i64 n),.sc (.bool hs),x,y,z,v,k],.one (.sc (.string p))] [.one (.sc (.bool true))]
section
variable {op n:Int} {nm ar p:ByteArray} {x y z v k:D}
theorem c6L (k0:b1m p 111 true) (k2:b1m p 97 false) (k5:b1m p 84 false) (hn0:n=0) (k7:c9O ar false) (har:(ar.data.toList == [])=true) (hnm:(a5s.any λs=>s.data.toList == nm.data.toList)=true) (k9:o8 41 [.ag [x,y,z,v]] [.one (.sc (.bool true))]):d1Z op n nm ar p false x y z v k:=by
 have e:(a5s.any λx=>x.data.toList == nm.data.toList)=(([43] == nm.data.toList) || (([45] == nm.data.toList) || (([42] == nm.data.toList) || (([47] == nm.data.toList) || (([37] == nm.data.toList) || (([60] == nm.data.toList) || (([61,61] == nm.data.toList) || false))))))):=rfl;rw[e] at hnm;subst hn0;have t0:=a06 nm [43];have t1:=a06 nm [45];have t2:=a06 nm [42];have t3:=a06 nm [47];have t4:=a06 nm [37];have t5:=a06 nm [60];have t6:=a06 nm [61,61];have t7:=a7X ar;rw[har] at t7;generalize ([43] == nm.data.toList)=c0 at *;generalize ([45] == nm.data.toList)=c1 at *;generalize ([42] == nm.data.toList)=c2 at *;generalize ([47] == nm.data.toList)=c3 at *;generalize ([37] == nm.data.toList)=c4 at *;generalize ([60] == nm.data.toList)=c5 at *;generalize ([61,61] == nm.data.toList)=c6 at *;clear e har;refine a6A Tryz.func19 rfl (by kernel_rfl) (Z7 (by kernel_rfl)) (by kernel_rfl) ?_;intro _ _ _ _ _ _ _ qi _ _ _ qm _ qp;intros;rename_i hA;obtain⟨e1,e2,e3,e4,e5,e6,e7,e8,e9⟩:=m6 hA;obtain⟨s1,s2,s3,s4,s5,s6,-⟩:=G1 hA;have q0:qm (qp nm) (qp ⟨⟨[43]⟩⟩)=c0:=by rw[s1,s3,s3];exact t0
 have q1:qm (qp nm) (qp ⟨⟨[45]⟩⟩)=c1:=by rw[s1,s3,s3];exact t1
 have q2:qm (qp nm) (qp ⟨⟨[42]⟩⟩)=c2:=by rw[s1,s3,s3];exact t2
 have q3:qm (qp nm) (qp ⟨⟨[47]⟩⟩)=c3:=by rw[s1,s3,s3];exact t3
 have q4:qm (qp nm) (qp ⟨⟨[37]⟩⟩)=c4:=by rw[s1,s3,s3];exact t4
 have q5:qm (qp nm) (qp ⟨⟨[60]⟩⟩)=c5:=by rw[s1,s3,s3];exact t5
 have q6:qm (qp nm) (qp ⟨⟨[61,61]⟩⟩)=c6:=by rw[s1,s3,s3];exact t6
 have q7:qm (qp ar) (qp ⟨⟨[]⟩⟩)=true:=by rw[s1,s3,s3];exact t7
 have q8:qi 0 0=false:=by rw[e7];rfl
 clear t0 t1 t2 t3 t4 t5 t6 t7;cases c0
 ·cases c1
  ·cases c2
   ·cases c3
    ·cases c4
     ·cases c5
      ·cases c6
       ·cases hnm
       ·exact frq
      ·exact frq
     ·exact frq
    ·exact frq
   ·exact frq
  ·exact frq
 ·exact frq
theorem c6M {en ea ei eb' eT et hs:Bool} (k0:b1m p 111 false) (k1:b1m p 110 en) (k2:b1m p 97 ea) (k3:b1m p 105 ei) (k4:b1m p 98 eb') (k5:b1m p 84 eT) (k6:b1m p 116 et) (hnm:(a5s.any λs=>s.data.toList == nm.data.toList)=false) (k7:c9O nm en) (k8:c9O ar ea)
  (h1:en=false->(nm.data.toList == [])=true) (h2:ea=false->(ar.data.toList == [])=true) (h3:n=0\/(0<n/\ei=true)\/(n=1/\ei=false/\eb'=true)) (hz:hs=false->eT=false/\o8 41 [.ag [x,y,z,v]] [.one (.sc (.bool true))]) (hy:hs=true->(eT=true\/et=true)/\d3k x y z v)
  (key:(n=0/\hs=false)\/(en=false/\ea=false/\hs=false)\/(n=0/\hs=true)):d1Z op n nm ar p hs x y z v k:=by
 have e:(a5s.any λx=>x.data.toList == nm.data.toList)=(([43] == nm.data.toList) || (([45] == nm.data.toList) || (([42] == nm.data.toList) || (([47] == nm.data.toList) || (([37] == nm.data.toList) || (([60] == nm.data.toList) || (([61,61] == nm.data.toList) || false))))))):=rfl;rw[e] at hnm;simp only[d5G] at hnm;obtain⟨n0,n1,n2,n3,n4,n5,n6,-⟩:=hnm;have t0:=(a06 nm [43]).trans n0;have t1:=(a06 nm [45]).trans n1;have t2:=(a06 nm [42]).trans n2;have t3:=(a06 nm [47]).trans n3;have t4:=(a06 nm [37]).trans n4;have t5:=(a06 nm [60]).trans n5;have t6:=(a06 nm [61,61]).trans n6;have t7:=a7X ar;have t8:=a7X nm;clear e n0 n1 n2 n3 n4 n5 n6;generalize (ar.data.toList == [])=c7 at *;generalize (nm.data.toList == [])=c8 at *;obtain⟨w0,hw0⟩:∃c,c=decide (0<n):=⟨_,rfl⟩;obtain⟨w1,hw1⟩:∃c,c=(n == 1):=⟨_,rfl⟩;have hn0:decide (n<0)=false:=d3P (by omega)
 have h3':(w0=false\/(w0=true/\ei=true)\/(w0=true/\w1=true/\ei=false/\eb'=true))/\(n=0->w0=false):=by
  refine⟨?_,λh=>by rw[hw0,h];rfl⟩
  rcases h3 with h|⟨h,h'⟩|⟨h,h',h''⟩
  ·left;rw[hw0,h];rfl
  ·right;left;exact⟨by rw[hw0];exact d3S h,h'⟩
  ·right;right;exact⟨by rw[hw0,h];rfl,by rw[hw1,h];rfl,h',h''⟩
 obtain⟨h3',hk⟩:=h3';clear h3;refine a6A Tryz.func19 rfl (by kernel_rfl) (Z7 (by kernel_rfl)) (by kernel_rfl) ?_;intro _ _ _ _ _ _ _ qi _ qk _ qm _ qp _ _ _ _ _ _ _ _ va;intros;rename_i hA;obtain⟨e1,e2,e3,e4,e5,e6,e7,e8,e9⟩:=m6 hA;obtain⟨s1,s2,s3,s4,s5,s6,-⟩:=G1 hA;obtain⟨r1,r2,r3,r4⟩:=B3 hA;have q0:qm (qp nm) (qp ⟨⟨[43]⟩⟩)=false:=by rw[s1,s3,s3];exact t0
 have q1:qm (qp nm) (qp ⟨⟨[45]⟩⟩)=false:=by rw[s1,s3,s3];exact t1
 have q2:qm (qp nm) (qp ⟨⟨[42]⟩⟩)=false:=by rw[s1,s3,s3];exact t2
 have q3:qm (qp nm) (qp ⟨⟨[47]⟩⟩)=false:=by rw[s1,s3,s3];exact t3
 have q4:qm (qp nm) (qp ⟨⟨[37]⟩⟩)=false:=by rw[s1,s3,s3];exact t4
 have q5:qm (qp nm) (qp ⟨⟨[60]⟩⟩)=false:=by rw[s1,s3,s3];exact t5
 have q6:qm (qp nm) (qp ⟨⟨[61,61]⟩⟩)=false:=by rw[s1,s3,s3];exact t6
 have q7:qm (qp ar) (qp ⟨⟨[]⟩⟩)=c7:=by rw[s1,s3,s3];exact t7
 have q8:qm (qp nm) (qp ⟨⟨[]⟩⟩)=c8:=by rw[s1,s3,s3];exact t8
 have p0:qi n 0=false:=by rw[e7];exact hn0
 have p1:qi 0 n=w0:=by rw[e7,hw0]
 have p2:qk n 1=w1:=by rw[e9,hw1]
 have p3:qk (va []) 0=true:=by rw[e9,r1];rfl
 clear t0 t1 t2 t3 t4 t5 t6 t7 t8 hw0 hw1 hn0
 have hend:(hs=false/\eT=false)\/(hs=true/\eT=true)\/(hs=true/\eT=false/\et=true):=by
  cases hs
  ·exact .inl ⟨rfl,(hz rfl).1⟩
  ·cases eT
   ·exact .inr (.inr ⟨rfl,rfl,(hy rfl).1.resolve_left (by decide)⟩)
   ·exact .inr (.inl ⟨rfl,rfl⟩)
 rcases key with⟨k1,rfl⟩|⟨rfl,rfl,rfl⟩|⟨k1,rfl⟩
 ·obtain rfl:=(hz rfl).1;have k9:=(hz rfl).2;obtain rfl:=hk k1;clear hy hend h3' hk k1;cases en
  ·obtain rfl:=h1 rfl;cases ea
   ·obtain rfl:=h2 rfl;exact frq
   ·exact frq
  ·cases ea
   ·obtain rfl:=h2 rfl;exact frq
   ·exact frq
 ·obtain rfl:=(hz rfl).1;have k9:=(hz rfl).2;clear hy hend hk;obtain rfl:=h1 rfl;obtain rfl:=h2 rfl
  rcases h3' with rfl|⟨rfl,rfl⟩|⟨rfl,rfl,rfl,rfl⟩
  ·exact frq
  ·exact frq
  ·exact frq
 ·obtain⟨c0,c1⟩:=(hy rfl).2;obtain rfl:=hk k1;clear hy hz h3' hk k1;cases en
  ·obtain rfl:=h1 rfl;cases ea
   ·obtain rfl:=h2 rfl
    rcases hend with⟨h,_⟩|⟨_,rfl⟩|⟨_,rfl,rfl⟩
    ·cases h
    ·exact frq
    ·exact frq
   ·rcases hend with⟨h,_⟩|⟨_,rfl⟩|⟨_,rfl,rfl⟩
    ·cases h
    ·exact frq
    ·exact frq
  ·cases ea
   ·obtain rfl:=h2 rfl
    rcases hend with⟨h,_⟩|⟨_,rfl⟩|⟨_,rfl,rfl⟩
    ·cases h
    ·exact frq
    ·exact frq
   ·rcases hend with⟨h,_⟩|⟨_,rfl⟩|⟨_,rfl,rfl⟩
    ·cases h
    ·exact frq
    ·exact frq
end
end
end Go.Proofs.YtdjnoafijjepcaaGreat.Vm
end

/- Part 6 of the proof. Conditions: none. -/
import Derived.Test.YtdjnoafijjepcaaGreatT1
import Derived.Test.YtdjnoafijjepcaaGreatT4
import Derived.Test.YtdjnoafijjepcaaGreatT5
import Derived.IntWalk
import Derived.Test.YtdjnoafijjepcaaGreatT0
set_option linter.all false
set_option linter.unusedVariables false
set_option linter.unusedSimpArgs false
section
namespace Go.Proofs.YtdjnoafijjepcaaGreat
open Go.RowKit
set_option maxRecDepth 100000
set_option maxHeartbeats 4000000
theorem c51 {l:List Int} {a:Nat} {out:List Tok} (hb:Byt l) (h:a<l.length) (hc:gb l a=10):n8 l a true out=n8 l a false out:=by
 have hn:=a01 hb h (by omega);rw[a49 h (by omega),a3U h (by omega) ((a35 _).2 (by omega)),hn,hc];rfl
theorem b1f {l:List Int} {a:Nat} {out:List Tok} (hb:Byt l) (h:a<l.length) (hc:gb l a=35):n8 l a false out=n8 l a true out:=by
 have hn:=a01 hb h (by omega);rw[a49 h (by omega),a7E h (by omega) hc,hn,hc];rfl
theorem b2Y {l:List Int} {a:Nat} (h:a<l.length):a+C4 (l.drop a)<=l.length:=by
 have:=b7R (l.drop a) (by rw[d4l];omega);rw[d4l] at this;omega
theorem b2Z (l:List Int):(strOfNums l).size=l.length:=by
 simp[strOfNums,ByteArray.size]
theorem b3a (p:Int->Bool):∀(n:Nat) (m:List Int),n<=m.length->(∀i,i<n->p (gb m i)=true)->(n=m.length\/p (gb m n)=false)->m.takeWhile p=m.take n:=by
 intro n
 induction n with
 | zero =>
  intro m _ _ h;cases m with
  | nil=>rfl
  | cons x xs =>
   rcases h with h|h
   ·simp at h
   ·have:p x=false:=by simpa [gb] using h
    simp[this]
 | succ n ih =>
  intro m hn hp h;cases m with
  | nil=>simp at hn
  | cons x xs =>
   have:p x=true:=by simpa [gb] using hp 0 (by omega)
   rw[d5u,this,List.take_succ_cons];simp only[d5R];rw[ih xs (by simpa using hn) (λi hi=>by simpa [gb] using hp (i+1) (by omega)) (h.imp (λh=>by simpa using h) (λh=>by simpa [gb] using h))]
theorem c2v {l:List Int} {a k:Nat} (hak:a<=k) (hk:k<=l.length) (h:∀i,a<=i->i<k->H2 (gb l i)=true) (he:k=l.length\/H2 (gb l k)=false):G9 l a=(l.drop a).take (k - a)/\(G9 l a).length=k - a:=by
 have e:G9 l a=(l.drop a).take (k - a):=by
  unfold G9;refine b3a H2 (k - a) (l.drop a) (by rw[d4l];omega) (λi hi=>?_) ?_
  ·rw[a07];exact h _ (by omega) (by omega)
  ·rw[a07,d4l]
   rcases he with he|he
   ·exact .inl (by omega)
   ·right;rw[<-he];congr 2;omega
 refine⟨e,?_⟩;rw[e,d4n,d4l];omega
theorem b0e {c:Int} (h:H2 c=true):J9 c=false/\c≠35/\c<128:=by
 unfold H2 a0Z a48 I4 at h
 simp at h
 rw[b0d];omega
theorem c8E {l:List Int} {a k:Nat} {S:ByteArray} {rc:Int} {t:Tok} (hb:Byt l) (ha:a<l.length) (hr:H2 (gb l a)=true) (hS:S=strOfNums (G9 l a)) (hlen:(G9 l a).length=k - a) (hak:a<k) (hrc:rc=(L8 S a).2)
  (h0:rc=0) (ht:t=(L8 S a).1) (out:List Tok):n8 l a false out=n8 l k false (out++[t]):=by
 obtain⟨h1,h2,h3⟩:=b0e hr;rw[a6H ha (by rw[a01 hb ha h3];omega) h1 h2 hr,<-hS,<-hrc,d3I h0,<-ht,hlen,show a+(k - a)=k by omega]
theorem c52 {l:List Int} {a:Nat} {S:ByteArray} {rc:Int} (hb:Byt l) (ha:a<l.length) (hr:H2 (gb l a)=true) (hS:S=strOfNums (G9 l a)) (hrc:rc=(L8 S a).2)
  (h0:rc≠0) (out:List Tok):n8 l a false out=([],(a:Int),rc):=by
 obtain⟨h1,h2,h3⟩:=b0e hr;rw[a6H ha (by rw[a01 hb ha h3];omega) h1 h2 hr,<-hS,<-hrc,d3G h0]
theorem b6p (c:Int):J9 c=true\/(J9 c=false/\c=35)\/(J9 c=false/\c≠35/\H2 c=true)\/(J9 c=false/\c≠35/\H2 c=false):=by
 cases J9 c <;> cases H2 c <;> by_cases h:c=35 <;> simp[h]
end Go.Proofs.YtdjnoafijjepcaaGreat
end
section
namespace Go.Proofs.YtdjnoafijjepcaaGreat.Vm
open Go.RowKit
set_option maxRecDepth 100000
set_option maxHeartbeats 4000000
def scB (R:List (List D)) (z:Int):List O:=[.box [.d (.sl 1 R),vi .i64 z]]
def c8F (l:List Int) (a:Nat) (res:List V) (os:List O):Prop :=
 ∃(k:Nat) (ok:Bool),res=[vb ok]/\os=scB (Z4 l) (k:Int)/\a<=k/\k<=l.length/\(ok=true->(k=l.length\/gb l k=10)/\∀out,n8 l a true out=n8 l k false out)/\(ok=false->∀out,n8 l a true out=([],(k:Int),3))
theorem c2w {l:List Int} (hb:Byt l) {a:Nat} (ha:a<=l.length) (hl:l.length<=65536):y7 44 [.ptr 0 0] (scB (Z4 l) (a:Int)) (c8F l a):=by
 have hget:=λk (h:k<l.length)=>a3R (l:=l) (k:=k) h
 have hn0:((Z4 l).length:Int)=(l.length:Int):=by rw[a0Y]
 have hN:=λk (h:k<l.length)=>d0Z hb (a:=k) h (by omega)
 obtain⟨Q,hQ⟩:∃Q,Q=c8F l a:=⟨_,rfl⟩;rw[<-hQ]
 have hend:∀k ok,a<=k->k<=l.length->(ok=true->(k=l.length\/gb l k=10)/\∀out,n8 l a true out=n8 l k false out)->(ok=false->∀out,n8 l a true out=([],(k:Int),3))->Q [vb ok] (scB (Z4 l) (k:Int)):=λk ok h1 h2 h3 h4=>by
  rw[hQ];exact⟨k,ok,rfl,rfl,h1,h2,h3,h4⟩
 unfold scB at *;generalize Z4 l=R at *;obtain⟨N,hNN⟩:∃N,N=(l.length:Int):=⟨_,rfl⟩;rw[<-hNN] at hn0;obtain⟨A,hAA⟩:∃A,A=(a:Int):=⟨_,rfl⟩;rw[<-hAA];obtain⟨inv,hi⟩:∃inv:Int->Prop,inv=λz=>∃k:Nat,z=(k:Int)/\a<=k/\k<=l.length/\∀out,n8 l a true out=n8 l k true out:=⟨_,rfl⟩
 have hi0:inv A:=by rw[hi];exact⟨a,hAA,d3Q _,ha,λ_=>rfl⟩
 refine so9 Tryz.func44 rfl ?_;intro qa qb _ _ _ _ _ qi _ qk;intros;rename_i hA;have q0:=en hA hn0
 try cbv;refine gr ?_;try simp only[nc] at *
 refine n9 hA (γ:=Int) (λz=>[(29,.jk),(38,.jk)]) (λz=>[(0,.box [.d (.sl 1 R),vi .i64 z])]) inv (λz=>l.length - z.toNat) A hi0 ?_ ?_
 ·cbv
 ·intro z hinv;cbv;refine gn ?_;try simp only[nc] at *
  rw[hi] at hinv;obtain⟨k,hz,hak,hk,hE⟩:=hinv;replace hz:z=(k:Int):=hz
  by_cases h9:k<l.length
  ·have p0:qi z N=true:=el hA (d3S (by omega));have g0:=eg hA (hget k h9);have c0:=hN k h9;rw[<-hz] at g0 c0;have hfin:=hend k;rw[<-hz] at hfin;have hs1:=λout h=>c51 (out:=out) hb h9 h
   have hs2:=λout h=>b0c (rem:=true) (out:=out) h9 h
   have hs3:=λout h=>a49 (out:=out) h9 h
   have hbd:=λh=>c2g (l:=l) (a:=k) h
   by_cases h10:gb l k=10
   ·have p1:qk 10 10=true:=eb hA rfl;rw[h10] at g0;have hF:=hfin true hak hk (λ_=>⟨.inr h10,λout=>(hE out).trans (hs1 out h10)⟩) (λh=>by cases h)
    try cbv;refine gr ?_;try simp only[nc] at *
    exact n7 hA [0] ⟨rfl,rfl,rfl,rfl,rfl,rfl,rfl,rfl⟩ hF
   ·have p1:qk (gb l k) 10=false:=eb hA (d3T h10)
    by_cases h0:nx l k=0
    ·have hF:=hfin false hak hk (λh=>by cases h) (λ_ out=>(hE out).trans (by rw[hs2 out h0,hz]));rw[d3I h0,d3I h0] at c0;generalize gb l k=c at *;generalize ((nx l k:Nat):Int)=n at *;have p2:qk 3 0=false:=eb hA rfl
     try cbv;refine gr ?_;try simp only[nc] at *
     exact n7 hA [0] ⟨rfl,rfl,rfl,rfl,rfl,rfl,rfl,rfl⟩ hF
    ·rw[d3G h0,d3G h0] at c0;have hb2:=hbd h0;have hb3:=hb2.2.2 h9;have hE2:∀out,n8 l a true out=n8 l (k+nx l k) true out:=λout=>(hE out).trans (by rw[hs3 out h0,show (gb l k != 10)=true from bne_iff_ne.2 h10])
     generalize gb l k=c at *;generalize rn l k=r at *;have hi2:inv ((k+nx l k:Nat):Int):=by rw[hi];exact⟨_,rfl,by omega,hb3,hE2⟩
     have p3:qa .i64 (qb z ((nx l k:Nat):Int))=((k+nx l k:Nat):Int):=ew hA (by rw[IntWalk.i64_in _ (by omega)];omega);have hm:l.length - ((k+nx l k:Nat):Int).toNat<l.length - z.toNat:=by omega
     generalize ((k+nx l k:Nat):Int)=z1 at *;generalize ((nx l k:Nat):Int)=n at *;have p2:qk 0 0=true:=eb hA rfl
     try cbv;refine gr ?_;try simp only[nc] at *
     refine⟨z1,hi2,hm,?_⟩;cbv
  ·have p0:qi z N=false:=el hA (d3P (by omega));have hF:=hend k true hak hk (λ_=>⟨.inl (by omega),λout=>(hE out).trans (by rw[a34 (by omega),a34 (by omega)])⟩) (λh=>by cases h);rw[<-hz] at hF
   try cbv;refine gr ?_;try simp only[nc] at *
   exact n7 hA [0] ⟨rfl,rfl,rfl,rfl,rfl,rfl,rfl,rfl⟩ hF
def c8G (l:List Int) (a:Nat) (res:List V) (os:List O):Prop :=
 ∃(k:Nat) (ok:Bool),res=[vb ok]/\os=scB (Z4 l) (k:Int)/\a<=k/\k<=l.length/\(ok=true->(k<l.length->J9 (gb l k)=false/\gb l k≠35)/\∀out,n8 l a false out=n8 l k false out)/\(ok=false->∀out,n8 l a false out=([],(k:Int),3))
theorem c2x {l:List Int} (hb:Byt l) {a:Nat} (ha:a<=l.length) (hl:l.length<=65536):y7 21 [.ptr 0 0] (scB (Z4 l) (a:Int)) (c8G l a):=by
 have hget:=λk (h:k<l.length)=>a3R (l:=l) (k:=k) h
 have hn0:((Z4 l).length:Int)=(l.length:Int):=by rw[a0Y]
 have hR:=λk (h:k<=l.length)=>c2w hb (a:=k) h hl
 unfold c8F at hR;obtain⟨Q,hQ⟩:∃Q,Q=c8G l a:=⟨_,rfl⟩;rw[<-hQ]
 have hend:∀k ok,a<=k->k<=l.length->(ok=true->(k<l.length->J9 (gb l k)=false/\gb l k≠35)/\∀out,n8 l a false out=n8 l k false out)->(ok=false->∀out,n8 l a false out=([],(k:Int),3))->Q [vb ok] (scB (Z4 l) (k:Int)):=λk ok h1 h2 h3 h4=>by
  rw[hQ];exact⟨k,ok,rfl,rfl,h1,h2,h3,h4⟩
 unfold scB at *;generalize Z4 l=R at *;obtain⟨N,hNN⟩:∃N,N=(l.length:Int):=⟨_,rfl⟩;rw[<-hNN] at hn0;obtain⟨A,hAA⟩:∃A,A=(a:Int):=⟨_,rfl⟩;rw[<-hAA];obtain⟨inv,hi⟩:∃inv:Int->Prop,inv=λz=>∃k:Nat,z=(k:Int)/\a<=k/\k<=l.length/\∀out,n8 l a false out=n8 l k false out:=⟨_,rfl⟩
 have hi0:inv A:=by rw[hi];exact⟨a,hAA,d3Q _,ha,λ_=>rfl⟩
 refine so9 Tryz.func21 rfl ?_;intro qa qb _ _ _ _ _ qi _ qk;intros;rename_i hA;have q0:=en hA hn0
 try cbv;refine gr ?_;try simp only[nc] at *
 refine n9 hA (γ:=Int) (λz=>[]) (λz=>[(0,.box [.d (.sl 1 R),vi .i64 z])]) inv (λz=>l.length - z.toNat) A hi0 ?_ ?_
 ·cbv
 ·intro z hinv;cbv;refine gn ?_;try simp only[nc] at *
  rw[hi] at hinv;obtain⟨k,hz,hak,hk,hE⟩:=hinv;replace hz:z=(k:Int):=hz
  by_cases h9:k<l.length
  ·have p0:qi z N=true:=el hA (d3S (by omega));have g0:=eg hA (hget k h9);rw[<-hz] at g0;have hc0:=Z8 hb k;have hs1:=λout h=>a3U (out:=out) h9 (by rw[a01 hb h9 (by have:=(a35 _).1 h;omega)];decide) h
   have hs2:=λout h=>b1f (out:=out) hb h9 h
   by_cases hbl:J9 (gb l k)=true
   ·have hE2:∀out,n8 l a false out=n8 l (k+1) false out:=λout=>(hE out).trans (hs1 out hbl)
    have hi2:inv ((k+1:Nat):Int):=by rw[hi];exact⟨_,rfl,by omega,h9,hE2⟩
    have p3:qa .i64 (qb z 1)=((k+1:Nat):Int):=ew hA (by rw[IntWalk.i64_in _ (by omega)];omega);have hm:l.length - ((k+1:Nat):Int).toNat<l.length - z.toNat:=by omega
    have hq:=(a35 _).1 hbl;obtain⟨e1,e2,e3,e4,e5,e6,e7,e8,e9⟩:=m6 hA;clear hs1 hs2 hbl;generalize ((k+1:Nat):Int)=z1 at *;generalize gb l k=c at *
    rcases hq with rfl|rfl|rfl|rfl
    all_goals
     iterate 2 (try cbv;repeat ((first|with_reducible apply j6 hA|rw[q0]|rw[p0]|rw[g0]|rw[e9]|rw[p3]);cbv))
     try simp (maxSteps:=4000000) only [nc] at *
     refine⟨z1,hi2,hm,?_⟩;cbv
   ·have hbl':J9 (gb l k)=false:=by simpa using hbl
    have hq:=(b0d _).1 hbl';have f0:qk (gb l k) 32=false:=eb hA (d3T (by omega));have f1:qk (gb l k) 9=false:=eb hA (d3T (by omega));have f2:qk (gb l k) 13=false:=eb hA (d3T (by omega));have f3:qk (gb l k) 10=false:=eb hA (d3T (by omega))
    by_cases h35:gb l k=35
    ·have hr:=hR k hk;have f4:qk 35 35=true:=eb hA rfl;rw[<-hz] at hr;have hE2:∀out,n8 l a false out=n8 l k true out:=λout=>(hE out).trans (hs2 out h35)
     rw[h35] at g0 f0 f1 f2 f3
     iterate 2 (try cbv;repeat ((first|with_reducible apply j6 hA|rw[q0]|rw[p0]|rw[g0]|rw[f0]|rw[f1]|rw[f2]|rw[f3]|rw[f4]);cbv))
     try simp (maxSteps:=4000000) only [nc] at *
     refine A1 hA [0] hr ⟨rfl,rfl,rfl,rfl,rfl,rfl,rfl⟩ ?_
     rintro _ _ ⟨j,ok,rfl,rfl,h1,h2,h3,h4⟩
     have hfin:=hend j;have hiv:(∀out,n8 l a false out=n8 l j false out)->inv (j:Int):=λh=>by rw[hi];exact⟨j,rfl,by omega,h2,h⟩
     have hlt:ok=true->k<j:=λh=>by
      have:=(h3 h).1
      rcases d4F k j with h'|h'
      ·exact h'
      ·have e:j=k:=by omega
       rw[e] at this;omega
     have hjj:l.length - ((j:Nat):Int).toNat=l.length - j:=by omega
     have hzz:l.length - z.toNat=l.length - k:=by omega
     generalize ((j:Nat):Int)=y at *;cases ok
     ·have hF:=hfin false (by omega) h2 (λh=>by cases h) (λ_ out=>(hE2 out).trans (h4 rfl out))
      try cbv;refine gr ?_;try simp only[nc] at *
      exact n7 hA [0] ⟨rfl,rfl,rfl,rfl,rfl,rfl,rfl,rfl⟩ hF
     ·have hi2:=hiv λout=>(hE2 out).trans ((h3 rfl).2 out)
      have hm:l.length - y.toNat<l.length - z.toNat:=by have:=hlt rfl;omega
      try cbv;refine gr ?_;try simp only[nc] at *
      refine⟨y,hi2,hm,?_⟩;cbv
    ·have f4:qk (gb l k) 35=false:=eb hA (d3T h35);have hF:=hend k true hak hk (λ_=>⟨λ_=>⟨hbl',h35⟩,hE⟩) (λh=>by cases h);rw[<-hz] at hF;clear hs1 hs2 hbl hbl' hq h35;generalize gb l k=c at *
     iterate 2 (try cbv;repeat ((first|with_reducible apply j6 hA|rw[q0]|rw[p0]|rw[g0]|rw[f0]|rw[f1]|rw[f2]|rw[f3]|rw[f4]);cbv))
     try simp (maxSteps:=4000000) only [nc] at *
     exact n7 hA [0] ⟨rfl,rfl,rfl,rfl,rfl,rfl,rfl,rfl⟩ hF
  ·have p0:qi z N=false:=el hA (d3P (by omega));have hF:=hend k true hak hk (λ_=>⟨λh=>absurd h h9,hE⟩) (λh=>by cases h);rw[<-hz] at hF
   try cbv;refine gr ?_;try simp only[nc] at *
   exact n7 hA [0] ⟨rfl,rfl,rfl,rfl,rfl,rfl,rfl,rfl⟩ hF
def tkV (t:Tok):List V:=[vi .u8 t.kind,vs t.text,vi .i64 t.n,vi .i64 t.at_]
def c8H (l:List Int) (a:Nat) (res:List V) (os:List O):Prop :=
 ∃(t:Tok) (c:Int) (k:Nat),res=[.ag (tkV t),vi .u8 c]/\os=scB (Z4 l) (k:Int)/\k<=l.length/\(c=0->a<k/\∀out,n8 l a false out=n8 l k false (out++[t]))/\(c≠0->∀out,n8 l a false out=([],(k:Int),c))
theorem c8I {T:ByteArray} (h:T.size≠0):(T.toList == [])=false:=by
 refine d3T λe=>h ?_
 rw[ByteArray.toList_eq] at e;rw[<-d54,<-d4K,e];rfl
theorem c53 {l:List Int} (hb:Byt l) {a:Nat} (ha:a<l.length) (hl:l.length<=65536) (hbl:J9 (gb l a)=false) (h35:gb l a≠35):y7 22 [.ptr 0 0] (scB (Z4 l) (a:Int)) (c8H l a):=by
 have hget:=λk (h:k<l.length)=>a3R (l:=l) (k:=k) h
 have n0:((Z4 l).length:Int)=(l.length:Int):=by rw[a0Y]
 have hlb:∀d:List Int,((Z4 d).length:Int)=(d.length:Int):=λd=>by rw[a0Y]
 have g0:=hget a ha;have c0:=c2u (gb l a);obtain⟨Q,hQ⟩:∃Q,Q=c8H l a:=⟨_,rfl⟩;rw[<-hQ]
 have hend:∀(kd n at_ c:Int) (tx:ByteArray) (k:Nat),k<=l.length->(c=0->a<k/\∀out,n8 l a false out=n8 l k false (out++[⟨kd,tx,n,at_⟩]))->(c≠0->∀out,n8 l a false out=([],(k:Int),c))->Q [.ag [vi .u8 kd,vs tx,vi .i64 n,vi .i64 at_],vi .u8 c] (scB (Z4 l) (k:Int)):=λkd n at_ c tx k h1 h2 h3=>by
  rw[hQ];exact⟨⟨kd,tx,n,at_⟩,c,k,rfl,rfl,h1,h2,h3⟩
 have y0:j5.sub2 (Z4 l) (a:Int) (l.length:Int)=some (Z4 (l.drop a)):=by
  rw[a3S (d5K ha) (d3Q _),d4z (by rw[d4l];omega)]
 have yk:=λk (h:a<=k) (h2:k<=l.length)=>a3S (l:=l) (a:=a) (b:=k) h h2
 have c1:=c50 (a32 hb a) (by rw[d4l];omega) (by rw[d4l];omega);have c2:=d0Z hb (a:=a) ha (by omega);unfold scB at *;obtain⟨N,hN⟩:∃N,N=(l.length:Int):=⟨_,rfl⟩;rw[<-hN] at n0 y0;obtain⟨A,hAA⟩:∃A,A=(a:Int):=⟨_,rfl⟩;have hendA:=λkd n at_ c tx=>hend kd n at_ c tx a
 rw[<-hAA] at g0 y0 hendA c2 yk ⊢;cases hr:H2 (gb l a)
 ·rw[hr] at c0;have hs2:=λout=>a8l (out:=out) ha
  have hs3:=λout=>b0c (rem:=false) (out:=out) ha
  have hs4:=λout=>a7F (out:=out) ha
  by_cases hs:C4 (l.drop a)=0
  ·rw[hs,show strOfNums ((l.drop a).take 0)=⟨⟨[]⟩⟩ from rfl] at c1;have hF:=λc (h:c≠0) hE=>hendA 0 0 0 c ⟨⟨[]⟩⟩ (d5K ha) (λh'=>absurd h' h) (λ_=>hE)
   by_cases h0:nx l a=0
   ·rw[d3I h0,d3I h0] at c2;replace hF:=hF 3 (by decide) λout=>by rw[hs3 out h0,hAA]
    generalize ((nx l a:Nat):Int)=n1 at *;generalize Z4 (l.drop a)=R2 at *;generalize Z4 l=R at *;generalize gb l a=c at *;refine so9 Tryz.func22 rfl λqa qb qc qd qe qg qh qi qj qk ql qm qo qp qq qt qu qv qw qx qy qz va vc vd ve vf vg vh vj vk vl vm vn vo vq vr vt vu vv vw vx vy hA=>?_
    obtain⟨s1,s2,s3,s4,s5,s6,-⟩:=G1 hA;have q0:=en hA n0;have q1:=eg hA g0;have q2:=esb hA y0;have q3:qm (qp ⟨⟨[]⟩⟩) (qp ⟨⟨[]⟩⟩)=true:=by rw[s1];exact d4G _
    have q4:qk 3 0=false:=eb hA rfl
    try cbv;refine gr ?_;try simp only[nc] at *
    exact n7 hA [0] ⟨rfl,rfl,rfl,rfl,rfl,rfl,rfl,rfl⟩ hF
   ·rw[d3G h0,d3G h0] at c2;replace hF:=hF 4 (by decide) λout=>by rw[hs2 out h0 hbl h35 hr hs,hAA]
    generalize ((nx l a:Nat):Int)=n1 at *;generalize rn l a=r1 at *;generalize Z4 (l.drop a)=R2 at *;generalize Z4 l=R at *;generalize gb l a=c at *;refine so9 Tryz.func22 rfl λqa qb qc qd qe qg qh qi qj qk ql qm qo qp qq qt qu qv qw qx qy qz va vc vd ve vf vg vh vj vk vl vm vn vo vq vr vt vu vv vw vx vy hA=>?_
    obtain⟨s1,s2,s3,s4,s5,s6,-⟩:=G1 hA;have q0:=en hA n0;have q1:=eg hA g0;have q2:=esb hA y0;have q3:qm (qp ⟨⟨[]⟩⟩) (qp ⟨⟨[]⟩⟩)=true:=by rw[s1];exact d4G _
    have q4:qk 0 0=true:=eb hA rfl
    try cbv;refine gr ?_;try simp only[nc] at *
    exact n7 hA [0] ⟨rfl,rfl,rfl,rfl,rfl,rfl,rfl,rfl⟩ hF
  ·have hsl:=b2Y ha
   have hsz:(strOfNums ((l.drop a).take (C4 (l.drop a)))).size=C4 (l.drop a):=by
    rw[b2Z,d4n,d4l];omega
   have hn0:nx l a≠0:=by
    have hd:gb l a<128:=by
     unfold C4 at hs
     split at hs
     ·rename_i h;have:=h.2;rw[a07] at this
      simp[a81] at this
      omega
     ·split at hs
      ·rename_i h;have:=b90 h;rw[a07] at this
       simp at this
       omega
      ·exact absurd rfl hs
    rw[a01 hb ha hd];omega
   have hE:=λout=>hs4 out hn0 hbl h35 hr hs
   have x0:=c8I (T:=strOfNums ((l.drop a).take (C4 (l.drop a)))) (by rw[hsz];exact hs);have hF:=hend 3 0 A 0 (strOfNums ((l.drop a).take (C4 (l.drop a)))) (a+C4 (l.drop a)) hsl (λ_=>⟨by omega,λout=>by rw[hE out,hAA]⟩) (λh=>absurd rfl h);obtain⟨n1,hn1⟩:∃n1,n1=((C4 (l.drop a):Nat):Int):=⟨_,rfl⟩;obtain⟨z1,hz1⟩:∃z1,z1=((a+C4 (l.drop a):Nat):Int):=⟨_,rfl⟩;have w0:IntKind.i64.wrap (A+n1)=z1:=by rw[IntWalk.i64_in _ (by omega)];omega
   have hsz2:((strOfNums ((l.drop a).take (C4 (l.drop a)))).size:Int)=n1:=by rw[hsz];exact hn1.symm
   rw[<-hz1] at hF;clear hE hs2 hs3 hs4 hsz;generalize strOfNums ((l.drop a).take (C4 (l.drop a)))=T at *;generalize Z4 (l.drop a)=R2 at *;generalize Z4 l=R at *;generalize gb l a=c at *;refine so9 Tryz.func22 rfl λqa qb qc qd qe qg qh qi qj qk ql qm qo qp qq qt qu qv qw qx qy qz va vc vd ve vf vg vh vj vk vl vm vn vo vq vr vt vu vv vw vx vy hA=>?_
   obtain⟨s1,s2,s3,s4,s5,s6,-⟩:=G1 hA;have q0:=en hA n0;have q1:=eg hA g0;have q2:=esb hA y0;have q3:qm (qp T) (qp ⟨⟨[]⟩⟩)=false:=by rw[s1,s3,s3,ByteArray.toList_eq ⟨⟨[]⟩⟩];exact x0
   have q4:qu T=n1:=by rw[s5];exact hsz2
   have q5:=ew hA w0
   try cbv;refine gr ?_;try simp only[nc] at *
   exact n7 hA [0] ⟨rfl,rfl,rfl,rfl,rfl,rfl,rfl,rfl⟩ hF
 ·rw[hr] at c0;have hrs:=λk=>c2u (gb l k)
  have hru:=λk=>c2v (l:=l) (a:=a) (k:=k)
  have htx:=λk (h:a<=k) (h2:k<=l.length)=>b6o ((l.drop a).take (k - a))
  have hlen:∀k,k<=l.length->((l.drop a).take (k - a)).length=k - a:=λk h=>by rw[d4n,d4l];omega
  have hrun:=λk (h:a<k) (h2:k<=l.length)=>d1a (strOfNums ((l.drop a).take (k - a))) A (by rw[b2Z,hlen k h2];omega) (by rw[b2Z,hlen k h2];omega)
  have hok:=λk (h:a<k) S (hS:S=strOfNums (G9 l a)) hl=>c8E (rc:=(L8 S (a:Int)).2) (t:=(L8 S (a:Int)).1) hb ha hr hS (k:=k) hl h rfl
  have hbad:=λS (hS:S=strOfNums (G9 l a))=>c52 (rc:=(L8 S (a:Int)).2) hb ha hr hS rfl
  unfold c2q at hrun;clear yk hlb c1 c2 y0;have yk:=λk (h:a<=k) (h2:k<=l.length)=>a3S (l:=l) (a:=a) (b:=k) h h2
  rw[<-hAA] at yk hok hbad;generalize Z4 l=R at *;obtain⟨inv,hi⟩:∃inv:Int->Prop,inv=λz=>∃k:Nat,z=(k:Int)/\a<=k/\k<=l.length/\∀i,a<=i->i<k->H2 (gb l i)=true:=⟨_,rfl⟩
  have hi0:inv A:=by rw[hi];exact⟨a,hAA,d3Q _,d5K ha,λi h1 h2=>by omega⟩
  obtain⟨ca,hca⟩:∃ca,ca=gb l a:=⟨_,rfl⟩;rw[<-hca] at g0 c0;refine so9 Tryz.func22 rfl λqa qb qc qd qe qg qh qi qj qk ql qm qo qp qq qt qu qv qw qx qy qz va vc vd ve vf vg vh vj vk vl vm vn vo vq vr vt vu vv vw vx vy hA=>?_
  obtain⟨s1,s2,s3,s4,s5,s6,-⟩:=G1 hA;obtain⟨f1,-⟩:=b79 hA;have q0:=en hA n0;have q1:=eg hA g0
  try cbv;refine gr ?_;try simp only[nc] at *
  refine n9 hA (γ:=Int) (λz=>[(44,.jk)]) (λz=>[(0,.box [.d (.sl 1 R),vi .i64 z])]) inv (λz=>l.length - z.toNat) A hi0 ?_ ?_
  ·cbv
  ·intro z hinv;cbv;refine gn ?_;try simp only[nc] at *
   rw[hi] at hinv;obtain⟨k,hz,hak,hk,hE⟩:=hinv;replace hz:z=(k:Int):=hz
   have key:(k<l.length/\H2 (gb l k)=true)\/(k=l.length/\qi z N=false)\/(k<l.length/\qi z N=true/\H2 (gb l k)=false):=by
    by_cases h9:k<l.length
    ·have p0:qi z N=true:=el hA (d3S (by omega));cases h:H2 (gb l k)
     ·exact .inr (.inr ⟨h9,p0,rfl⟩)
     ·exact .inl ⟨h9,rfl⟩
    ·exact .inr (.inl ⟨by omega,el hA (d3P (by omega))⟩)
   rcases key with⟨h9,h⟩|⟨h9,p0⟩|⟨h9,p0,h⟩
   ·have p0:qi z N=true:=el hA (d3S (by omega));have g1:=eg hA (hget k h9);rw[<-hz] at g1;have c1:=hrs k;rw[h] at c1
    have hi2:inv ((k+1:Nat):Int):=by
     rw[hi];refine⟨_,rfl,by omega,h9,λi h1 h2=>?_⟩
     by_cases e:i=k
     ·rw[e];exact h
     ·exact hE i h1 (by omega)
    have p3:qa .i64 (qb z 1)=((k+1:Nat):Int):=ew hA (by rw[IntWalk.i64_in _ (by omega)];omega);have hm:l.length - ((k+1:Nat):Int).toNat<l.length - z.toNat:=by omega
    generalize ((k+1:Nat):Int)=z1 at *;generalize gb l k=c at *
    try cbv;refine gr ?_;try simp only[nc] at *
    refine⟨z1,hi2,hm,?_⟩;cbv
   case' inr.inl =>
    obtain⟨hE1,hE2⟩:=hru k hak hk hE (.inl h9);have hlt:a<k:=by omega
    iterate 2 (try cbv;repeat ((first|with_reducible apply j6 hA|rw[q0]|rw[p0]);cbv))
   case' inr.inr =>
    obtain⟨hE1,hE2⟩:=hru k hak hk hE (.inr h)
    have hlt:a<k:=by
     by_cases e:k=a
     ·rw[e,hr] at h;cases h
     ·omega
    have g1:=eg hA (hget k h9);rw[<-hz] at g1;have c1:=hrs k;rw[h] at c1;generalize gb l k=c at *
    iterate 2 (try cbv;repeat ((first|with_reducible apply j6 hA|rw[q0]|rw[p0]|rw[g1]|refine j8 hA _ c1 rfl ?_|refine l9 hA _ c1 ?_);cbv))
   all_goals
    have y1:=yk k hak hk;have x1:=htx k hak hk;have d0:=hrun k hlt hk;have e0:=hok k hlt _ rfl hE2;have e1:=hbad _ rfl;rw[<-hE1] at y1 x1 d0;rw[<-hz] at y1;have hF:=λkd n at_ c tx=>hend kd n at_ c tx k hk
    rw[<-hz] at hF;generalize strOfNums (G9 l a)=S at *;generalize Z4 (G9 l a)=R1 at *;have q2:=esb hA y1;have q3:qx R1=some S:=(f1 _).trans x1;generalize L8 S A=rs at *;obtain⟨⟨kd,tx,n,at_⟩,rc⟩:=rs
    refine c84 hA (n:=19) rfl [0,1,2,4,5,6,7,10,11] (by kernel_rfl) _ (by
     intro K hk
     iterate 2 (all_goals try cbv;repeat' (first|(with_reducible apply j6 hA;exact hk)|((first|with_reducible apply j6 hA|rw[q2]|rw[q3]|refine j8 hA _ d0 rfl ?_|refine l9 hA _ d0 ?_);cbv)|with_reducible apply And.intro))) ?_
    cbv
    by_cases h0:rc=0
    ·have q5:qk rc 0=true:=eb hA (by rw[h0];rfl);have hG:=hF kd n at_ rc tx (λ_=>⟨hlt,e0 h0 trivial⟩) (λh=>absurd h0 h)
     try cbv;refine gr ?_;try simp only[nc] at *
     exact n7 hA [0] ⟨rfl,rfl,rfl,rfl,rfl,rfl,rfl,rfl⟩ hG
    ·have q5:qk rc 0=false:=eb hA (d3T h0);have hG:=hendA kd n at_ rc tx (d5K ha) (λh=>absurd h h0) (λ_=>e1 h0)
     try cbv;refine gr ?_;try simp only[nc] at *
     exact n7 hA [0] ⟨rfl,rfl,rfl,rfl,rfl,rfl,rfl,rfl⟩ hG
def rTo (ts:List Tok):List (List D):=ts.map c2q
theorem b7U (ts:List Tok):(rTo ts).length=ts.length:=by unfold rTo;rw[d4g]
theorem b7V (ts:List Tok) (t:Tok):rTo (ts++[t])=rTo ts++[c2q t]:=by unfold rTo;rw[d45];rfl
theorem c8J {l:List Int} (hb:Byt l) (hl:l.length<=65536):o8 10 [.one (.sl 1 (Z4 l))] [.one (.sl 4 (rTo (n8 l 0 false []).1)),.one (.sc (.int .i64 (n8 l 0 false []).2.1)),.one (.sc (.int .u8 (n8 l 0 false []).2.2))]:=by
 have n0:((Z4 l).length:Int)=(l.length:Int):=by rw[a0Y]
 have hB:=λk (h:k<=l.length)=>c2x hb (a:=k) h hl
 have hT:=λk (h:k<l.length)=>c53 hb (a:=k) h hl
 unfold c8G scB at hB;unfold c8H scB tkV at hT;generalize Z4 l=R at *;obtain⟨N,hN⟩:∃N,N=(l.length:Int):=⟨_,rfl⟩;rw[<-hN] at n0;obtain⟨X,P,C,hX⟩:∃X P C,∀r,n8 l 0 false []=r->X=rTo r.1/\P=r.2.1/\C=r.2.2:=⟨_,_,_,λr h=>by rw[<-h];exact⟨rfl,rfl,rfl⟩⟩;obtain⟨h1,h2,h3⟩:=hX _ rfl;rw[<-h1,<-h2,<-h3];clear h1 h2 h3;obtain⟨inv,hi⟩:∃inv:Int×List (List D)->Prop,inv=λx=>∃(k:Nat) (ts:List Tok),x.1=(k:Int)/\x.2=rTo ts/\k<=l.length/\ts.length<=k/\n8 l 0 false []=n8 l k false ts:=⟨_,rfl⟩
 have hi0:inv (0,[]):=by rw[hi];exact⟨0,[],rfl,rfl,d4o _,d3Q _,rfl⟩
 obtain⟨mu,hmu⟩:∃mu:Int×List (List D)->Nat,mu=λx=>l.length - x.1.toNat:=⟨_,rfl⟩
 refine Q5 Tryz.func10 rfl ?_;intro _ _ _ _ _ _ _ qi _ qk _ _ _ _ _ _ _ _ _ _ _ _ _ _ _ ve;intros;rename_i hA;obtain⟨r1,r2,r3,r4⟩:=B3 hA;have q0:=en hA n0;have q1:qi 65536 N=false:=el hA (d3P (by omega))
 iterate 2 (try cbv;repeat ((first|refine b6e hA 2 4 [] rfl rfl ?_|refine a3b hA 6 52 true rfl ?_|with_reducible apply j6 hA|rw[q0]|rw[q1]|refine a3c hA true ?_);cbv))
 try simp (maxSteps:=4000000) only [nc] at *
 refine n9 hA (γ:=Int×List (List D)) (λx=>[(6,.own 1),(7,.jk),(14,.jk),(29,.jk),(30,.jk)]) (λx=>[(0,.box [.d (.sl 1 R),vi .i64 x.1]),(1,.row true 52 x.2)]) inv mu (0,[]) hi0 ?_ ?_
 ·cbv
 ·intro x hinv;obtain⟨z,L⟩:=x;cbv;refine gn ?_;try simp only[nc] at *
  rw[hi] at hinv;obtain⟨k,ts,hz,hL,hk,htl,hE⟩:=hinv;replace hz:z=(k:Int):=hz;replace hL:L=rTo ts:=hL;have b0:=hB k hk;rw[<-hz] at b0;refine A1 hA [0] b0 ⟨rfl,rfl,rfl,rfl,rfl,rfl,rfl⟩ ?_
  rintro _ _ ⟨j,ok,rfl,rfl,h1,h2,h3,h4⟩
  have hv:=λp (h:∀out,n8 l k false out=([],p,3))=>hX _ (hE.trans (h ts))
  cases ok
  ·obtain⟨rfl,rfl,rfl⟩:=hv _ (h4 rfl)
   iterate 2 (try cbv;repeat ((first|refine b6e hA 2 4 [] rfl rfl ?_|with_reducible apply j6 hA);cbv))
  ·obtain⟨h5,h6⟩:=h3 rfl;have hE2:=hE.trans (h6 ts);clear hv h3 h4 h6 hE
   by_cases h9:j<l.length
   ·have p0:qk ((j:Nat):Int) N=false:=eb hA (d3T (by omega));have t0:=hT j h9 (h5 h9).1 (h5 h9).2;have hjz:z<=(j:Int):=by omega
    have hmz:mu (z,L)=l.length - z.toNat:=by rw[hmu]
    have hmj:l.length - z.toNat=l.length - k:=by omega
    clear h5;obtain⟨y,hy⟩:∃y,y=((j:Nat):Int):=⟨_,rfl⟩;rw[<-hy] at p0 t0 ⊢
    try cbv;refine gr ?_;try simp only[nc] at *
    refine A1 hA [0] t0 ⟨rfl,rfl,rfl,rfl,rfl,rfl,rfl⟩ ?_
    rintro _ _ ⟨⟨kd,tx,n,at_⟩,c,i,rfl,rfl,g1,g2,g3⟩
    by_cases hc:c=0
    ·obtain⟨g4,g5⟩:=g2 hc;have p1:qk c 0=true:=eb hA (by rw[hc];rfl)
     have hi2:inv (((i:Nat):Int),L++[[.sc (.int .u8 kd),.sc (.string tx),.sc (.int .i64 n),.sc (.int .i64 at_)]]):=by
      rw[hi];exact⟨i,ts++[⟨kd,tx,n,at_⟩],rfl,by rw[b7V,hL];rfl,g1,by rw[d3K];simp;omega,hE2.trans (g5 ts)⟩
     have hm:mu (((i:Nat):Int),L++[[.sc (.int .u8 kd),.sc (.string tx),.sc (.int .i64 n),.sc (.int .i64 at_)]])<mu (z,L):=by
      rw[hmz,hmj,hmu];show l.length - ((i:Nat):Int).toNat<_;omega
     have p2:ve L [[.sc (.int .u8 kd),.sc (.string tx),.sc (.int .i64 n),.sc (.int .i64 at_)]]=L++[[.sc (.int .u8 kd),.sc (.string tx),.sc (.int .i64 n),.sc (.int .i64 at_)]]:=by rw[r4]
     have hLl:L.length<=65536:=by rw[hL,b7U];omega
     generalize L++[[.sc (.int .u8 kd),.sc (.string tx),.sc (.int .i64 n),.sc (.int .i64 at_)]]=L2 at *;generalize ((i:Nat):Int)=y2 at *
     iterate 2 (try cbv;repeat ((first|with_reducible apply j6 hA|rw[p1]|rw[p2]|refine E2 hA true ?_|(refine F3 hA (by simp only[d3O,d3Y];omega) ?_));cbv))
     try simp (maxSteps:=4000000) only [nc] at *
     refine⟨(y2,L2),hi2,hm,?_⟩;cbv
    ·have p1:qk c 0=false:=eb hA (d3T hc);obtain⟨rfl,rfl,rfl⟩:=hX _ (hE2.trans (g3 hc ts))
     iterate 2 (try cbv;repeat ((first|refine b6e hA 2 4 [] rfl rfl ?_|with_reducible apply j6 hA|rw[p1]);cbv))
   ·have p0:qk ((j:Nat):Int) N=true:=eb hA (by rw[d4H];omega);obtain⟨hX1,rfl,rfl⟩:=hX _ (hE2.trans (a34 (by omega)));have hj:((l.length:Nat):Int)=((j:Nat):Int):=by omega
    have hX2:X=L++[[.sc (.int .u8 4),.sc (.string ⟨⟨[]⟩⟩),.sc (.int .i64 0),.sc (.int .i64 ((j:Nat):Int))]]:=by rw[hX1,b7V,hL,<-hj];rfl
    generalize ((j:Nat):Int)=y at *;have p2:ve L [[.sc (.int .u8 4),.sc (.string ⟨⟨[]⟩⟩),.sc (.int .i64 0),.sc (.int .i64 y)]]=X:=by rw[r4,hX2]
    have hLl:L.length<=65536:=by rw[hL,b7U];omega
    clear hX1 hX2
    try cbv;exact fr
def tkD (t:Tok):List D:=[.sc (.int .u8 t.kind),.sc (.string t.text),.sc (.int .i64 t.n),.sc (.int .i64 t.at_)]
def P6 (ts:List Tok):List (List D):=ts.map tkD
def G3 (l:List UInt8):List Int:=l.map λc=>(c.toNat:Int)
theorem a8O (ts:List Tok):(P6 ts).length=ts.length:=by unfold P6;rw[d4g]
theorem c55 {ts:List Tok} {k:Nat} {t:Tok} (h:ts[k]?=some t):(P6 ts)[k]?=some (tkD t):=by unfold P6;rw[d4p,h];rfl
theorem b40 (l:List UInt8):Byt (G3 l):=λx hx=>by
 unfold G3 at hx;obtain⟨c,_,rfl⟩:=d4U.1 hx;have:=c.toNat_lt;omega
theorem d1b (l:List UInt8):rU l=Z4 (G3 l):=by unfold rU Z4 G3;rw[d5I];rfl
theorem c2y (l:List UInt8) (hl:l.length<=65536):o8 10 [.one (.sl 1 (rU l))] [.one (.sl 4 (P6 (n8 (G3 l) 0 false []).1)),.one (.sc (.int .i64 (n8 (G3 l) 0 false []).2.1)),.one (.sc (.int .u8 (n8 (G3 l) 0 false []).2.2))]:=by
 have h:=c8J (b40 l) (by unfold G3;rw[d4g];exact hl);rw[d1b];exact h
def rdB (T:List (List D)) (a:Int):List O:=[.box [.d (.sl 4 T),.d (.sc (.int .i64 a))]]
def eyB (e p:Int) (T:List (List D)) (a:Int):List O:=[.box [.ptr 1 0,.d (.sc (.int .u8 e)),.d (.sc (.int .i64 p))],.box [.d (.sl 4 T),.d (.sc (.int .i64 a))]]
def Z5 (t:Tok) (s:ByteArray):Bool:=(t.kind == 3) && (t.text.toList == s.toList)
theorem c56 (T:List (List D)) (hne:T≠[]) (hl:T.length<=1048576):o8 23 [.one (.sl 4 T)] [.one (.sl 4 T)]:=by
 refine Q5 Tryz.func23 rfl ?_;intro _ _ _ _ _ _ _ _ _ _ _ _ _ _ _ _ _ _ _ _ _ _ va _ _ ve;intros;rename_i hA;obtain⟨r1,r2,r3,r4⟩:=B3 hA
 have q:va T≠0:=by
  rw[r1];cases T with
  | nil=>exact absurd rfl hne
  | cons x T=>simp;omega
 have q4:ve [] T=T:=by rw[r4];rfl
 iterate 2 (try cbv;repeat ((first|with_reducible apply j6 hA|rw[q4]|refine b7A hA q ?_|refine a3c hA true ?_|(refine F3 hA (by simp only[d3Y];omega) ?_));cbv))
theorem b41 (T:List (List D)) (hne:T≠[]) (hl:T.length<=1048576):y7 11 [.d (.sl 4 T)] [] (λres os=>res=[.ptr 0 0]/\os=rdB T 0):=by
 have h1:=c56 T hne hl;unfold rdB;refine so9 Tryz.func11 rfl ?_;intros;rename_i hA
 try cbv;refine gr ?_;try simp only[nc] at *
 exact n7 hA [0] (res':=[.ptr 0 0]) ⟨rfl,rfl,rfl,rfl,rfl,rfl,rfl,rfl⟩ ⟨rfl,rfl⟩
theorem a4A (ts:List Tok) (t:Tok) (a:Nat) (ht:ts[a]?=some t) (hl:ts.length<=1048576):E8 14 [.ptr 0 0] (rdB (P6 ts) (a:Int)) (λres os=>res=[.ag (C0 (tkD t))]/\os=rdB (P6 ts) (a:Int)):=by
 have hg:=c55 ht;have hlt:=(d3J.1 ht).1;have hln:=a8O ts;unfold tkD at hg ⊢;unfold rdB;generalize P6 ts=T at *;generalize t.kind=tk at *;generalize t.text=tx at *;generalize t.n=tn at *;generalize t.at_=ta at *;obtain⟨z,hz⟩:∃z,z=(a:Int):=⟨_,rfl⟩;rw[<-hz];refine a2p Tryz.func14 rfl (by kernel_rfl) (by kernel_rfl) (by kernel_rfl) rfl ?_;intro _ _ _ _ _ _ _ qi _ qk _ _ _ _ _ _ _ _ _ _ _ _ va vc _ _ _ _ _ _ _ _ _ _ _ _ _ _ _ _ _ vx;intros;rename_i hA K hK;obtain⟨e1,e2,e3,e4,e5,e6,e7,e8,e9⟩:=m6 hA;obtain⟨r1,r2,r3,r4⟩:=B3 hA;have q1:qk (va T) 0=false:=by rw[e9,r1,hln];simp;intro h;rw[h] at hlt;simp at hlt
 have q2:qi z (va T)=true:=by rw[e7,r1,hln,hz];exact d3S (by omega)
 have g:vc T z=some [.sc (.int .u8 tk),.sc (.string tx),.sc (.int .i64 tn),.sc (.int .i64 ta)]:=by rw[r2,hz,d3I (by omega),show ((a:Int)).toNat=a by omega];exact hg
 have q0:=g;exact fin
theorem d1c (ts:List Tok) (t:Tok) (a:Nat) (ht:ts[a]?=some t) (hl:ts.length<=1048576) (s:ByteArray):E8 75 [.ptr 0 0,vs s] (rdB (P6 ts) (a:Int)) (λres os=>res=[vb (Z5 t s)]/\os=rdB (P6 ts) (a:Int)):=by
 have hp:=a4A ts t a ht hl;unfold Z5;unfold tkD rdB at hp;unfold rdB;generalize P6 ts=T at *;generalize t.kind=tk at *;generalize t.text=tx at *;generalize t.n=tn at *;generalize t.at_=ta at *;obtain⟨z,hz⟩:∃z,z=(a:Int):=⟨_,rfl⟩;rw[<-hz] at hp ⊢;obtain⟨b,hb⟩:∃b,b=(tx.toList == s.toList):=⟨_,rfl⟩;obtain⟨c,hc⟩:∃c,c=(tk == 3):=⟨_,rfl⟩;rw[<-hb,<-hc];refine a2p Tryz.func75 rfl (by kernel_rfl) (by kernel_rfl) (by kernel_rfl) rfl ?_;intro _ _ _ _ _ _ _ _ _ qk _ qm _ qp;intros;rename_i hA K hK;obtain⟨e1,e2,e3,e4,e5,e6,e7,e8,e9⟩:=m6 hA;obtain⟨s1,s2,s3,s4,s5,s6,s7⟩:=G1 hA;have q1:qk tk 3=c:=by rw[e9,hc]
 have q2:qm (qp tx) (qp s)=b:=by rw[s1,s3,s3,hb]
 cases c
 ·iterate 2 (try cbv;repeat ((first|with_reducible apply j6 hA|rw[q1]|refine rdx hA [0] hp ?_);cbv))
  try simp (maxSteps:=4000000) only [nc] at *
  exact hK _ rfl
 ·iterate 2 (try cbv;repeat ((first|with_reducible apply j6 hA|rw[q1]|rw[q2]|refine rdx hA [0] hp ?_);cbv))
  try simp (maxSteps:=4000000) only [nc] at *
  exact hK _ rfl
theorem b3b (ts:List Tok) (t:Tok) (a:Nat) (ht:ts[a]?=some t) (hl:ts.length<=1048576):y7 52 [.ptr 0 0] (rdB (P6 ts) (a:Int)) (λres os=>res=[.ag (C0 (tkD t))]/\os=rdB (P6 ts) ((a+1:Nat):Int)):=by
 have hp:=a4A ts t a ht hl;have hlt:=(d3J.1 ht).1;have hln:=a8O ts;unfold tkD rdB at hp;unfold tkD rdB;generalize P6 ts=T at *;generalize t.kind=tk at *;generalize t.text=tx at *;generalize t.n=tn at *;generalize t.at_=ta at *;obtain⟨z,hz⟩:∃z,z=(a:Int):=⟨_,rfl⟩;obtain⟨y,hy⟩:∃y,y=((a+1:Nat):Int):=⟨_,rfl⟩;rw[<-hz] at hp ⊢;rw[<-hy];refine so9 Tryz.func52 rfl ?_;intro qa qb _ _ _ _ _ qi _ _ _ _ _ _ _ _ _ _ _ _ _ _ va;intros;rename_i hA;obtain⟨e1,e2,e3,e4,e5,e6,e7,e8,e9⟩:=m6 hA;obtain⟨r1,r2,r3,r4⟩:=B3 hA;have q2:qi z (va T)=true:=by rw[e7,r1,hln,hz];exact d3S (by omega)
 have q3:qa .i64 (qb z 1)=y:=by rw[e1,e2,hz,hy,IntWalk.i64_in _ (by omega)];omega
 iterate 2 (try cbv;repeat ((first|with_reducible apply j6 hA|rw[q2]|rw[q3]|refine rdx hA [0] hp ?_);cbv))
 try simp (maxSteps:=4000000) only [nc] at *
 exact n7 hA [0] ⟨rfl,rfl,rfl,rfl,rfl,rfl,rfl,rfl⟩ ⟨rfl,rfl⟩
theorem b3c (ts:List Tok) (t:Tok) (a:Nat) (ht:ts[a]?=some t) (hl:ts.length<=1048576) (s:ByteArray):y7 49 [.ptr 0 0,vs s] (rdB (P6 ts) (a:Int)) (λres os=>res=[vb (Z5 t s)]/\os=rdB (P6 ts) ((if Z5 t s=true then a+1 else a:Nat):Int)):=by
 have hp:=d1c ts t a ht hl s;have hq:=b3b ts t a ht hl;unfold tkD rdB at hq;unfold rdB at hp;unfold rdB;generalize P6 ts=T at *;generalize t.kind=tk at *;generalize t.text=tx at *;generalize t.n=tn at *;generalize t.at_=ta at *;generalize Z5 t s=b at *;cases b
 ·rw[d3G (by decide)];generalize ((a:Nat):Int)=z at *;refine so9 Tryz.func49 rfl λqa qb qc qd qe qg qh qi qj qk ql qm qo qp qq qt qu qv qw qx qy qz va vc vd ve vf vg vh vj vk vl vm vn vo vq vr vt vu vv vw vx vy hA=>?_
  iterate 2 (try cbv;repeat ((first|with_reducible apply j6 hA|refine rdx hA [0] hp ?_);cbv))
  try simp (maxSteps:=4000000) only [nc] at *
  exact n7 hA [0] ⟨rfl,rfl,rfl,rfl,rfl,rfl,rfl,rfl⟩ ⟨rfl,rfl⟩
 ·rw[d3I rfl];generalize ((a:Nat):Int)=z at *;generalize ((a+1:Nat):Int)=y at *;refine so9 Tryz.func49 rfl λqa qb qc qd qe qg qh qi qj qk ql qm qo qp qq qt qu qv qw qx qy qz va vc vd ve vf vg vh vj vk vl vm vn vo vq vr vt vu vv vw vx vy hA=>?_
  iterate 2 (try cbv;repeat ((first|with_reducible apply j6 hA|refine rdx hA [0] hp ?_|refine B8 hA [0] hq ?_);cbv))
  try simp (maxSteps:=4000000) only [nc] at *
  exact n7 hA [0] ⟨rfl,rfl,rfl,rfl,rfl,rfl,rfl,rfl⟩ ⟨rfl,rfl⟩
abbrev N9:ByteArray:=⟨#[]⟩
abbrev PE:=Nat×Int
def tk0:Tok:=⟨4,N9,0,0⟩
def r9 (ts:List Tok) (a:Nat):Tok:=(ts[a]?).getD tk0
def B1 (ts:List Tok) (s:ByteArray) (p:PE):Bool:=(p.2 == 0) && Z5 (r9 ts p.1) s
def skP (ts:List Tok) (s:ByteArray) (p:PE):PE:=if B1 ts s p=true then (p.1+1,0) else p
def l6 (ts:List Tok) (s:ByteArray) (p:PE):PE:=if p.2≠0 then p else if Z5 (r9 ts p.1) s=true then (p.1+1,0) else (p.1,5)
def F6 (c:Int) (p:PE):PE:=if p.2≠0 then p else (p.1,c)
abbrev a7G:ByteArray:=⟨#[73,110,116]⟩
abbrev a4h:ByteArray:=⟨#[66,111,111,108]⟩
abbrev a3V:ByteArray:=⟨#[63]⟩
abbrev a52:ByteArray:=⟨#[40]⟩
abbrev a8m:ByteArray:=⟨#[41]⟩
abbrev b3d:ByteArray:=⟨#[123]⟩
abbrev b7W:ByteArray:=⟨#[125]⟩
abbrev b42:ByteArray:=⟨#[60]⟩
abbrev b7X:ByteArray:=⟨#[62]⟩
abbrev gTo:ByteArray:=⟨#[45,62]⟩
abbrev a2s:ByteArray:=⟨#[44]⟩
abbrev a3d:ByteArray:=⟨#[58]⟩
abbrev b3e:ByteArray:=⟨#[124]⟩
def y5 (ts:List Tok):Prop:=∀a,a<ts.length->(r9 ts a).kind≠4->a+1<ts.length
theorem W5 {ts:List Tok} {a:Nat} (h:a<ts.length):ts[a]?=some (r9 ts a):=by
 unfold r9;rw[d3H h];rfl
theorem b43 {t:Tok} {s:ByteArray} (h:Z5 t s=true):t.kind=3:=by
 unfold Z5 at h;rw[d3N,d4H] at h;exact h.1
theorem B0 {ts:List Tok} {s:ByteArray} {p:PE} (hE:y5 ts) (hp:p.1<ts.length) (h:B1 ts s p=true):p.2=0/\p.1+1<ts.length:=by
 unfold B1 at h;rw[d3N,d4H] at h;exact⟨h.1,hE _ hp (by rw[b43 h.2];decide)⟩
theorem l8 {ts:List Tok} {s:ByteArray} {p:PE} (hE:y5 ts) (hp:p.1<ts.length):(l6 ts s p).1<ts.length/\p.1<=(l6 ts s p).1/\((l6 ts s p).2=0->p.2=0/\(l6 ts s p).1=p.1+1):=by
 unfold l6
 by_cases h0:p.2≠0
 ·rw[d3I h0];exact⟨hp,d3Q _,λh=>absurd h h0⟩
 ·rw[d3G h0]
  by_cases h1:Z5 (r9 ts p.1) s=true
  ·rw[d3I h1];exact⟨hE _ hp (by rw[b43 h1];decide),d6w _,λ_=>⟨d4Z.1 h0,rfl⟩⟩
  ·rw[d3G h1];exact⟨hp,d3Q _,λh=>absurd (show (5:Int)=0 from h) (by decide)⟩
theorem C8 (c:Int) (hc:c≠0) (p:PE):(F6 c p).1=p.1/\(F6 c p).2≠0:=by
 unfold F6
 by_cases h0:p.2≠0
 ·rw[d3I h0];exact⟨rfl,h0⟩
 ·rw[d3G h0];exact⟨rfl,hc⟩
theorem b7Z:∀(l:List UInt8) (f:Bool),(∀(i:Nat) (c:UInt8),l[i]?=some c->okB (f && (i == 0)) (c.toNat:Int)=true)->okL f l=true
 | [],f,h=>rfl
 | c::l,f,h=>by
  rw[okL,b7Z l false λi x hx=>by
   have:=h (i+1) x (by simpa using hx)
   simpa using this]
  have:=h 0 c rfl
  simp at this
  rw[this];rfl
theorem d1d (s:ByteArray) (i:Nat) (c:UInt8) (h:(btl s)[i]?=some c):gb (C6 s) i=(c.toNat:Int):=by
 unfold btl at h;unfold gb C6;rw[d3W,d4p,h];rfl
theorem c57 (s:ByteArray) (h1:a7D s=false) (h2:a3T (C6 s)=true) (h3:(C6 s).length<=32):A3 s=true:=by
 rw[a0z] at h3;unfold a3T at h2;rw[d3N,decide_eq_true_iff,d4f,a0z] at h2;obtain⟨h4,h5⟩:=h2;unfold A3 Q6
 rw[h1,d3S h3,d3S h4,b7Z _ _ λi c hc=>by
  have hi:i<s.size:=by
   have:=(d3J.1 hc).1;unfold btl at this
   rwa [d4K] at this
  have h6:=h5 i (d6a.2 hi);unfold c2j at h6;rw[d1d s i c hc] at h6;unfold okB
  by_cases hz:i=0
  ·subst hz
   simpa using h6
  ·rw[d3S (by omega:0<i)] at h6;rw[show (i == 0)=false from d3T hz]
   simpa using h6]
 rfl
def b96 (t:Tok):Prop:=t.kind≠4/\(t.kind=1->A3 t.text=true)
theorem c2z (s:ByteArray) (a:Int) (h:(L8 s a).2=0):b96 (L8 s a).1:=by
 unfold L8 at h ⊢
 by_cases h1:I4 (gb (C6 s) 0)=true
 ·rw[d3I h1] at h ⊢;exact⟨show (2:Int)≠4 by decide,λh=>absurd (show (2:Int)=1 from h) (by decide)⟩
 rw[d3G h1] at h ⊢
 by_cases h2:a7D s=true
 ·rw[d3I h2] at h ⊢;exact⟨show (3:Int)≠4 by decide,λh=>absurd (show (3:Int)=1 from h) (by decide)⟩
 rw[d3G h2] at h ⊢
 by_cases h3:a3T (C6 s)=false
 ·rw[d3I h3] at h;exact absurd (show (4:Int)=0 from h) (by decide)
 rw[d3G h3] at h ⊢
 by_cases h4:32<(C6 s).length
 ·rw[d3I h4] at h;exact absurd (show (7:Int)=0 from h) (by decide)
 rw[d3G h4];exact⟨show (1:Int)≠4 by decide,λ_=>c57 s (Bool.eq_false_iff.2 h2) (by simpa using h3) (by omega)⟩
def c20 (l:List Int) (r:List Tok×Int×Int) (n:Nat):Prop:=r.2.2=0->∃pre,r.1=pre++[⟨4,⟨#[]⟩,0,(l.length:Int)⟩]/\(∀t∈pre,b96 t)/\pre.length<=n
theorem b3f (l:List Int):∀(m a:Nat) (rem:Bool) (out:List Tok) (n:Nat),l.length - a<=m->(∀t∈out,b96 t)->out.length+(l.length - a)<=n->c20 l (n8 l a rem out) n
 | m,a,rem,out,n,hm,ho,hn=>by
  rw[a09];unfold body
  by_cases ha:a<l.length
  ·rw[d3I ha]
   have go:∀(a':Nat) (rem:Bool) (out':List Tok),a<a'->(∀t∈out',b96 t)->out'.length<=out.length+1->c20 l (n8 l a' rem out') n:=λa' rem' out' h1 h2 h3=>by
    match m,hm with
    | 0,hm=>omega
    | m+1,hm=>exact b3f l m a' rem' out' n (by omega) h2 (by omega)
   have bad:∀(p c:Int),c≠0->c20 l ([],p,c) n:=λp c hc h=>absurd h hc
   have snoc:∀t,b96 t->∀x∈out++[t],b96 x:=λt ht x hx=>by
    rcases d4s.1 hx with hx|hx
    ·exact ho x hx
    ·cases d4e.1 hx;exact ht
   by_cases h0:nx l a=0
   ·rw[d3I h0];exact bad _ _ (by decide)
   rw[d3G h0]
   by_cases h1:rem=true
   ·rw[d3I h1];exact go _ _ _ (by omega) ho (by omega)
   rw[d3G h1]
   by_cases h2:J9 (gb l a)=true
   ·rw[d3I h2];exact go _ _ _ (by omega) ho (by omega)
   rw[d3G h2]
   by_cases h3:gb l a=35
   ·rw[d3I h3];exact go _ _ _ (by omega) ho (by omega)
   rw[d3G h3]
   by_cases h4:H2 (gb l a)=true
   ·rw[d3I h4]
    by_cases h5:(L8 (strOfNums (G9 l a)) a).2=0
    ·rw[d3I h5];have:=a5d ha h4;exact go _ _ _ (by omega) (snoc _ (c2z _ _ h5)) (by simp)
    ·rw[d3G h5];exact bad _ _ h5
   rw[d3G h4]
   by_cases h6:C4 (l.drop a)=0
   ·rw[d3I h6];exact bad _ _ (by decide)
   rw[d3G h6];exact go _ _ _ (by omega) (snoc _ ⟨show (3:Int)≠4 by decide,λh=>absurd (show (3:Int)=1 from h) (by decide)⟩) (by simp)
  ·rw[d3G ha];exact λ_=>⟨out,rfl,ho,by omega⟩
def a0c (ts:List Tok):Prop:=∀a,a<ts.length->(r9 ts a).kind=1->A3 (r9 ts a).text=true
theorem a5e (l:List Int) (h:(n8 l 0 false []).2.2=0):y5 (n8 l 0 false []).1/\a0c (n8 l 0 false []).1/\0<(n8 l 0 false []).1.length/\(n8 l 0 false []).1.length<=l.length+1:=by
 obtain⟨pre,h1,h2,h3⟩:=b3f l l.length 0 false [] l.length (by omega) (λt ht=>by cases ht) (by simp) h;rw[h1]
 have hin:∀a,a<(pre++[(⟨4,⟨#[]⟩,0,(l.length:Int)⟩:Tok)]).length->(r9 (pre++[⟨4,⟨#[]⟩,0,(l.length:Int)⟩]) a)∈pre/\a<pre.length\/(r9 (pre++[⟨4,⟨#[]⟩,0,(l.length:Int)⟩]) a).kind=4:=λa ha=>by
  rw[d3K,d5f] at ha;unfold r9
  by_cases hp:a<pre.length
  ·left
   rw[d4b hp,d3H hp];exact⟨d55 hp,hp⟩
  ·right
   have:a=pre.length:=by omega
   subst this;rw[d3V (d3Q _),d4V];rfl
 refine⟨λa ha hk=>?_,λa ha hk=>?_,by simp,by simp;omega⟩
 ·rcases hin a ha with⟨_,hp⟩|h4
  ·simp;omega
  ·exact absurd h4 hk
 ·rcases hin a ha with⟨hm,_⟩|h4
  ·exact(h2 _ hm).2 hk
  ·rw[h4] at hk;exact absurd hk (by decide)
def b6q:Int->List Tok->Prop
 | _,[]=>True
 | b,t::ts=>b<=t.at_/\b6q (t.at_+1) ts
theorem b6q.mono:∀ {ts:List Tok} {b c:Int},c<=b->b6q b ts->b6q c ts
 | [],_,_,_,_=>trivial
 | t::ts,b,c,h,⟨h1,h2⟩=>⟨by omega,h2⟩
theorem c58 (s:ByteArray) (a:Int):(L8 s a).1.at_=a:=by
 unfold L8
 repeat' split
 all_goals rfl
def c21 (l:List Int) (a:Nat) (out:List Tok) (r:List Tok×Int×Int):Prop:=r.2.2=0->∃new,r.1=out++new/\b6q (a:Int) new/\∀t∈new,t.at_<=l.length
theorem b44 (l:List Int):∀(m a:Nat) (rem:Bool) (out:List Tok),l.length - a<=m->a<=l.length->c21 l a out (n8 l a rem out)
 | m,a,rem,out,hm,hal=>by
  rw[a09];unfold body
  by_cases ha:a<l.length
  ·rw[d3I ha]
   have go:∀(a':Nat) (rem:Bool) (out':List Tok),a<a'->a'<=l.length->c21 l a' out' (n8 l a' rem out'):=λa' rem' out' h1 h2=>by
    match m,hm with
    | 0,hm=>omega
    | m+1,hm=>exact b44 l m a' rem' out' (by omega) h2
   have skip:∀(a':Nat) (rem:Bool),a<a'->a'<=l.length->c21 l a out (n8 l a' rem out):=λa' rem' h1 h2 h0=>by
    obtain⟨new,e,h3,h4⟩:=go a' rem' out h1 h2 h0;exact⟨new,e,h3.mono (by omega),h4⟩
   have one:∀(a':Nat) (t:Tok),a<a'->a'<=l.length->t.at_=(a:Int)->c21 l a out (n8 l a' false (out++[t])):=λa' t h1 h2 ht h0=>by
    obtain⟨new,e,h3,h4⟩:=go a' false (out++[t]) h1 h2 h0;refine⟨t::new,by rw[e];simp,⟨by omega,h3.mono (by omega)⟩,λx hx=>?_⟩
    rcases d3R.1 hx with rfl|hx
    ·omega
    ·exact h4 x hx
   have bad:∀(p c:Int),c≠0->c21 l a out ([],p,c):=λp c hc h=>absurd h hc
   by_cases h0:nx l a=0
   ·rw[d3I h0];exact bad _ _ (by decide)
   have hn:=c2g h0;rw[d3G h0]
   by_cases h1:rem=true
   ·rw[d3I h1];exact skip _ _ (by omega) (hn.2.2 ha)
   rw[d3G h1]
   by_cases h2:J9 (gb l a)=true
   ·rw[d3I h2];exact skip _ _ (by omega) (by omega)
   rw[d3G h2]
   by_cases h3:gb l a=35
   ·rw[d3I h3];exact skip _ _ (by omega) (by omega)
   rw[d3G h3]
   by_cases h4:H2 (gb l a)=true
   ·rw[d3I h4]
    by_cases h5:(L8 (strOfNums (G9 l a)) a).2=0
    ·rw[d3I h5];have:=a5d ha h4
     have hle:(G9 l a).length<=l.length - a:=by
      unfold G9;have:=takeWhile_le H2 (l.drop a)
      rwa [d4l] at this
     exact one _ _ (by omega) (by omega) (c58 _ _)
    ·rw[d3G h5];exact bad _ _ h5
   rw[d3G h4]
   by_cases h6:C4 (l.drop a)=0
   ·rw[d3I h6];exact bad _ _ (by decide)
   rw[d3G h6];have:=b2Y ha;exact one _ _ (by omega) (by omega) rfl
  ·rw[d3G ha];exact λ_=>⟨[⟨4,⟨#[]⟩,0,l.length⟩],rfl,⟨show (a:Int)<=(l.length:Int) by omega,trivial⟩,λt ht=>by cases d4e.1 ht;exact d6v _⟩
where takeWhile_le (p:Int->Bool):∀m:List Int,(m.takeWhile p).length<=m.length
 | []=>d3Q _
 | x::m=>by
  rw[d5u]
  split
  ·simp only[d3O];have:=takeWhile_le p m;omega
  ·simp
theorem b3g:∀ {ts:List Tok} {b:Int} {i:Nat},b6q b ts->i<ts.length->b<=(r9 ts i).at_
 | t::ts,b,0,h,_=>h.1
 | t::ts,b,i+1,h,hi=>by
  have:=b3g (i:=i) h.2 (by simpa using hi);have e:r9 (t::ts) (i+1)=r9 ts i:=rfl;rw[e];have:=h.1;omega
theorem b8a:∀ {ts:List Tok} {b:Int} {i j:Nat},b6q b ts->i<j->j<ts.length->(r9 ts i).at_+1<=(r9 ts j).at_
 | t::ts,b,0,j+1,h,_,hj=>b3g (i:=j) h.2 (by simpa using hj)
 | t::ts,b,i+1,j+1,h,hij,hj=>b8a (i:=i) (j:=j) h.2 (by omega) (by simpa using hj)
structure AtsT (n:Nat) (ts:List Tok):Prop where
 lo:∀i,i<ts.length->0<=(r9 ts i).at_/\(r9 ts i).at_<=n
 up:∀i j,i<j->j<ts.length->(r9 ts i).at_+1<=(r9 ts j).at_
theorem c8K (l:List Int) (h:(n8 l 0 false []).2.2=0):AtsT l.length (n8 l 0 false []).1:=by
 obtain⟨new,e,h1,h2⟩:=b44 l l.length 0 false [] (by omega) (by omega) h;rw[e,d44];refine⟨λi hi=>⟨b3g h1 hi,?_⟩,λi j=>b8a h1⟩;have hg:=W5 hi;exact h2 _ (d3U hg)
theorem b8b (T:List (List D)) (p z:Int):E8 13 [.ptr 0 0] (eyB 0 p T z) (λres os=>res=[vb true]/\os=eyB 0 p T z):=by
 unfold eyB;refine a2p Tryz.func13 rfl (by kernel_rfl) (by kernel_rfl) (by kernel_rfl) rfl ?_;intro _ _ _ _ _ _ _ _ _ qk _ _ _ _ _ _ _ _ _ _ _ _ _ _ _ _ _ _ _ _ _ _ _ _ _ _ _ _ _ _ _ vx;intros;rename_i hA K hK;obtain⟨e1,e2,e3,e4,e5,e6,e7,e8,e9⟩:=m6 hA;have q1:qk 0 0=true:=by rw[e9];rfl
 exact fin
theorem b8c (T:List (List D)) (e p z:Int) (he:e≠0):E8 13 [.ptr 0 0] (eyB e p T z) (λres os=>res=[vb false]/\os=eyB e p T z):=by
 unfold eyB;refine a2p Tryz.func13 rfl (by kernel_rfl) (by kernel_rfl) (by kernel_rfl) rfl ?_;intro _ _ _ _ _ _ _ _ _ qk _ _ _ _ _ _ _ _ _ _ _ _ _ _ _ _ _ _ _ _ _ _ _ _ _ _ _ _ _ _ _ vx;intros;rename_i hA K hK;obtain⟨e1,e2,e3,e4,e5,e6,e7,e8,e9⟩:=m6 hA;have q1:qk e 0=false:=by rw[e9];exact d3P he
 exact fin
theorem c22 (ts:List Tok) (t:Tok) (a:Nat) (ht:ts[a]?=some t) (hl:ts.length<=1048576) (e p:Int):E8 25 [.ptr 0 0] (eyB e p (P6 ts) (a:Int)) (λres os=>res=[vi .i64 t.at_]/\os=eyB e p (P6 ts) (a:Int)):=by
 have hp:=a4A ts t a ht hl;unfold tkD rdB at hp;unfold eyB;generalize P6 ts=T at *;generalize t.kind=tk at *;generalize t.text=tx at *;generalize t.n=tn at *;generalize t.at_=ta at *;generalize ((a:Nat):Int)=z at *;refine a2p Tryz.func25 rfl (by kernel_rfl) (by kernel_rfl) (by kernel_rfl) rfl ?_;intro _ _ _ _ _ _ _ _ _ _ _ _ _ _ _ _ _ _ _ _ _ _ _ _ _ _ _ _ _ _ _ _ _ _ _ _ _ _ _ _ _ vx;intros;rename_i hA K hK;have r0:=hp;exact fin
def pz0:List V:=[vi .u8 0,vs ⟨#[]⟩,vs ⟨#[]⟩,vi .i64 0,vb false,vi .u8 0,vs ⟨#[]⟩,vi .i64 0,.em,.em,.em]
theorem b0f (ts:List Tok) (t:Tok) (a:Nat) (ht:ts[a]?=some t) (hl:ts.length<=1048576) (c:Int):y7 15 [.ptr 0 0,vi .u8 c] (eyB 0 0 (P6 ts) (a:Int)) (λres os=>res=[.ag pz0]/\os=eyB c t.at_ (P6 ts) (a:Int)):=by
 have h1:=b8b (P6 ts) 0 (a:Int);have h2:=c22 ts t a ht hl 0 0;unfold eyB at *;unfold pz0;generalize P6 ts=T at *;generalize t.at_=ta at *;generalize ((a:Nat):Int)=z at *;refine so9 Tryz.func15 rfl ?_;intros;rename_i hA
 iterate 2 (try cbv;repeat ((first|with_reducible apply j6 hA|refine rdx hA [0,1] h1 ?_|refine rdx hA [0,1] h2 ?_);cbv))
 try simp (maxSteps:=4000000) only [nc] at *
 exact n7 hA [0,1] ⟨rfl,rfl,rfl,rfl,rfl,rfl,rfl,rfl⟩ ⟨rfl,rfl⟩
theorem b1T (T:List (List D)) (e p z c:Int) (he:e≠0):y7 15 [.ptr 0 0,vi .u8 c] (eyB e p T z) (λres os=>res=[.ag pz0]/\os=eyB e p T z):=by
 have h1:=b8c T e p z he;unfold eyB at *;unfold pz0;refine so9 Tryz.func15 rfl ?_;intros;rename_i hA
 iterate 2 (try cbv;repeat ((first|with_reducible apply j6 hA|refine rdx hA [0,1] h1 ?_);cbv))
 try simp (maxSteps:=4000000) only [nc] at *
 exact n7 hA [0,1] ⟨rfl,rfl,rfl,rfl,rfl,rfl,rfl,rfl⟩ ⟨rfl,rfl⟩
theorem b45 (ts:List Tok) (t:Tok) (a:Nat) (ht:ts[a]?=some t) (hl:ts.length<=1048576) (s:ByteArray):y7 29 [.ptr 0 0,vs s] (eyB 0 0 (P6 ts) (a:Int)) (λres os=>res=[]/\os=if Z5 t s=true then eyB 0 0 (P6 ts) ((a+1:Nat):Int) else eyB 5 t.at_ (P6 ts) (a:Int)):=by
 have h1:=b8b (P6 ts) 0 (a:Int);have hq:=b3c ts t a ht hl s;have hf:=b0f ts t a ht hl 5;unfold rdB at hq;unfold eyB at *;unfold pz0 at hf;generalize P6 ts=T at *;generalize t.at_=ta at *;cases hb:Z5 t s
 ·rw[hb,d3G (by decide)] at hq;rw[d3G (by decide)];generalize ((a:Nat):Int)=z at *;refine so9 Tryz.func29 rfl λqa qb qc qd qe qg qh qi qj qk ql qm qo qp qq qt qu qv qw qx qy qz va vc vd ve vf vg vh vj vk vl vm vn vo vq vr vt vu vv vw vx vy hA=>?_
  iterate 2 (try cbv;repeat ((first|with_reducible apply j6 hA|refine rdx hA [0,1] h1 ?_|refine B8 hA [1] hq ?_|refine B8 hA [0,1] hf ?_);cbv))
  try simp (maxSteps:=4000000) only [nc] at *
  exact n7 hA [0,1] ⟨rfl,rfl,rfl,rfl,rfl,rfl,rfl,rfl⟩ ⟨rfl,rfl⟩
 ·rw[hb,d3I rfl] at hq;rw[d3I rfl];generalize ((a:Nat):Int)=z at *;generalize ((a+1:Nat):Int)=y at *;refine so9 Tryz.func29 rfl λqa qb qc qd qe qg qh qi qj qk ql qm qo qp qq qt qu qv qw qx qy qz va vc vd ve vf vg vh vj vk vl vm vn vo vq vr vt vu vv vw vx vy hA=>?_
  iterate 2 (try cbv;repeat ((first|with_reducible apply j6 hA|refine rdx hA [0,1] h1 ?_|refine B8 hA [1] hq ?_);cbv))
  try simp (maxSteps:=4000000) only [nc] at *
  exact n7 hA [0,1] ⟨rfl,rfl,rfl,rfl,rfl,rfl,rfl,rfl⟩ ⟨rfl,rfl⟩
theorem b97 (T:List (List D)) (e p z:Int) (he:e≠0) (s:ByteArray):y7 29 [.ptr 0 0,vs s] (eyB e p T z) (λres os=>res=[]/\os=eyB e p T z):=by
 have h1:=b8c T e p z he;unfold eyB at *;refine so9 Tryz.func29 rfl ?_;intros;rename_i hA
 iterate 2 (try cbv;repeat ((first|with_reducible apply j6 hA|refine rdx hA [0,1] h1 ?_);cbv))
 try simp (maxSteps:=4000000) only [nc] at *
 exact n7 hA [0,1] ⟨rfl,rfl,rfl,rfl,rfl,rfl,rfl,rfl⟩ ⟨rfl,rfl⟩
theorem b46 (ts:List Tok) (t:Tok) (a:Nat) (ht:ts[a]?=some t) (hl:ts.length<=1048576):y7 28 [.ptr 0 0] (eyB 0 0 (P6 ts) (a:Int)) (λres os=>res=[vs (if t.kind=1 then t.text else ⟨#[]⟩)]/\os=if t.kind=1 then eyB 0 0 (P6 ts) ((a+1:Nat):Int) else eyB 5 t.at_ (P6 ts) (a:Int)):=by
 have h1:=b8b (P6 ts) 0 (a:Int);have hp:=a4A ts t a ht hl;have hq:=b3b ts t a ht hl;have hf:=b0f ts t a ht hl 5;unfold tkD rdB at hp hq;unfold eyB at *;unfold pz0 at hf;generalize P6 ts=T at *;generalize t.kind=tk at *;generalize t.text=tx at *;generalize t.n=tn at *;generalize t.at_=ta at *
 by_cases hb:tk=1
 ·rw[d3I hb,d3I hb];generalize ((a:Nat):Int)=z at *;generalize ((a+1:Nat):Int)=y at *;refine so9 Tryz.func28 rfl λqa qb qc qd qe qg qh qi qj qk ql qm qo qp qq qt qu qv qw qx qy qz va vc vd ve vf vg vh vj vk vl vm vn vo vq vr vt vu vv vw vx vy hA=>?_
  obtain⟨e1,e2,e3,e4,e5,e6,e7,e8,e9⟩:=m6 hA;have q1:qk tk 1=true:=by rw[e9];exact d3S hb
  clear hb
  iterate 2 (try cbv;repeat ((first|with_reducible apply j6 hA|rw[q1]|refine rdx hA [0,1] h1 ?_|refine rdx hA [1] hp ?_|refine B8 hA [1] hq ?_);cbv))
  try simp (maxSteps:=4000000) only [nc] at *
  exact n7 hA [0,1] ⟨rfl,rfl,rfl,rfl,rfl,rfl,rfl,rfl⟩ ⟨rfl,rfl⟩
 ·rw[d3G hb,d3G hb];generalize ((a:Nat):Int)=z at *;refine so9 Tryz.func28 rfl λqa qb qc qd qe qg qh qi qj qk ql qm qo qp qq qt qu qv qw qx qy qz va vc vd ve vf vg vh vj vk vl vm vn vo vq vr vt vu vv vw vx vy hA=>?_
  obtain⟨e1,e2,e3,e4,e5,e6,e7,e8,e9⟩:=m6 hA;have q1:qk tk 1=false:=by rw[e9];exact d3P hb
  clear hb
  iterate 2 (try cbv;repeat ((first|with_reducible apply j6 hA|rw[q1]|refine rdx hA [0,1] h1 ?_|refine rdx hA [1] hp ?_|refine B8 hA [0,1] hf ?_);cbv))
  try simp (maxSteps:=4000000) only [nc] at *
  exact n7 hA [0,1] ⟨rfl,rfl,rfl,rfl,rfl,rfl,rfl,rfl⟩ ⟨rfl,rfl⟩
theorem b98 (T:List (List D)) (e p z:Int) (he:e≠0):y7 28 [.ptr 0 0] (eyB e p T z) (λres os=>res=[vs ⟨#[]⟩]/\os=eyB e p T z):=by
 have h1:=b8c T e p z he;have hf:=b1T T e p z 5 he;unfold eyB at *;unfold pz0 at hf;refine so9 Tryz.func28 rfl ?_;intros;rename_i hA
 iterate 2 (try cbv;repeat ((first|with_reducible apply j6 hA|refine rdx hA [0,1] h1 ?_|refine B8 hA [0,1] hf ?_);cbv))
 try simp (maxSteps:=4000000) only [nc] at *
 exact n7 hA [0,1] ⟨rfl,rfl,rfl,rfl,rfl,rfl,rfl,rfl⟩ ⟨rfl,rfl⟩

section
abbrev PkN (T:List (List D)) (a k n p:Int) (s:ByteArray):Prop:=E8 14 [.ptr 0 0] [.box [.d (.sl 4 T),vi .i64 a]] (λres os=>res=[.ag [vi .u8 k,vs s,vi .i64 n,vi .i64 p]]/\os=[.box [.d (.sl 4 T),vi .i64 a]])
abbrev IsN (T:List (List D)) (a:Int) (s:ByteArray) (b:Bool):Prop:=E8 75 [.ptr 0 0,vs s] [.box [.d (.sl 4 T),vi .i64 a]] (λres os=>res=[vb b]/\os=[.box [.d (.sl 4 T),vi .i64 a]])
abbrev TaN (T:List (List D)) (a k n p a1:Int) (s:ByteArray):Prop:=y7 52 [.ptr 0 0] [.box [.d (.sl 4 T),vi .i64 a]] (λres os=>res=[.ag [vi .u8 k,vs s,vi .i64 n,vi .i64 p]]/\os=[.box [.d (.sl 4 T),vi .i64 a1]])
abbrev eyZ (e p:Int) (T:List (List D)) (a:Int):List O:=[.box [.ptr 1 0,vi .u8 e,vi .i64 p],.box [.d (.sl 4 T),vi .i64 a]]
abbrev WtN (T:List (List D)) (s:ByteArray) (e p a e1 p1 a1:Int):Prop:=y7 29 [.ptr 0 0,vs s] (eyZ e p T a) (λres os=>res=[]/\os=eyZ e1 p1 T a1)
abbrev WoN (T:List (List D)) (s:ByteArray) (e p a e1 p1 a1:Int):Prop:=y7 28 [.ptr 0 0] (eyZ e p T a) (λres os=>res=[vs s]/\os=eyZ e1 p1 T a1)
abbrev HeN (T:List (List D)) (e p a q:Int):Prop:=E8 25 [.ptr 0 0] (eyZ e p T a) (λres os=>res=[vi .i64 q]/\os=eyZ e p T a)
abbrev OkN (T:List (List D)) (e p a:Int) (b:Bool):Prop:=E8 13 [.ptr 0 0] (eyZ e p T a) (λres os=>res=[vb b]/\os=eyZ e p T a)
section
variable {ts:List Tok} (hl:ts.length<=1048576)
include hl
theorem c23 {a:Nat} (ha:a<ts.length):PkN (P6 ts) (a:Int) (r9 ts a).kind (r9 ts a).n (r9 ts a).at_ (r9 ts a).text:=a4A ts (r9 ts a) a (W5 ha) hl
theorem c7D {a:Nat} (ha:a<ts.length) (s:ByteArray):IsN (P6 ts) (a:Int) s (Z5 (r9 ts a) s):=d1c ts (r9 ts a) a (W5 ha) hl s
theorem d1f {a:Nat} (ha:a<ts.length):TaN (P6 ts) (a:Int) (r9 ts a).kind (r9 ts a).n (r9 ts a).at_ ((a+1:Nat):Int) (r9 ts a).text:=b3b ts (r9 ts a) a (W5 ha) hl
theorem d2M {a:Nat} (ha:a<ts.length) {s:ByteArray} (h:Z5 (r9 ts a) s=true):WtN (P6 ts) s 0 0 (a:Int) 0 0 ((a+1:Nat):Int):=by
 have:=b45 ts (r9 ts a) a (W5 ha) hl s;rw[d3I h] at this;exact this
theorem d2N {a:Nat} (ha:a<ts.length) {s:ByteArray} (h:Z5 (r9 ts a) s=false):WtN (P6 ts) s 0 0 (a:Int) 5 (r9 ts a).at_ (a:Int):=by
 have:=b45 ts (r9 ts a) a (W5 ha) hl s;rw[d3G (by rw[h];decide)] at this;exact this
theorem d2O {a:Nat} (ha:a<ts.length) (h:(r9 ts a).kind=1):WoN (P6 ts) (r9 ts a).text 0 0 (a:Int) 0 0 ((a+1:Nat):Int):=by
 have:=b46 ts (r9 ts a) a (W5 ha) hl;rw[d3I h,d3I h] at this;exact this
theorem d2P {a:Nat} (ha:a<ts.length) (h:(r9 ts a).kind≠1):WoN (P6 ts) ⟨#[]⟩ 0 0 (a:Int) 5 (r9 ts a).at_ (a:Int):=by
 have:=b46 ts (r9 ts a) a (W5 ha) hl;rw[d3G h,d3G h] at this;exact this
theorem d1g {a:Nat} (ha:a<ts.length) (e p:Int):HeN (P6 ts) e p (a:Int) (r9 ts a).at_:=c22 ts (r9 ts a) a (W5 ha) hl e p
end
theorem d2Q (T:List (List D)) (s:ByteArray) (e p a:Int) (he:e≠0):WtN T s e p a e p a:=b97 T e p a he s
theorem d2R (T:List (List D)) (e p a:Int) (he:e≠0):WoN T ⟨#[]⟩ e p a e p a:=b98 T e p a he
theorem d2S (T:List (List D)) (p a:Int):OkN T 0 p a true:=b8b T p a
theorem d2T (T:List (List D)) (e p a:Int) (he:e≠0):OkN T e p a false:=b8c T e p a he
end
end Go.Proofs.YtdjnoafijjepcaaGreat.Vm
end
section
namespace Go.Proofs.YtdjnoafijjepcaaGreat
open Go.RowKit
set_option maxRecDepth 100000
set_option maxHeartbeats 4000000
inductive Ty where
 | mk (op:Int) (name:ByteArray) (n:Int) (kids:List Ty)
def Ty.op:Ty->Int|.mk op _ _ _=>op
def Ty.name:Ty->ByteArray|.mk _ nm _ _=>nm
def Ty.n:Ty->Int|.mk _ _ n _=>n
def Ty.kids:Ty->List Ty|.mk _ _ _ ks=>ks
theorem Ty.eta:∀t:Ty,t=.mk t.op t.name t.n t.kids|.mk _ _ _ _=>rfl
def v8:Ty:=.mk 0 ⟨#[]⟩ 0 []
theorem Ty.sizeOf_kid {t x:Ty} (h:x∈t.kids):SizeOf.sizeOf x<SizeOf.sizeOf t:=by
 obtain⟨op,nm,n,ks⟩:=t;have:=List.sizeOf_lt_of_mem h;simp only[Ty.kids] at this;simp only[Ty.mk.sizeOf_spec];omega
theorem Ty.ind {P:Ty->Prop} (h:∀t,(∀x∈t.kids,P x)->P t) (t:Ty):P t:=h t λx _hx=>Ty.ind h x
termination_by SizeOf.sizeOf t
decreasing_by exact Ty.sizeOf_kid _hx
mutual
def Ty.parts:Ty->List Ty
 | .mk op nm n ks=>.mk op nm n ks::F7 ks
def F7:List Ty->List Ty
 | []=>[]
 | t::ts=>t.parts++F7 ts
end
theorem J4 (t:Ty):t.parts=t::F7 t.kids:=by
 obtain⟨op,nm,n,ks⟩:=t;rw[Ty.parts];rfl
theorem a0N:∀ts:List Ty,F7 ts=ts.flatMap Ty.parts
 | []=>by rw[F7];rfl
 | t::ts=>by rw[F7,a0N ts];rfl
theorem B5 (t:Ty):t.parts=t::t.kids.flatMap Ty.parts:=by rw[J4,a0N]
theorem b47 (ts:List Ty) (i:Nat) (t:Ty) (h:ts[i]?=some t):t.parts=t.parts/\(ts.take (i+1)).flatMap Ty.parts=(ts.take i).flatMap Ty.parts++t.parts:=by
 obtain⟨hi,e⟩:=d3J.1 h;refine⟨rfl,?_⟩;rw[d4Y hi,e]
 simp
theorem F9 (t:Ty):1<=t.parts.length:=by rw[J4];simp
theorem a53:∀(ts:List Ty),ts.length<=(ts.flatMap Ty.parts).length/\∀x∈ts,x.parts.length<=(ts.flatMap Ty.parts).length
 | []=>by simp
 | u::us=>by
  have ih:=a53 us;have:=F9 u;simp only[d4m,d3K,d3O];refine⟨by omega,λx hx=>?_⟩
  rcases d3R.1 hx with rfl|hx
  ·omega
  ·have:=ih.2 x hx;omega
theorem J7 (t:Ty):t.kids.length<t.parts.length/\∀x∈t.kids,x.parts.length<t.parts.length:=by
 rw[B5,d3O];have:=a53 t.kids;exact⟨by omega,λx hx=>by have:=this.2 x hx;omega⟩
def I9 (op:Int):Option (List Int) :=
 if op=1\/op=2\/op=3\/op=7\/op=8\/op=9\/op=10 then some [] else if op=4 then some [116,116] else if op=5\/op=6 then some [114] else if op=11 then some [116,114] else none
def a6I (isWord:ByteArray->Bool) (t:Ty) (s:Int):Bool :=
 match I9 t.op with
 | none=>false
 | some k=>(decide (8<=t.op) == (s == 114)) && (decide (t.kids.length=k.length) && ((if t.op=11 then isWord t.name else decide (t.name.toList=[])) && (decide (0<=t.n) && (decide (t.op=7\/t.op=10) || decide (t.n=0)))))
mutual
def B6 (isWord:ByteArray->Bool):Ty->Int->Bool
 | .mk op nm n ks,s=>a6I isWord (.mk op nm n ks) s && C5 isWord ks ((I9 op).getD [])
def C5 (isWord:ByteArray->Bool):List Ty->List Int->Bool
 | [],_=>true
 | t::ts,k::ks=>B6 isWord t k && C5 isWord ts ks
 | _::_,[]=>false
end
theorem a6J (iw:ByteArray->Bool) (t:Ty) (s:Int):B6 iw t s=(a6I iw t s && C5 iw t.kids ((I9 t.op).getD [])):=by
 obtain⟨op,nm,n,ks⟩:=t;rw[B6];rfl
mutual
def a3W:Ty->Ty->Bool
 | .mk o m n ks,.mk o' m' n' ks'=>(o == o') && ((m.toList == m'.toList) && ((n == n') && Q7 ks ks'))
def Q7:List Ty->List Ty->Bool
 | [],[]=>true
 | t::ts,u::us=>a3W t u && Q7 ts us
 | _,_=>false
end
theorem b3h {a b:ByteArray}:a.toList=b.toList↔a=b:=by
 constructor
 ·intro h;rw[ByteArray.toList_eq,ByteArray.toList_eq] at h
  apply d6x
  exact Array.toList_inj.1 h
 ·rintro rfl;rfl
mutual
theorem b1U:∀a b:Ty,a3W a b=true↔a=b
 | .mk o m n ks,.mk o' m' n' ks'=>by
  rw[a3W];simp only[d3N,d4H,Ty.mk.injEq,b0g ks ks',b3h]
theorem b0g:∀a b:List Ty,Q7 a b=true↔a=b
 | [],[]=>by rw[Q7];simp
 | t::ts,u::us=>by
  rw[Q7];simp only[d3N,List.cons.injEq,b1U t u,b0g ts us]
 | [],_::_=>by simp[Q7]
 | _::_,[]=>by simp[Q7]
end
def a2t (x y:Ty):Bool:=(x.op == 7) && ((y.op == 10) && (x.n == y.n))
def a2L (t:Ty):Bool:=t.parts.all λx=>t.parts.all λy=>!a2t x y
end Go.Proofs.YtdjnoafijjepcaaGreat
end
section
namespace Go.Proofs.YtdjnoafijjepcaaGreat.Vm
open Go.RowKit
set_option maxRecDepth 100000
set_option maxHeartbeats 4000000
mutual
def cT:Ty->List D
 | .mk op nm n ks=>[.sc (.int .u8 op),.sc (.string nm),.sc (.int .i64 n),.sl 4 (rT ks)]
def rT:List Ty->List (List D)
 | []=>[]
 | t::ts=>cT t::rT ts
end
theorem a4B:∀ts:List Ty,rT ts=ts.map cT
 | []=>by rw[rT];rfl
 | t::ts=>by rw[rT,a4B ts];rfl
theorem M4 (ts:List Ty):(rT ts).length=ts.length:=by rw[a4B,d4g]
theorem a1q {ts:List Ty} {k:Nat} {t:Ty} (h:ts[k]?=some t):(rT ts)[k]?=some (cT t):=by rw[a4B,d4p,h];rfl
def rF (fs:List (ByteArray×Ty)):List (List D):=fs.map λf=>.sc (.string f.1)::cT f.2
theorem a2u (fs:List (ByteArray×Ty)):(rF fs).length=fs.length:=by rw[rF,d4g]
theorem b3i {fs:List (ByteArray×Ty)} {k:Nat} {x:ByteArray×Ty} (h:fs[k]?=some x):(rF fs)[k]?=some (.sc (.string x.1)::cT x.2):=by rw[rF,d4p,h];rfl
theorem m8 (t:Ty):∃c0 c1 c2 c3,cT t=[c0,c1,c2,c3]:=by obtain⟨op,nm,n,ks⟩:=t;exact⟨_,_,_,_,by rw[cT]⟩
section
inductive Tm where
 | mk (op:Int) (name arg:ByteArray) (n:Int) (has:Bool) (ann:Ty) (kids:List Tm)
mutual
def cM:Tm->List D
 | .mk op nm ar n h a ks=>.sc (.int .u8 op)::.sc (.string nm)::.sc (.string ar)::.sc (.int .i64 n)::.sc (.bool h)::(cT a++[.sl 10 (rM ks)])
def rM:List Tm->List (List D)
 | []=>[]
 | t::ts=>cM t::rM ts
end
theorem a5Y:∀l:List Tm,rM l=l.map cM
 | []=>by rw[rM];rfl
 | t::l=>by rw[rM,a5Y l];rfl
theorem a5Z (l:List Tm):(rM l).length=l.length:=by rw[a5Y,d4g]
def rZ (l:List Int):List (List D):=l.map λx=>[.sc (.int .i64 x)]
theorem b0h (l:List Int):(rZ l).length=l.length:=by unfold rZ;rw[d4g]
theorem c8L (a b:List Int):rZ (a++b)=rZ a++rZ b:=by unfold rZ;rw[d45]
abbrev PL:=Tm×List Int
def cP (p:PL):List D:=cM p.1++[.sl 1 (rZ p.2)]
def rP (l:List PL):List (List D):=l.map cP
theorem c24 (l:List PL):(rP l).length=l.length:=by unfold rP;rw[d4g]
theorem c8M {l:List PL} {k:Nat} {p:PL} (h:l[k]?=some p):(rP l)[k]?=some (cP p):=by unfold rP;rw[d4p,h];rfl
theorem a3e (t:Tm):∃d0 d1 d2 d3 d4 d5 d6 d7 d8 d9,cM t=[d0,d1,d2,d3,d4,d5,d6,d7,d8,d9]:=by
 obtain⟨op,nm,ar,n,h,a,ks⟩:=t;obtain⟨x0,x1,x2,x3,hx⟩:=m8 a;exact⟨_,_,_,_,_,x0,x1,x2,x3,_,by rw[cM,hx];rfl⟩
abbrev b99 (op:Int) (nm ar:ByteArray) (n:Int) (h:Bool):List V:=[vi .u8 op,vs nm,vs ar,vi .i64 n,vb h,vi .u8 0,vs ⟨#[]⟩,vi .i64 0,.em,.em]
abbrev b6r (op:Int) (nm ar:ByteArray) (n:Int) (h:Bool) (y0 y1 y2 y3:D):List V:=[vi .u8 op,vs nm,vs ar,vi .i64 n,vb h,.d y0,.d y1,.d y2,.d y3,.em]
section
variable {op n a:Int} {nm ar:ByteArray} {h:Bool} {y0 y1 y2 y3:D}
theorem c8N:y7 53 [.ag (b6r op nm ar n h y0 y1 y2 y3),vi .i64 a] [] (λres os=>res=[.ag (b6r op nm ar n h y0 y1 y2 y3++[.own 0])]/\os=[.row true 3 [[.sc (.int .i64 a)]]]):=by
 refine so9 Tryz.func53 rfl ?_;intros;rename_i hA
 iterate 2 (try cbv;repeat ((first|with_reducible apply j6 hA|refine E2 hA false ?_|refine a3c hA true ?_);cbv))
 try simp (maxSteps:=4000000) only [nc] at *
 exact n7 hA [2] (res':=[.ag (b6r op nm ar n h y0 y1 y2 y3++[.own 0])]) ⟨rfl,rfl,rfl,rfl,rfl,rfl,rfl,rfl⟩ ⟨rfl,rfl⟩
theorem c8O:E8 53 [.ag (b6r op nm ar n h y0 y1 y2 y3),vi .i64 a] [] (λres os=>res=[.ag [vi .u8 op,vs nm,vs ar,vi .i64 n,vb h,.d y0,.d y1,.d y2,.d y3,.d (.sl 0 []),.d (.sl 1 [[.sc (.int .i64 a)]])]]/\os=[]):=by
 refine a2p Tryz.func53 rfl (by kernel_rfl) (by kernel_rfl) (by kernel_rfl) rfl ?_;intros;rename_i hA K hK
 try cbv;refine gr ?_;try simp only[nc] at *
 exact hK _ rfl
end
theorem E8.args {f:Nat} {vs vs':List V} {os:List O} {Q:List V->List O->Prop} (h:E8 f vs os Q) (hv:∀(I:Nat->Nat->Prop) (w:World) (g:Nat->Value) (us:List Value),o7 I w g us vs'->o7 I w g us vs):E8 f vs' os Q :=
 ⟨h.1,λI w g args e3=>h.2 I w g args ⟨e3.im,e3.lt,e3.fr,e3.kp,e3.lo,e3.st,e3.obj,e3.dis,e3.out,hv _ _ _ _ e3.tmp,e3.dfr⟩⟩
theorem a5f {α:Type} {l:List α} {k:Nat} {x:α} (h:l[k]?=some x):l.take (k+1)=l.take k++[x]:=by
 obtain⟨hi,e⟩:=d3J.1 h;rw[d4Y hi,e]
theorem b1V {α β:Type} (f:α->List β) (l:List α) (k:Nat):((l.take k).flatMap f).length<=(l.flatMap f).length:=by
 conv=>rhs;rw[<-d46 k l,d4Q,d3K]
 omega
theorem b48 {α β:Type} (f:α->List β) (l:List α) (k:Nat) (x:α) (h:l[k]?=some x):(f x).length<=(l.flatMap f).length:=by
 have h1:=b1V f l (k+1);rw[a5f h,d4Q,d3K,d4m,d4t,d4d] at h1;omega
def d2U (a:Int) (ks:List PL) (x:Int×List (List D)×List (List D)):Prop:=∃k:Nat,x.1=(k:Int)/\k<=ks.length/\x.2.1=rM ((ks.take k).map λp=>p.1)/\x.2.2=rZ (a::(ks.take k).flatMap λp=>p.2)
theorem c25 (op:Int) (nm ar:ByteArray) (n:Int) (h:Bool) (y0 y1 y2 y3:D) (a:Int) (ks:List PL) (hn:ks.length<=1048576) (hf:(ks.flatMap λp=>p.2).length<=1048576) :
  E8 30 [.ag (b6r op nm ar n h y0 y1 y2 y3),vi .i64 a,.d (.sl 11 (rP ks))] [] (λres os=>res=[.ag [vi .u8 op,vs nm,vs ar,vi .i64 n,vb h,.d y0,.d y1,.d y2,.d y3,.d (.sl 10 (rM (ks.map λp=>p.1))),.d (.sl 1 (rZ (a::ks.flatMap λp=>p.2)))]]/\os=[]):=by
 have hl:=c8N (op:=op) (nm:=nm) (ar:=ar) (n:=n) (h:=h) (a:=a) (y0:=y0) (y1:=y1) (y2:=y2) (y3:=y3);obtain⟨N,hN⟩:∃N,N=ks.length:=⟨_,rfl⟩;rw[<-hN] at hn;have hft:=λk=>b1V (λp:PL=>p.2) ks k
 have hfo:=λk q h=>b48 (λp:PL=>p.2) ks k q h
 obtain⟨F,hF⟩:∃F,F=(ks.flatMap λp=>p.2).length:=⟨_,rfl⟩;rw[<-hF] at hf;simp only[<-hF] at hft hfo;obtain⟨R0,hK0⟩:∃R0,R0=rP ks:=⟨_,rfl⟩;rw[<-hK0];have hlen:R0.length=N:=by rw[hK0,c24,hN]
 obtain⟨X,hX⟩:∃X,X=rM (ks.map λp=>p.1):=⟨_,rfl⟩;obtain⟨Y,hY⟩:∃Y,Y=rZ (a::ks.flatMap λp=>p.2):=⟨_,rfl⟩;rw[<-hX,<-hY];refine a2p Tryz.func30 rfl (by kernel_rfl) (by kernel_rfl) (by kernel_rfl) rfl ?_;intro qa qb _ _ _ _ _ qi _ _ _ _ _ _ _ _ _ _ _ _ _ _ va vc _ ve;intros;rename_i hA K hK;obtain⟨e1,e2,e3,e4,e5,e6,e7,e8,e9⟩:=m6 hA;obtain⟨r1,r2,r3,r4⟩:=B3 hA
 iterate 2 (try cbv;repeat ((first|refine a7B hA 4 9 30 true rfl rfl ?_|with_reducible apply j6 hA|(refine A1 hA [] hl ⟨rfl,rfl,rfl,rfl,rfl,rfl,rfl⟩ ?_;rintro _ _ ⟨rfl,rfl⟩));cbv))
 try simp (maxSteps:=4000000) only [nc] at *
 obtain⟨inv,hi⟩:∃inv,inv=d2U a ks:=⟨_,rfl⟩;have hi0:inv (0,[],[[.sc (.int .i64 a)]]):=by rw[hi];exact⟨0,rfl,d4o _,by rw[d6t,d47,rM],rfl⟩
 refine n9 hA (γ:=Int×List (List D)×List (List D)) (λx=>[(12,.jk),(15,vi .i64 x.1)]) (λx=>[(0,.kl [3,5]),(3,.row true 3 x.2.2),(5,.row true 30 x.2.1)]) inv (λx=>N - x.1.toNat) (0,[],[[.sc (.int .i64 a)]]) hi0 ?_ ?_
 ·cbv
 ·intro x hinv;obtain⟨z,KL,AL⟩:=x;cbv;refine gn ?_;try simp only[nc] at *
  rw[hi] at hinv;obtain⟨k,hz,hk,hKL,hAL⟩:=hinv;replace hz:z=(k:Int):=hz;replace hKL:KL=rM ((ks.take k).map λp=>p.1):=hKL;replace hAL:AL=rZ (a::(ks.take k).flatMap λp=>p.2):=hAL;have hkl:KL.length=k:=by rw[hKL,a5Z,d4g,d4n];omega
  have hal:AL.length<=1048577:=by rw[hAL,b0h,d3O];have:=hft k;omega
  have hlt:qi z (va R0)=decide (k<N):=by rw[e7,r1,hlen,hz];exact d3X.2 (by omega)
  by_cases h9:k<N
  ·rw[d3S h9] at hlt;obtain⟨q,hq⟩:∃q,ks[k]?=some q:=⟨_,d3H (by omega)⟩;obtain⟨d0,d1,d2,d3,d4,d5,d6,d7,d8,d9,hd⟩:=a3e q.1;have gx:vc R0 z=some [d0,d1,d2,d3,d4,d5,d6,d7,d8,d9,.sl 1 (rZ q.2)]:=by rw[r2,hz,d3I (by omega),show ((k:Int)).toNat=k by omega,hK0,c8M hq];unfold cP;rw[hd];rfl
   have hz1:qa .i64 (qb z 1)=((k+1:Nat):Int):=by rw[e1,e2,hz,IntWalk.i64_in _ (by omega)];omega
   have hmu:N - (qa .i64 (qb z 1)).toNat<N - z.toNat:=by rw[hz1,hz];omega
   have hin:inv (qa .i64 (qb z 1),KL++[[d0,d1,d2,d3,d4,d5,d6,d7,d8,d9]],AL++rZ q.2):=by
    rw[hi];refine⟨k+1,hz1,by omega,?_,?_⟩
    ·show KL++_=_;rw[hKL,a5Y,a5Y,<-hd,a5f hq]
     simp
    ·show AL++_=_;rw[hAL,<-c8L,a5f hq]
     simp
   have hq2:(rZ q.2).length<=1048576:=by rw[b0h];have:=hfo k q hq;omega
   generalize rZ q.2=Q at *;have q1:ve KL [[d0,d1,d2,d3,d4,d5,d6,d7,d8,d9]]=KL++[[d0,d1,d2,d3,d4,d5,d6,d7,d8,d9]]:=by rw[r4]
   have q2:ve AL Q=AL++Q:=by rw[r4]
   rw[hlt]
   iterate 2 (try cbv;repeat ((first|with_reducible apply j6 hA|rw[gx]|rw[q1]|rw[q2]|refine E2 hA true ?_|(refine F3 hA (by simp only[d3O,d3Y];omega) ?_)|refine F3 hA (by omega) ?_);cbv))
   try simp (maxSteps:=4000000) only [nc] at *
   refine⟨_,hin,hmu,?_⟩;cbv
  ·rw[d3P h9] at hlt;have hk2:ks.take k=ks:=d4z (by omega);have hX2:X=KL:=by rw[hX,hKL,hk2]
   have hY2:Y=AL:=by rw[hY,hAL,hk2]
   rw[hX2,hY2] at hK;rw[hlt]
   try cbv;refine gr ?_;try simp only[nc] at *
   exact hK _ rfl
end
section
abbrev ST:=Int×Int×Int
abbrev eyT (T:List (List D)) (s:ST):List O:=eyZ s.1 s.2.1 T s.2.2
abbrev F4 (f:Nat) (vs:List V) (T:List (List D)) (s:ST) (r:List V) (s1:ST):Prop:=y7 f (.ptr 0 0::vs) (eyT T s) (λres os=>res=r/\os=eyT T s1)
abbrev cE (x:Nat->D):List D:=[x 0,x 1,x 2,x 3,x 4,x 5,x 6,x 7,x 8,x 9,x 10]
abbrev c4 (x:Nat->D):List D:=[x 0,x 1,x 2,x 3]
theorem F5 (p:PL):∃x,cP p=cE x:=by
 obtain⟨d0,d1,d2,d3,d4,d5,d6,d7,d8,d9,h⟩:=a3e p.1;exact⟨λi=>match i with|0=>d0|1=>d1|2=>d2|3=>d3|4=>d4|5=>d5|6=>d6|7=>d7|8=>d8|9=>d9|_=>.sl 1 (rZ p.2),by unfold cP;rw[h];rfl⟩
theorem b49 (t:Ty):∃x,cT t=c4 x:=by
 obtain⟨d0,d1,d2,d3,h⟩:=m8 t;exact⟨λi=>match i with|0=>d0|1=>d1|2=>d2|_=>d3,h⟩
theorem E8.o {f:Nat} {vs:List V} {os:List O} {Q:List V->List O->Prop} (h:E8 f vs os Q):y7 f vs os Q :=
 ⟨h.1,λI w g args hr=>(h.2 I w g args hr).mono λe w' ⟨us,res,os2,I',g',e1,⟨e2,_⟩,e3⟩=>⟨us,res,os2,I',g',e1,e2,e3⟩⟩
section
variable {T:List (List D)} {s s1 s2:ST} {L:Int}
theorem c5B (h1:F4 13 [] T s [vb true] s) (hL:L<=200):F4 24 [vi .i64 L] T s [vb false] s:=by
 obtain⟨_,_,_⟩:=s;refine so9 Tryz.func24 rfl ?_;intro _ _ _ _ _ _ _ qi _ _ _ _ _ _ _ _ _ _ _ _ _ _ _ _ _ _ _ _ _ _ _ _ _ _ _ _ _ _ _ _ _ vx;intros;rename_i hA;obtain⟨e1,e2,e3,e4,e5,e6,e7,e8,e9⟩:=m6 hA;have q:qi 200 L=false:=by rw[e7];exact d3P (by omega)
 have q0:=q;have p0:=h1;exact fin
theorem c26 (h1:F4 13 [] T s [vb false] s):F4 24 [vi .i64 L] T s [vb true] s:=by
 obtain⟨_,_,_⟩:=s;refine so9 Tryz.func24 rfl ?_;intro _ _ _ _ _ _ _ _ _ _ _ _ _ _ _ _ _ _ _ _ _ _ _ _ _ _ _ _ _ _ _ _ _ _ _ _ _ _ _ _ _ vx;intros;rename_i hA;have p0:=h1;exact fin
theorem c27 (h1:F4 13 [] T s [vb true] s) (h2:F4 15 [vi .u8 6] T s [.ag pz0] s1) (h3:F4 13 [] T s1 [vb false] s1) (hL:200<L):F4 24 [vi .i64 L] T s [vb true] s1:=by
 obtain⟨_,_,_⟩:=s;obtain⟨_,_,_⟩:=s1;unfold pz0 at h2;refine so9 Tryz.func24 rfl ?_;intro _ _ _ _ _ _ _ qi _ _ _ _ _ _ _ _ _ _ _ _ _ _ _ _ _ _ _ _ _ _ _ _ _ _ _ _ _ _ _ _ _ vx;intros;rename_i hA;obtain⟨e1,e2,e3,e4,e5,e6,e7,e8,e9⟩:=m6 hA;have q:qi 200 L=true:=by rw[e7];exact d3S (by omega)
 have q0:=q;have p0:=h1;have p1:=h2;have p2:=h3;exact fin
end
end
section
def stP (ts:List Tok) (p:PE):ST:=(p.2,if p.2=0 then 0 else (r9 ts p.1).at_,(p.1:Int))
theorem c8P (ts:List Tok) (a:Nat):stP ts (a,0)=(0,0,(a:Int)):=rfl
theorem b0i (ts:List Tok) (a:Nat) (c:Int) (h:c≠0):stP ts (a,c)=(c,(r9 ts a).at_,(a:Int)):=by unfold stP;rw[d3G h]
def j7 (ts:List Tok) (p:PE):ByteArray×PE:=if p.2=0/\(r9 ts p.1).kind=1 then ((r9 ts p.1).text,(p.1+1,0)) else (N9,F6 5 p)
def w9 (ts:List Tok):List ByteArray->PE->Option ByteArray
 | [],_=>none
 | s::l,p=>if B1 ts s p=true then some s else w9 ts l p
def a2M (ts:List Tok) (l:List ByteArray) (p:PE):PE:=match w9 ts l p with|some _=>(p.1+1,0)|none=>p
def M5 (n:Nat) (p:PE):PE:=if n=0 then F6 6 p else p
abbrev N2 (f:Nat) (vs:List V) (ts:List Tok) (p:PE) (r:List V) (q:PE):Prop:=F4 f vs (P6 ts) (stP ts p) r (stP ts q)
section
variable {ts:List Tok} (hl:ts.length<=1048576) {p:PE} (hp:p.1<ts.length)
include hl hp
theorem okP:N2 13 [] ts p [vb (p.2 == 0)] p:=by
 obtain⟨a,c⟩:=p
 by_cases h:c=0
 ·subst h;exact(d2S (P6 ts) 0 (a:Int)).o
 ·unfold N2;rw[b0i ts a c h,show (((a,c):PE).2 == 0)=false from d3T h];exact(d2T (P6 ts) c (r9 ts a).at_ (a:Int) h).o
theorem a54:N2 25 [] ts p [vi .i64 (r9 ts p.1).at_] p:=(d1g hl hp _ _).o
theorem b6s (c:Int) (hc:c≠0):N2 15 [vi .u8 c] ts p [.ag pz0] (F6 c p):=by
 obtain⟨a,e⟩:=p;unfold F6
 by_cases h:e=0
 ·subst h;rw[d3G (λh=>h rfl)];unfold N2;rw[b0i ts a c hc];exact b0f ts (r9 ts a) a (W5 hp) hl c
 ·rw[d3I h];unfold N2;rw[b0i ts a e h];exact b1T (P6 ts) e (r9 ts a).at_ (a:Int) c h
theorem P7 (s:ByteArray):N2 29 [vs s] ts p [] (l6 ts s p):=by
 obtain⟨a,e⟩:=p;unfold l6
 by_cases h:e=0
 ·subst h;rw[d3G (λh=>h rfl)];unfold N2
  by_cases hg:Z5 (r9 ts a) s=true
  ·rw[d3I hg];exact d2M hl hp hg
  ·rw[d3G hg,b0i ts _ 5 (by decide)];exact d2N hl hp (by simpa using hg)
 ·rw[d3I h];unfold N2;rw[b0i ts a e h];exact d2Q (P6 ts) s e (r9 ts a).at_ (a:Int) h
theorem a1S:N2 28 [] ts p [vs (j7 ts p).1] (j7 ts p).2:=by
 obtain⟨a,e⟩:=p;unfold j7 F6
 by_cases h:e=0
 ·subst h;unfold N2
  by_cases hg:(r9 ts a).kind=1
  ·rw[d3I ⟨rfl,hg⟩];exact d2O hl hp hg
  ·rw[d3G (λh=>hg h.2),d3G (λh=>h rfl),b0i ts _ 5 (by decide)];exact d2P hl hp hg
 ·rw[d3G (λhh=>h hh.1),d3I h];unfold N2;rw[b0i ts a e h];exact d2R (P6 ts) e (r9 ts a).at_ (a:Int) h
end
section
variable {T:List (List D)} {s s1:ST} {x:ByteArray}
theorem b9A (h1:F4 13 [] T s [vb false] s):F4 26 [vs x] T s [vb false] s:=by
 obtain⟨_,_,_⟩:=s;refine so9 Tryz.func26 rfl ?_;intro _ _ _ _ _ _ _ _ _ _ _ _ _ _ _ _ _ _ _ _ _ _ _ _ _ _ _ _ _ _ _ _ _ _ _ _ _ _ _ _ _ vx;intros;rename_i hA;have p0:=h1;exact fin
theorem b4A {b:Bool} {e q a a1:Int} (h1:F4 13 [] T (e,q,a) [vb true] (e,q,a)) (h2:y7 49 [.ptr 0 0,vs x] [.box [.d (.sl 4 T),vi .i64 a]] (λres os=>res=[vb b]/\os=[.box [.d (.sl 4 T),vi .i64 a1]])):F4 26 [vs x] T (e,q,a) [vb b] (e,q,a1):=by
 refine so9 Tryz.func26 rfl ?_;intros;rename_i hA
 iterate 2 (try cbv;repeat ((first|with_reducible apply j6 hA|refine B8 hA [0,1] h1 ?_|refine B8 hA [1] h2 ?_);cbv))
 try simp (maxSteps:=4000000) only [nc] at *
 exact n7 hA [0,1] ⟨rfl,rfl,rfl,rfl,rfl,rfl,rfl,rfl⟩ ⟨rfl,rfl⟩
end
section
variable {ts:List Tok} (hl:ts.length<=1048576) {p:PE} (hp:p.1<ts.length)
include hl hp
theorem a1a (s:ByteArray):N2 26 [vs s] ts p [vb (B1 ts s p)] (skP ts s p):=by
 have h1:=okP hl hp;obtain⟨a,e⟩:=p;unfold skP B1
 by_cases h:e=0
 ·subst h;have h2:=b3c ts (r9 ts a) a (W5 hp) hl s;unfold rdB at h2;unfold N2 at h1 ⊢;rw[show (((a,(0:Int)):PE).2 == 0)=true from rfl] at h1 ⊢;rw[d59]
  by_cases hg:Z5 (r9 ts a) s=true
  ·rw[d3I hg] at h2 ⊢;exact b4A h1 h2
  ·rw[d3G hg] at h2 ⊢;exact b4A h1 h2
 ·unfold N2 at h1 ⊢;rw[show (((a,e):PE).2 == 0)=false from d3T h] at h1 ⊢;rw[d56,d3G (by decide)];exact b9A h1
theorem b3j {n:Nat} {L:Int} (hn:n=0/\200<L\/n≠0/\L<=200):N2 24 [vi .i64 L] ts p [vb (!((M5 n p).2 == 0))] (M5 n p):=by
 have h1:=okP hl hp;have h2:=b6s hl hp 6 (by decide);have h3:=okP hl (p:=F6 6 p) (by rw[(C8 6 (by decide) p).1];exact hp);have h6:=(C8 6 (by decide) p).2;unfold M5;unfold N2 at h1 h2 h3 ⊢
 by_cases h:p.2=0
 ·rw[show (p.2 == 0)=true by rw[h];rfl] at h1
  rcases hn with⟨hn,hL⟩|⟨hn,hL⟩
  ·rw[d3I hn];rw[d3T h6] at h3 ⊢;exact c27 h1 h2 h3 hL
  ·rw[d3G hn,show (p.2 == 0)=true by rw[h];rfl];exact c5B h1 hL
 ·rw[d3T h] at h1
  have e:(if n=0 then F6 6 p else p)=p:=by
   split
   ·unfold F6;rw[d3I h]
   ·rfl
  rw[e,d3T h];exact c26 h1
end
def rSt (l:List ByteArray):List (List D):=l.map λs=>[.sc (.string s)]
end
end Go.Proofs.YtdjnoafijjepcaaGreat.Vm
end
section
namespace Go.Proofs.YtdjnoafijjepcaaGreat
open Go.RowKit
set_option maxRecDepth 100000
set_option maxHeartbeats 4000000
section
section
variable {α:Type}
structure Swo (lt:α->α->Bool):Prop where
 irr:∀x,lt x x=false
 tra:∀x y z,lt x y=true->lt y z=true->lt x z=true
 neg:∀x y z,lt x y=false->lt y z=false->lt x z=false
variable {lt:α->α->Bool}
def eqv (lt:α->α->Bool) (x y:α):Bool:=!lt x y && !lt y x
def Srt (lt:α->α->Bool) (l:List α):Prop:=l.Pairwise λx y=>lt y x=false
def Sta (lt:α->α->Bool) (l m:List α):Prop:=∀x,l.filter (eqv lt x)=m.filter (eqv lt x)
theorem Sta.refl (l:List α):Sta lt l l:=λ_=>rfl
theorem Sta.symm {l m:List α} (h:Sta lt l m):Sta lt m l:=λx=>(h x).symm
theorem Sta.trans {l m n:List α} (h:Sta lt l m) (k:Sta lt m n):Sta lt l n:=λx=>(h x).trans (k x)
theorem Sta.append {l m l' m':List α} (h:Sta lt l l') (k:Sta lt m m'):Sta lt (l++m) (l'++m'):=λx=>by rw[d5T,d5T,h x,k x]
theorem b4B (h:Swo lt) (x:α):eqv lt x x=true:=by unfold eqv;rw[h.irr];rfl
theorem Sta.mem (h:Swo lt) {l m:List α} (s:Sta lt l m) {x:α} (hx:x∈l):x∈m:=by
 have:x∈l.filter (eqv lt x):=d5y.2 ⟨hx,b4B h x⟩;rw[s x] at this;exact(d5y.1 this).1
theorem Sta.swap (h:Swo lt) {u v:List α} (huv:∀x∈u,∀y∈v,lt y x=true):Sta lt (u++v) (v++u):=λz=>by
 rw[d5T,d5T]
 by_cases hu:u.filter (eqv lt z)=[]
 ·rw[hu];simp
 ·by_cases hv:v.filter (eqv lt z)=[]
  ·rw[hv];simp
  ·exfalso;obtain⟨x,hx⟩:=List.exists_mem_of_ne_nil _ hu;obtain⟨y,hy⟩:=List.exists_mem_of_ne_nil _ hv;obtain⟨hx1,hx2⟩:=d5y.1 hx;obtain⟨hy1,hy2⟩:=d5y.1 hy;have h1:=huv x hx1 y hy1;unfold eqv at hx2 hy2;simp only[d3N,d5W] at hx2 hy2;have:=h.neg y z x hy2.2 hx2.1;rw[h1] at this;cases this
theorem b0j (h:Swo lt):∀ {l m:List α},Srt lt l->Srt lt m->Sta lt l m->l=m
 | [],m,_,_,s=>by
  cases m with
  | nil=>rfl
  | cons y m=>exact absurd (s.symm.mem h (d3L ..)) (by simp)
 | x::l,[],_,_,s=>absurd (s.mem h (d3L ..)) (by simp)
 | x::l,y::m,hl,hm,s=>by
  have hxm:=s.mem h (d3L (a:=x) (l:=l));have hyl:=s.symm.mem h (d3L (a:=y) (l:=m))
  have hlx:∀z∈x::l,lt z x=false:=λz hz=>by
   rcases d3R.1 hz with rfl|hz
   ·exact h.irr _
   ·exact(d4C.1 hl).1 z hz
  have hmy:∀z∈y::m,lt z y=false:=λz hz=>by
   rcases d3R.1 hz with rfl|hz
   ·exact h.irr _
   ·exact(d4C.1 hm).1 z hz
  have e1:eqv lt x y=true:=by unfold eqv;rw[hmy x hxm,hlx y hyl];rfl
  have s1:=s x;rw[d5J,d5J,b4B h x,e1] at s1;simp only[d5R] at s1;injection s1 with s1 s2;subst s1
  congr 1
  refine b0j h (d4C.1 hl).2 (d4C.1 hm).2 λz=>?_
  have sz:=s z;rw[d5J,d5J] at sz
  by_cases hz:eqv lt z x=true
  ·rw[d3I hz,d3I hz] at sz;injection sz
  ·rw[d3G hz,d3G hz] at sz;exact sz
def a02 (lt:α->α->Bool) (x:α):List α->List α
 | []=>[x]
 | y::l=>if lt x y=true then x::y::l else y::a02 lt x l
def r7 (lt:α->α->Bool) (l:List α):List α:=l.foldl (λacc x=>a02 lt x acc) []
theorem b8e (h:Swo lt) (x:α):∀l:List α,Srt lt l->Sta lt (a02 lt x l) (l++[x])
 | [],_=>.refl _
 | y::l,hl=>by
  unfold a02
  by_cases hx:lt x y=true
  ·rw[d3I hx]
   have:Sta lt ([x]++(y::l)) ((y::l)++[x]):=(Sta.swap h (u:=y::l) (v:=[x]) λz hz w hw=>by
    simp at hw
    subst hw
    rcases d3R.1 hz with rfl|hz
    ·exact hx
    ·have h1:=(d4C.1 hl).1 z hz;cases hwz:lt w z
     ·have:=h.neg w z y hwz h1;rw[hx] at this;cases this
     ·rfl).symm
   exact this
  ·rw[d3G hx];exact Sta.append (.refl [y]) (b8e h x l (d4C.1 hl).2)
theorem b3k (x:α):∀(l:List α) (z:α),z∈a02 lt x l->z=x\/z∈l
 | [],z,hz=>by simp[a02] at hz;exact .inl hz
 | y::l,z,hz=>by
  unfold a02 at hz
  split at hz
  ·rcases d3R.1 hz with h|h
   ·exact .inl h
   ·exact .inr h
  ·rcases d3R.1 hz with h|h
   ·exact .inr (by rw[h];exact d3L ..)
   ·rcases b3k x l z h with h|h
    ·exact .inl h
    ·exact .inr (d3M _ h)
theorem b8f (h:Swo lt) (x:α):∀l:List α,Srt lt l->Srt lt (a02 lt x l)
 | [],_=>by unfold a02 Srt;simp
 | y::l,hl=>by
  obtain⟨h1,h2⟩:=d4C.1 hl;unfold a02
  by_cases hx:lt x y=true
  ·rw[d3I hx];refine d4C.2 ⟨λz hz=>?_,hl⟩
   have hyx:lt y x=false:=by
    cases hyx:lt y x
    ·rfl
    ·have:=h.tra x y x hx hyx;rw[h.irr] at this;cases this
   rcases d3R.1 hz with rfl|hz
   ·exact hyx
   ·exact h.neg z y x (h1 z hz) hyx
  ·rw[d3G hx];refine d4C.2 ⟨λz hz=>?_,b8f h x l h2⟩
   rcases b3k x l z hz with rfl|hz
   ·simpa using hx
   ·exact h1 z hz
theorem b3l (h:Swo lt):∀(l acc:List α),Srt lt acc->Srt lt (l.foldl (λacc x=>a02 lt x acc) acc)/\Sta lt (l.foldl (λacc x=>a02 lt x acc) acc) (acc++l)
 | [],acc,ha=>⟨ha,by rw[d4d];exact .refl _⟩
 | x::l,acc,ha=>by
  obtain⟨h1,h2⟩:=b3l h l (a02 lt x acc) (b8f h x acc ha);refine⟨h1,h2.trans ?_⟩;have:=Sta.append (b8e h x acc ha) (.refl (lt:=lt) l)
  rwa [d4q] at this
theorem a1E (h:Swo lt) (l:List α):Srt lt (r7 lt l):=(b3l h l [] List.Pairwise.nil).1
theorem a1F (h:Swo lt) (l:List α):Sta lt (r7 lt l) l:=(b3l h l [] List.Pairwise.nil).2
theorem b8g (h:Swo lt) {l m:List α} (hs:Srt lt m) (ht:Sta lt m l):m=r7 lt l:=b0j h hs (a1E h l) (ht.trans (a1F h l).symm)
theorem K3 {l m:List α}:Srt lt (l++m)↔Srt lt l/\Srt lt m/\∀x∈l,∀y∈m,lt y x=false:=d6m
theorem b0k (h:Swo lt) {x y:α} (hxy:lt x y=true):lt y x=false:=by
 cases hyx:lt y x
 ·rfl
 ·have:=h.tra x y x hxy hyx;rw[h.irr] at this;cases this
theorem a4C (h:Swo lt) {x y z:α} (hxy:lt x y=true) (hyz:lt z y=false):lt x z=true:=by
 cases hxz:lt x z
 ·have:=h.neg x z y hxz hyz;rw[hxy] at this;cases this
 ·rfl
theorem a4D (h:Swo lt) {x y z:α} (hxy:lt y x=false) (hyz:lt y z=true):lt x z=true:=by
 cases hxz:lt x z
 ·have:=h.neg y x z hxy hxz;rw[hyz] at this;cases this
 ·rfl
theorem b3m (h:Swo lt) {x:α} {v1 v2:List α} (hs:Srt lt (v1++v2)) (h1:∀y∈v1,lt y x=true) (h2:∀y∈v2,lt y x=false) :
  Srt lt (v1++(x::v2))/\Sta lt (v1++(x::v2)) (x::(v1++v2)):=by
 obtain⟨s1,s2,s3⟩:=K3.1 hs;refine⟨K3.2 ⟨s1,d4C.2 ⟨h2,s2⟩,λy hy z hz=>?_⟩,?_⟩
 ·rcases d3R.1 hz with rfl|hz
  ·exact b0k h (h1 y hy)
  ·exact s3 y hy z hz
 ·have:=Sta.append (Sta.swap h (u:=[x]) (v:=v1) λz hz y hy=>by simp at hz;subst hz;exact h1 y hy) (.refl (lt:=lt) v2)
  simpa using this.symm
theorem a55 (h:Swo lt) {x:α} {u1 u2:List α} (hs:Srt lt (u1++u2)) (h1:∀y∈u1,lt x y=false) (h2:∀y∈u2,lt x y=true) :
  Srt lt (u1++(x::u2))/\Sta lt (u1++(x::u2)) ((u1++u2)++[x]):=by
 obtain⟨s1,s2,s3⟩:=K3.1 hs;refine⟨K3.2 ⟨s1,d4C.2 ⟨λy hy=>b0k h (h2 y hy),s2⟩,λy hy z hz=>?_⟩,?_⟩
 ·rcases d3R.1 hz with rfl|hz
  ·exact h1 y hy
  ·exact s3 y hy z hz
 ·have:=Sta.append (.refl (lt:=lt) u1) (Sta.swap h (u:=u2) (v:=[x]) λz hz y hy=>by simp at hy;subst hy;exact h2 z hz)
  simpa using this.symm
theorem b3n (h:Swo lt) {L1 L2 u v P R:List α} (hl:Srt lt (L1++u)) (hr:Srt lt (v++L2)) (huv:∀x∈u,∀y∈v,lt y x=true) (hL:∀x∈L1,∀y∈L2,lt y x=false)
  (hP:Srt lt P) (sP:Sta lt P (L1++v)) (hR:Srt lt R) (sR:Sta lt R (u++L2)):Srt lt (P++R)/\Sta lt (P++R) ((L1++u)++(v++L2)):=by
 obtain⟨a1,a2,a3⟩:=K3.1 hl;obtain⟨b1,b2,b3⟩:=K3.1 hr;refine⟨K3.2 ⟨hP,hR,λx hx y hy=>?_⟩,?_⟩
 ·have hx':=sP.mem h hx;have hy':=sR.mem h hy
  rcases d4s.1 hx' with hx'|hx' <;> rcases d4s.1 hy' with hy'|hy'
  ·exact a3 x hx' y hy'
  ·exact hL x hx' y hy'
  ·exact b0k h (huv y hy' x hx')
  ·exact b3 x hx' y hy'
 ·have s1:=(sP.append sR)
  have s2:Sta lt ((L1++v)++(u++L2)) ((L1++u)++(v++L2)):=by
   have:=Sta.append (Sta.append (.refl (lt:=lt) L1) (Sta.swap h huv).symm) (.refl (lt:=lt) L2)
   simpa using this
  exact s1.trans s2
end
end
end Go.Proofs.YtdjnoafijjepcaaGreat
end
section
namespace Go.Proofs.YtdjnoafijjepcaaGreat.Vm
open Go.RowKit
set_option maxRecDepth 100000
set_option maxHeartbeats 4000000
def a0E (fs:List (ByteArray×Ty)) (tail:Ty):Ty:=fs.foldr (λf r=>.mk 11 f.1 0 [f.2,r]) tail
def a03:Ty->Prop
 | .mk op _ _ [_,r]=>op=11->a03 r
 | .mk op _ _ _=>op≠11
def A4:Ty->List (ByteArray×Ty)
 | .mk op nm _ [x,r]=>if op=11 then (nm,x)::A4 r else []
 | _=>[]
def N4:Ty->Ty
 | .mk op nm n [x,r]=>if op=11 then N4 r else .mk op nm n [x,r]
 | t=>t
theorem a1s:∀ {t:Ty},t.op≠11->A4 t=[]/\N4 t=t
 | .mk op nm n [],_=>⟨rfl,rfl⟩
 | .mk op nm n [x],_=>⟨rfl,rfl⟩
 | .mk op nm n [x,r],h=>by
  have h':op≠11:=h;unfold A4 N4;rw[d3G h',d3G h'];exact⟨rfl,rfl⟩
 | .mk op nm n (x::y::z::l),_=>⟨rfl,rfl⟩
theorem a1G:∀ {t:Ty},a03 t->t.op=11->∃a b,t.kids=[a,b]/\a03 b/\A4 t=(t.name,a)::A4 b/\N4 t=N4 b
 | .mk op nm n [],h,h'=>absurd h' h
 | .mk op nm n [x],h,h'=>absurd h' h
 | .mk op nm n [x,r],h,h'=>by
  have e:op=11:=h';subst e;refine⟨x,r,rfl,h rfl,?_,?_⟩
  ·conv=>lhs;unfold A4
   rw[d3I rfl];rfl
  ·conv=>lhs;unfold N4
   rw[d3I rfl]
 | .mk op nm n (x::y::z::l),h,h'=>absurd h' h
def ltF (a b:ByteArray×Ty):Bool:=Op.bytesLess a.1.toList b.1.toList
theorem b9B (ds:List (ByteArray×Ty)) (d:ByteArray×Ty):r7 ltF (ds++[d])=a02 ltF d (r7 ltF ds):=by
 unfold r7;rw[List.foldl_append];rfl
theorem b8h {α:Type} {lt:α->α->Bool} (x:α):∀l:List α,(a02 lt x l).length=l.length+1
 | []=>rfl
 | y::l=>by
  unfold a02
  split
  ·rfl
  ·simp[b8h x l]
def atS:List Int->Int->Nat->Int
 | [],_,_=>-1
 | y::l,x,k=>if y=x then k else atS l x (k+1)
theorem b4C:∀(l:List Int) (x:Int) (k:Nat),x∉l->atS l x k=-1
 | [],_,_,_=>rfl
 | y::l,x,k,h=>by
  rw[atS,d3G (λe=>h (by rw[e];exact d3L ..)),b4C l x (k+1) (λhm=>h (d3M _ hm))]
theorem b8i:∀(l:List Int) (x:Int) (k:Nat),x∈l->0<=atS l x k
 | [],_,_,h=>by simp at h
 | y::l,x,k,h=>by
  rw[atS]
  split
  ·omega
  ·rename_i hne
   rcases d3R.1 h with rfl|h
   ·exact absurd rfl hne
   ·exact b8i l x (k+1) h
def a4E:Nat->Ty->Ty
 | 0,t=>t
 | m+1,t=>if t.op=11 then a0E ((r7 ltF (A4 t)).map λf=>(f.1,a4E m f.2)) (N4 t) else .mk t.op t.name t.n (t.kids.map (a4E m))
def y9 (t:Ty):Ty:=a4E t.parts.length t
theorem a0d:∀(n:Nat) (t:Ty),t.parts.length<=n->∀f∈A4 t,f.2.parts.length<t.parts.length:=by
 intro n
 induction n with
 | zero=>intro t h;have:=F9 t;omega
 | succ n ih =>
  intro t h f hf;obtain⟨op,nm,k,ks⟩:=t
  match ks,hf with
  | [],hf=>simp[A4] at hf
  | [x],hf=>simp[A4] at hf
  | x::y::z::l,hf=>simp[A4] at hf
  | [x,r],hf =>
   have hk:=J7 (.mk op nm k [x,r]);have hx:=hk.2 x (by simp[Ty.kids]);have hr:=hk.2 r (by simp[Ty.kids]);unfold A4 at hf
   by_cases h11:op=11
   ·rw[d3I h11] at hf
    rcases d3R.1 hf with rfl|hf
    ·exact hx
    ·have:=ih r (by omega) f hf;omega
   ·rw[d3G h11] at hf;simp at hf
theorem b4D {α:Type} {lt:α->α->Bool}:∀(l acc:List α) (z:α),z∈l.foldl (λacc x=>a02 lt x acc) acc->z∈acc\/z∈l
 | [],acc,z,h=>.inl h
 | x::l,acc,z,h=>by
  rcases b4D l (a02 lt x acc) z h with h|h
  ·rcases b3k x acc z h with rfl|h
   ·exact .inr (d3L ..)
   ·exact .inl h
  ·exact .inr (d3M _ h)
theorem T4 {α:Type} {lt:α->α->Bool} {l:List α} {z:α} (h:z∈r7 lt l):z∈l:=by
 rcases b4D l [] z h with h|h
 ·simp at h
 ·exact h
theorem b0l:∀(n m:Nat) (t:Ty),t.parts.length<=n->t.parts.length<=m->a4E n t=a4E m t:=by
 intro n
 induction n with
 | zero=>intro m t h;have:=F9 t;omega
 | succ n ih =>
  intro m t h h';obtain⟨m,rfl⟩:∃k,m=k+1:=⟨m - 1,by have:=F9 t;omega⟩;unfold a4E
  by_cases h11:t.op=11
  ·rw[d3I h11,d3I h11]
   congr 1
   apply d5s
   intro f hf;have:=a0d _ t (d3Q _) f (T4 hf);rw[ih m f.2 (by omega) (by omega)]
  ·rw[d3G h11,d3G h11]
   congr 1
   apply d5s
   intro x hx;have:=(J7 t).2 x hx;exact ih m x (by omega) (by omega)
theorem a36 {t:Ty} (h:t.op=11):y9 t=a0E ((r7 ltF (A4 t)).map λf=>(f.1,y9 f.2)) (N4 t):=by
 unfold y9;obtain⟨m,hm⟩:∃m,t.parts.length=m+1:=⟨t.parts.length - 1,by have:=F9 t;omega⟩;rw[hm]
 conv=>lhs;unfold a4E
 rw[d3I h]
 congr 1
 apply d5s
 intro f hf;have:=a0d _ t (d3Q _) f (T4 hf);rw[b0l m f.2.parts.length f.2 (by omega) (d3Q _)]
theorem a1t {t:Ty} (h:t.op≠11):y9 t=.mk t.op t.name t.n (t.kids.map y9):=by
 unfold y9;obtain⟨m,hm⟩:∃m,t.parts.length=m+1:=⟨t.parts.length - 1,by have:=F9 t;omega⟩;rw[hm]
 conv=>lhs;unfold a4E
 rw[d3G h]
 congr 1
 apply d5s
 intro x hx;have:=(J7 t).2 x hx;exact b0l m x.parts.length x (by omega) (d3Q _)
theorem a3X:∀(n:Nat) (t:Ty),t.parts.length<=n->∀f∈A4 t,f.2∈t.parts:=by
 intro n
 induction n with
 | zero=>intro t h;have:=F9 t;omega
 | succ n ih =>
  intro t h f hf;obtain⟨op,nm,k,ks⟩:=t
  match ks,hf with
  | [],hf=>simp[A4] at hf
  | [x],hf=>simp[A4] at hf
  | x::y::z::l,hf=>simp[A4] at hf
  | [x,r],hf =>
   have hk:=J7 (.mk op nm k [x,r]);have hr:=hk.2 r (by simp[Ty.kids]);unfold A4 at hf
   by_cases h11:op=11
   ·rw[d3I h11] at hf;rw[B5];simp only[Ty.kids,d4m,d4t,d4d]
    rcases d3R.1 hf with rfl|hf
    ·refine d3M _ (d5n _ ?_);rw[J4];exact d3L ..
    ·exact d3M _ (d4P _ (ih r (by omega) f hf))
   ·rw[d3G h11] at hf;simp at hf
theorem a0O {t x y:Ty}:y∈x.parts->x∈t.parts->y∈t.parts:=by
 intro hy
 induction t using Ty.ind with
 | h t ih =>
  intro hx;rw[B5] at hx ⊢
  rcases d3R.1 hx with rfl|hx
  ·rwa [B5] at hy
  ·obtain⟨k,hk,hx⟩:=d40.1 hx;exact d3M _ (d40.2 ⟨k,hk,ih k hk hx⟩)
theorem b4E {α:Type} {lt:α->α->Bool}:∀(l acc:List α),(l.foldl (λacc x=>a02 lt x acc) acc).length=acc.length+l.length
 | [],acc=>rfl
 | x::l,acc=>by
  rw[d5j,b4E l];simp only[b8h,d3O];omega
theorem a37 {α:Type} {lt:α->α->Bool} (l:List α):(r7 lt l).length=l.length:=by
 unfold r7;rw[b4E]
 simp
def c4B (op n:Int):Bool:=decide (0<=n) && (decide (op=7\/op=10) || decide (n=0))
theorem b0m {iw:ByteArray->Bool} {t:Ty} {s:Int} (h:I9 t.op=none):B6 iw t s=false:=by
 rw[a6J];unfold a6I;rw[h];rfl
def c3B (iw:ByteArray->Bool) (op:Int) (nm:ByteArray):Bool:=if op=11 then iw nm else decide (nm.toList=[])
theorem a0F {iw:ByteArray->Bool} {op:Int} {nm:ByteArray} {n:Int} {kids:List Ty} {s:Int} {k:List Int} (h:I9 op=some k) :
  B6 iw (.mk op nm n kids) s=(((decide (8<=op) == (s == 114)) && (decide (kids.length=k.length) && (c3B iw op nm && c4B op n))) && C5 iw kids k):=by
 rw[a6J];unfold a6I c4B c3B;simp only[Ty.op,Ty.name,Ty.n,Ty.kids];rw[h];rfl
theorem b4F {α:Type} {lt:α->α->Bool} (x:α):∀l:List α,(a02 lt x l).Perm (x::l)
 | []=>.refl _
 | y::l=>by
  unfold a02
  split
  ·exact .refl _
  ·exact((b4F x l).cons y).trans (.swap x y l)
theorem b1W {α:Type} {lt:α->α->Bool}:∀(l acc:List α),(l.foldl (λacc x=>a02 lt x acc) acc).Perm (acc++l)
 | [],acc=>by simp
 | x::l,acc=>by
  rw[d5j];refine(b1W l _).trans ?_;have h1:(a02 lt x acc++l).Perm ((x::acc)++l):=(b4F x acc).append_right l;exact h1.trans List.perm_middle.symm
theorem b6u {α:Type} (lt:α->α->Bool) (l:List α):(r7 lt l).Perm l:=by
 have:=b1W (lt:=lt) l []
 simpa [r7] using this
def B9 (fs:List (ByteArray×Ty)):Nat:=(fs.map λf=>1+f.2.parts.length).sum
theorem b1g {a b:List (ByteArray×Ty)} (h:a.Perm b):B9 a=B9 b:=(h.map _).sum_nat
theorem a6a (tl:Ty):∀fs:List (ByteArray×Ty),(a0E fs tl).parts.length=B9 fs+tl.parts.length
 | []=>by simp[a0E,B9]
 | f::fs=>by
  have ih:=a6a tl fs;unfold a0E at ih ⊢;rw[List.foldr_cons,B5];simp only[Ty.kids,d3O,d4m,d4t,d4d,d3K,ih,B9,d4a,d5A];omega
theorem a8n:∀(n:Nat) (t:Ty),t.parts.length<=n->a03 t->t.parts.length=B9 (A4 t)+(N4 t).parts.length:=by
 intro n
 induction n with
 | zero=>intro t h;have:=F9 t;omega
 | succ n ih =>
  intro t hn hsp
  by_cases h11:t.op=11
  ·obtain⟨a,b,hk,hsb,hf,ht⟩:=a1G hsp h11;have hb:=(J7 t).2 b (by rw[hk];simp);have:=ih b (by omega) hsb;rw[hf,ht,B5,hk];simp only[d3O,d4m,d4t,d4d,d3K,this,B9,d4a,d5A];omega
  ·obtain⟨h1,h2⟩:=a1s h11;rw[h1,h2]
   simp[B9]
theorem c29:∀ {t:Ty},a03 t->N4 t∈t.parts:=by
 intro t
 induction t using Ty.ind with
 | h t ih =>
  intro hsp
  by_cases h11:t.op=11
  ·obtain⟨a,b,hk,hsb,hf,ht⟩:=a1G hsp h11;rw[ht,B5];exact d3M _ (d40.2 ⟨b,by rw[hk];simp,ih b (by rw[hk];simp) hsb⟩)
  ·rw[(a1s h11).2,J4];exact d3L ..
theorem a3f {α:Type} {f g:α->Nat}:∀ {l:List α},(∀x∈l,f x=g x)->(l.map f).sum=(l.map g).sum
 | [],_=>rfl
 | x::l,h=>by
  rw[d4a,d4a,d5A,d5A,h x (d3L ..),a3f λy hy=>h y (d3M _ hy)]
theorem a5g:∀(n:Nat) (t:Ty),t.parts.length<=n->(∀x∈t.parts,a03 x)->(y9 t).parts.length=t.parts.length:=by
 intro n
 induction n with
 | zero=>intro t h;have:=F9 t;omega
 | succ n ih =>
  intro t hn hsp;have ht:a03 t:=hsp t (by rw[J4];exact d3L ..)
  by_cases h11:t.op=11
  ·rw[a36 h11,a6a,a8n _ t (d3Q _) ht]
   congr 1
   rw[<-b1g (b6u ltF (A4 t))];unfold B9;rw[d5I];refine a3f λf hf=>?_
   have h1:=a0d _ t (d3Q _) f (T4 hf);have h2:=a3X _ t (d3Q _) f (T4 hf);simp only[Function.comp];rw[ih f.2 (by omega) λx hx=>hsp x (a0O hx h2)]
  ·rw[a1t h11,B5,B5 t];simp only[Ty.kids,d3O,List.length_flatMap,d5I]
   congr 1
   refine a3f λx hx=>?_
   have h1:=(J7 t).2 x hx;simp only[Function.comp];exact ih x (by omega) λy hy=>hsp y (by rw[B5];exact d3M _ (d40.2 ⟨x,hx,hy⟩))
def G5 (t:Ty):Prop:=∀x∈t.parts,a03 x
theorem G5.self {t:Ty} (h:G5 t):a03 t:=h t (by rw[J4];exact d3L ..)
theorem G5.mk {t:Ty} (h:a03 t) (hk:∀x∈t.kids,G5 x):G5 t:=λy hy=>by
 rw[B5] at hy
 rcases d3R.1 hy with rfl|hy
 ·exact h
 ·obtain⟨x,hx,hy⟩:=d40.1 hy;exact hk x hx y hy
theorem a2v (f:ByteArray×Ty) (fs:List (ByteArray×Ty)) (tl:Ty):a0E (f::fs) tl=.mk 11 f.1 0 [f.2,a0E fs tl]:=rfl
theorem a6b {tl:Ty} (ht:G5 tl):∀ {fs:List (ByteArray×Ty)},(∀f∈fs,G5 f.2)->G5 (a0E fs tl)
 | [],_=>ht
 | f::fs,h=>by
  have ih:=a6b ht (fs:=fs) λg hg=>h g (d3M _ hg)
  rw[a2v];refine .mk (λ_=>ih.self) λx hx=>?_
  simp only[Ty.kids,d3R,d5h,d6b] at hx
  rcases hx with rfl|rfl
  ·exact h f (d3L ..)
  ·exact ih
theorem a7H {t:Ty} (h:t.op≠11):a03 t:=by
 obtain⟨op,nm,n,ks⟩:=t
 match ks with
 | []=>exact h
 | [a]=>exact h
 | [a,b]=>exact λe=>absurd e h
 | a::b::c::l=>exact h
theorem a2w (iw:ByteArray->Bool):∀(ts:List Ty) (ks:List Int),C5 iw ts ks=true->∀x∈ts,∃c,B6 iw x c=true
 | [],_,_,x,hx=>by simp at hx
 | t::ts,[],h,x,hx=>by rw[C5] at h;cases h
 | t::ts,k::ks,h,x,hx=>by
  rw[C5,d3N] at h
  rcases d3R.1 hx with rfl|hx
  ·exact⟨k,h.1⟩
  ·exact a2w iw ts ks h.2 x hx
theorem a8o (iw:ByteArray->Bool) (t:Ty):∀s,B6 iw t s=true->∀x∈t.parts,a03 x:=by
 induction t using Ty.ind with
 | h t ih =>
  intro s hs x hx;cases hko:I9 t.op with
  | none=>rw[b0m hko] at hs;cases hs
  | some k =>
   obtain⟨op,nm,n,kids⟩:=t;rw[a0F (k:=k) (by exact hko)] at hs;simp only[d3N,d5q] at hs;obtain⟨⟨_,hlen,_⟩,hss⟩:=hs;rw[B5] at hx
   rcases d3R.1 hx with rfl|hx
   ·simp only[Ty.op] at hko
    by_cases h11:op=11
    ·subst h11
     have hk:k.length=2:=by
      have:I9 11=some [116,114]:=by decide
      rw[this] at hko;injection hko with hko;rw[<-hko];rfl
     rw[hk] at hlen
     match kids,hlen,ih,hss with
     | [a,b],_,ih,hss =>
      obtain⟨c,hc⟩:=a2w iw _ _ hss b (by simp);exact λ_=>ih b (by simp[Ty.kids]) c hc b (by rw[J4];exact d3L ..)
    ·match kids with
     | []=>exact h11
     | [a]=>exact h11
     | [a,b]=>exact λh=>absurd h h11
     | a::b::c::l=>exact h11
   ·obtain⟨y,hy,hx⟩:=d40.1 hx;obtain⟨c,hc⟩:=a2w iw _ _ hss y hy;exact ih y hy c hc x hx
def a1H (t:Ty):Bool:=(t.op == 7) || (t.op == 10)
def H7:List Ty->List Int->List Int
 | [],acc=>acc
 | t::ts,acc=>H7 ts (if a1H t=true/\t.n∉acc then acc++[t.n] else acc)
def a4i (t:Ty):List Int:=H7 (y9 t).parts []
theorem b0n:∀(ts:List Ty) (acc:List Int) (t:Ty),H7 (ts++[t]) acc=(if a1H t=true/\t.n∉H7 ts acc then H7 ts acc++[t.n] else H7 ts acc)
 | [],_,_=>rfl
 | u::us,acc,t=>b0n us (if a1H u=true/\u.n∉acc then acc++[u.n] else acc) t
theorem a7I:∀(ts:List Ty) (acc:List Int),(H7 ts acc).length<=acc.length+ts.length
 | [],acc=>by simp[H7]
 | u::us,acc=>by
  rw[H7];have:=a7I us (if a1H u=true/\u.n∉acc then acc++[u.n] else acc);have h2:(if a1H u=true/\u.n∉acc then acc++[u.n] else acc).length<=acc.length+1:=by split <;> simp
  simp only[d3O];omega
def a1b (d:ByteArray×Ty) (p:Bool×List (ByteArray×Ty)) (y:ByteArray×Ty):Bool×List (ByteArray×Ty) :=
 match p.1 with
 | true=>(true,p.2++[y])
 | false=>match ltF d y with|true=>(true,p.2++[d]++[y])|false=>(false,p.2++[y])
theorem b0o (d:ByteArray×Ty):∀(l acc:List (ByteArray×Ty)),l.foldl (a1b d) (true,acc)=(true,acc++l)
 | [],acc=>by simp
 | y::l,acc=>by rw[d5j,show a1b d (true,acc) y=(true,acc++[y]) from rfl,b0o d l];simp
theorem b1X (d:ByteArray×Ty):∀(l acc:List (ByteArray×Ty)),(l.foldl (a1b d) (false,acc)).2++(if (l.foldl (a1b d) (false,acc)).1=true then [] else [d])=acc++a02 ltF d l
 | [],acc=>by simp[a02]
 | y::l,acc=>by
  rw[d5j,a02];cases h:ltF d y with
  | true =>
   rw[show a1b d (false,acc) y=(true,acc++[d]++[y]) by unfold a1b;rw[h],b0o]
   simp
  | false =>
   rw[show a1b d (false,acc) y=(false,acc++[y]) by unfold a1b;rw[h],b1X d l]
   simp
theorem b8j (d:ByteArray×Ty) (l:List (ByteArray×Ty)):∀(p:Bool×List (ByteArray×Ty)),(l.foldl (a1b d) p).2.length<=p.2.length+l.length+1:=by
 have h1:∀(l:List (ByteArray×Ty)) (acc:List (ByteArray×Ty)),(l.foldl (a1b d) (true,acc)).2.length=acc.length+l.length:=λl acc=>by rw[b0o];simp
 induction l with
 | nil=>intro p;simp
 | cons y l ih =>
  intro p;obtain⟨b,acc⟩:=p;rw[d5j];cases b with
  | true=>rw[show a1b d (true,acc) y=(true,acc++[y]) from rfl,h1];simp;omega
  | false =>
   cases h:ltF d y with
   | true=>rw[show a1b d (false,acc) y=(true,acc++[d]++[y]) by unfold a1b;rw[h],h1];simp;omega
   | false =>
    rw[show a1b d (false,acc) y=(false,acc++[y]) by unfold a1b;rw[h]];have:=ih (false,acc++[y])
    simp at this ⊢
    omega
theorem c2A (d:ByteArray×Ty) (l:List (ByteArray×Ty)) {k:Nat} {y:ByteArray×Ty} (h:l[k]?=some y) (p:Bool×List (ByteArray×Ty)):(l.take (k+1)).foldl (a1b d) p=a1b d ((l.take k).foldl (a1b d) p) y:=by
 rw[d5D,h,List.foldl_append];rfl
theorem b0p (a b:List (ByteArray×Ty)):rF (a++b)=rF a++rF b:=by unfold rF;rw[d45]
theorem b0q (x:ByteArray×Ty):rF [x]=[.sc (.string x.1)::cT x.2]:=rfl
theorem b9C (t:Ty) (hs:a03 t) (hN:t.parts.length<=1048576):y7 84 [.ag (C0 (cT t))] [] (λres os'=>res=[.own 0,.ag (C0 (cT (N4 t)))]/\os'=[.row false 124 (rF (r7 ltF (A4 t)))]):=by
 obtain⟨Q,hQ⟩:∃Q,Q=rF (r7 ltF (A4 t)):=⟨_,rfl⟩;rw[<-hQ];obtain⟨q0,q1,q2,q3,hq⟩:=m8 (N4 t);rw[hq];obtain⟨op,nm,n,ks⟩:=t;generalize ht:Ty.mk op nm n ks=t at *;have hc:cT t=[.sc (.int .u8 op),.sc (.string nm),.sc (.int .i64 n),.sl 4 (rT ks)]:=by rw[<-ht,cT]
 obtain⟨K0,hK0⟩:∃K,K=rT ks:=⟨_,rfl⟩;rw[hc,<-hK0];refine so9 Tryz.func84 rfl ?_;intro qa qb _ _ _ _ _ qi _ qk _ _ qo qp _ _ _ _ _ _ _ _ va vc _ ve;intros;rename_i hA;cbv
 repeat (with_reducible apply j6 hA;cbv)
 obtain⟨e1,e2,e3,e4,e5,e6,e7,e8,e9⟩:=m6 hA;obtain⟨s1,s2,s3,s4,s5,s6,-⟩:=G1 hA;obtain⟨r1,r2,r3,r4⟩:=B3 hA
 refine c1S hA (γ:=Ty×Int×ByteArray×Int×List (List D)×List (List D)) (λx=>[(4,.own 2)]) (λx=>[(0,.box [.d (.sc (.int .u8 x.2.1)),.d (.sc (.string x.2.2.1)),.d (.sc (.int .i64 x.2.2.2.1)),.d (.sl 4 x.2.2.2.2.1)])]) (λx=>[.row false 124 x.2.2.2.2.2])
  (λx=>∃ks fs,x.1=.mk x.2.1 x.2.2.1 x.2.2.2.1 ks/\x.2.2.2.2.1=rT ks/\a03 x.1/\x.2.2.2.2.2=rF (r7 ltF fs)/\fs++A4 x.1=A4 t/\N4 x.1=N4 t/\fs.length+x.1.parts.length<=1048576) (λx=>x.1.parts.length) (t,op,nm,n,K0,[]) ?_ ?_ ?_
 ·exact⟨ks,[],ht.symm,hK0,hs,rfl,rfl,rfl,by simpa using hN⟩
 ·refine a3I.of (L6.own _ 4 124 false rfl) ?_ (by exact d4X rfl);cbv
 ·intro x hinv;obtain⟨r,op,nm,n,K,L⟩:=x;cbv;refine gn ?_;obtain⟨ks,fs,hr,hK,hsr,hL,hfs,htl,hlen⟩:=hinv;replace hr:r=.mk op nm n ks:=hr;replace hK:K=rT ks:=hK;replace hsr:a03 r:=hsr;replace hL:L=rF (r7 ltF fs):=hL;replace hfs:fs++A4 r=A4 t:=hfs;replace htl:N4 r=N4 t:=htl;replace hlen:fs.length+r.parts.length<=1048576:=hlen;have h11:qk op 11=decide (op=11):=e9 _ _
  by_cases hop:op=11
  ·rw[d3S hop] at h11;obtain⟨a,b,hk,hsb,hfb,htb⟩:=a1G hsr (by rw[hr];exact hop);have hnmr:r.name=nm:=by rw[hr];rfl
   rw[hnmr] at hfb;have hks:ks=[a,b]:=by rw[<-hk,hr];rfl
   obtain⟨a0,a1,a2,a3,ha⟩:=m8 a;obtain⟨op',nm',n',ks'⟩:=b;generalize hb:Ty.mk op' nm' n' ks'=b at *;have hcb:cT b=[.sc (.int .u8 op'),.sc (.string nm'),.sc (.int .i64 n'),.sl 4 (rT ks')]:=by rw[<-hb,cT]
   obtain⟨K',hK'⟩:∃K,K=rT ks':=⟨_,rfl⟩;rw[<-hK'] at hcb;have g0:vc K 0=some [a0,a1,a2,a3]:=by rw[r2,d3I (by omega),hK,hks];exact congrArg some ha
   have g1:vc K 1=some [.sc (.int .u8 op'),.sc (.string nm'),.sc (.int .i64 n'),.sl 4 K']:=by rw[r2,d3I (by omega),hK,hks];exact congrArg some hcb
   rw[h11];cbv;refine gn ?_;rw[g0];cbv
   repeat (first|(refine a3b hA 6 124 false rfl ?_;cbv)|(with_reducible apply j6 hA;cbv))
   refine n9 hA (γ:=Int×Bool×List (List D)) (λx=>[(8,vi .i64 x.1),(7,vb x.2.1),(6,.own 4)]) (λx=>[(4,.row false 124 x.2.2)])
    (λx=>∃k:Nat,x.1=(k:Int)/\k<=(r7 ltF fs).length/\x.2.1=(((r7 ltF fs).take k).foldl (a1b (nm,a)) (false,[])).1/\x.2.2=rF (((r7 ltF fs).take k).foldl (a1b (nm,a)) (false,[])).2) (λx=>(r7 ltF fs).length - x.1.toNat) (0,false,[]) ?_ ?_ ?_
   ·exact⟨0,rfl,d4o _,rfl,rfl⟩
   ·cbv
   ·intro x hinv;obtain⟨z,inn,M⟩:=x;cbv;refine gn ?_;obtain⟨k,hz,hk2,hin,hM⟩:=hinv;replace hz:z=(k:Int):=hz;replace hin:inn=(((r7 ltF fs).take k).foldl (a1b (nm,a)) (false,[])).1:=hin;replace hM:M=rF (((r7 ltF fs).take k).foldl (a1b (nm,a)) (false,[])).2:=hM;have hsn:(r7 ltF fs).length=fs.length:=a37 fs;have hll:va L=(((r7 ltF fs).length:Nat):Int):=by rw[r1,hL,a2u]
    have hlt:qi z (va L)=decide (k<(r7 ltF fs).length):=by rw[e7,hll,hz];exact d3X.2 (by omega)
    by_cases h9:k<(r7 ltF fs).length
    ·rw[d3S h9] at hlt;obtain⟨x,hx⟩:∃x,(r7 ltF fs)[k]?=some x:=⟨_,d3H h9⟩;have hpt:=c2A (nm,a) (r7 ltF fs) hx (false,[]);generalize hPk:((r7 ltF fs).take k).foldl (a1b (nm,a)) (false,[])=P at *;obtain⟨xn,xt⟩:=x;obtain⟨x0,x1,x2,x3,hxx⟩:=m8 xt;have gx:vc L z=some [.sc (.string xn),x0,x1,x2,x3]:=by rw[r2,hz,d3I (by omega),hL,show ((k:Int)).toNat=k by omega,b3i hx,hxx]
     have hsl:qo (qp nm) (qp xn)=ltF (nm,a) (xn,xt):=by rw[s2,s3,s3];rfl
     rw[hlt];obtain⟨Pb,Pl⟩:=P;simp only at hin hM;subst hin;have hz1:qa .i64 (qb z 1)=((k+1:Nat):Int):=by rw[e1,e2,hz,IntWalk.i64_in _ (by omega)];omega
     have hmu:(r7 ltF fs).length - (qa .i64 (qb z 1)).toNat<(r7 ltF fs).length - z.toNat:=by rw[hz1,hz];omega
     have hMl:M.length<=1048577:=by
      have h:=b8j (nm,a) ((r7 ltF fs).take k) (false,[]);rw[hPk,d4n] at h;rw[hM,a2u];simp only[d3Y] at h;omega
     cases inn
     ·cases hlx:ltF (nm,a) (xn,xt)
      ·have hput:a1b (nm,a) (false,Pl) (xn,xt)=(false,Pl++[(xn,xt)]):=by unfold a1b;rw[hlx]
       rw[hlx] at hsl;rw[hput] at hpt;cbv;repeat (first|(with_reducible apply j6 hA;cbv)|(rw[gx];cbv)|(rw[hsl];cbv)|(refine E2 hA true ?_;cbv)|(refine F3 hA (by simp only[r4,d3K,d3O,d3Y];omega) ?_;cbv))
       refine⟨(qa .i64 (qb z 1),false,ve M [[.sc (.string xn),x0,x1,x2,x3]]),⟨k+1,hz1,h9,by rw[hpt],by rw[hpt];show ve M _=rF (Pl++[(xn,xt)]);rw[r4,hM,b0p,b0q,hxx]⟩,hmu,?_⟩;cbv
      ·have hput:a1b (nm,a) (false,Pl) (xn,xt)=(true,Pl++[(nm,a)]++[(xn,xt)]):=by unfold a1b;rw[hlx]
       rw[hlx] at hsl;rw[hput] at hpt;cbv;repeat (first|(with_reducible apply j6 hA;cbv)|(rw[gx];cbv)|(rw[hsl];cbv)|(refine E2 hA true ?_;cbv)|(refine F3 hA (by simp only[r4,d3K,d3O,d3Y];omega) ?_;cbv))
       refine⟨(qa .i64 (qb z 1),true,ve (ve M [[.sc (.string nm),a0,a1,a2,a3]]) [[.sc (.string xn),x0,x1,x2,x3]]),⟨k+1,hz1,h9,by rw[hpt],by rw[hpt];show ve (ve M _) _=rF (Pl++[(nm,a)]++[(xn,xt)]);rw[r4,r4,hM,b0p,b0p,b0q,b0q,hxx,ha]⟩,hmu,?_⟩;cbv
     ·have hput:a1b (nm,a) (true,Pl) (xn,xt)=(true,Pl++[(xn,xt)]):=rfl;rw[hput] at hpt;cbv;repeat (first|(with_reducible apply j6 hA;cbv)|(rw[gx];cbv)|(rw[hsl];cbv)|(refine E2 hA true ?_;cbv)|(refine F3 hA (by simp only[r4,d3K,d3O,d3Y];omega) ?_;cbv))
      refine⟨(qa .i64 (qb z 1),true,ve M [[.sc (.string xn),x0,x1,x2,x3]]),⟨k+1,hz1,h9,by rw[hpt],by rw[hpt];show ve M _=rF (Pl++[(xn,xt)]);rw[r4,hM,b0p,b0q,hxx]⟩,hmu,?_⟩;cbv
    ·rw[d3P h9] at hlt;have hins:=b1X (nm,a) (r7 ltF fs) [];rw[d4z (by omega)] at hin hM
     have hMl:M.length<=1048577:=by
      have h:=b8j (nm,a) (r7 ltF fs) (false,[]);rw[hM,a2u];simp only[d3Y] at h;omega
     generalize hPk:(r7 ltF fs).foldl (a1b (nm,a)) (false,[])=P at *;obtain⟨Pb,Pl⟩:=P;simp only at hin hM hins;subst hin;rw[d44,<-b9B] at hins;have hbl:b.parts.length<r.parts.length:=(J7 r).2 b (by rw[hk];simp);have hfs2:(fs++[(nm,a)])++A4 b=A4 t:=by rw[d4q,<-hfs,hfb];rfl
     rw[hlt];cases inn
     ·cbv;repeat (first|(with_reducible apply j6 hA;cbv)|(rw[g1];cbv)|(refine E2 hA true ?_;cbv)|(refine F3 hA (by simp only[r4,d3K,d3O,d3Y];omega) ?_;cbv))
      have hnew:ve M [[.sc (.string nm),a0,a1,a2,a3]]=rF (r7 ltF (fs++[(nm,a)])):=by rw[<-hins,d3G (by decide),r4,hM,b0p,b0q,ha]
      refine⟨(b,op',nm',n',K',ve M [[.sc (.string nm),a0,a1,a2,a3]]),⟨ks',fs++[(nm,a)],hb.symm,hK',hsb,hnew,hfs2,by rw[<-htl,htb],by rw[d3K];show fs.length+1+b.parts.length<=_;omega⟩,hbl,a3I.of (L6.move _ 4 2 4 rfl rfl rfl rfl) ?_ (by exact d4X rfl)⟩;cbv
     ·cbv;repeat (first|(with_reducible apply j6 hA;cbv)|(rw[g1];cbv)|(refine E2 hA true ?_;cbv)|(refine F3 hA (by simp only[r4,d3K,d3O,d3Y];omega) ?_;cbv))
      have hnew:M=rF (r7 ltF (fs++[(nm,a)])):=by rw[<-hins,d3I rfl,d4d,hM]
      refine⟨(b,op',nm',n',K',M),⟨ks',fs++[(nm,a)],hb.symm,hK',hsb,hnew,hfs2,by rw[<-htl,htb],by rw[d3K];show fs.length+1+b.parts.length<=_;omega⟩,hbl,a3I.of (L6.move _ 4 2 4 rfl rfl rfl rfl) ?_ (by exact d4X rfl)⟩;cbv
  ·rw[d3P hop] at h11;obtain⟨hf0,ht0⟩:=a1s (t:=r) (by rw[hr];exact hop);rw[hf0,d4d] at hfs;have hLQ:L=Q:=by rw[hL,hfs,hQ]
   rw[ht0,hr] at htl;rw[<-htl,cT,<-hK] at hq;rw[h11,hLQ];cases hq;cbv;refine gn ?_;exact n7 hA [2] ⟨rfl,rfl,rfl,rfl,rfl,rfl,rfl,rfl⟩ ⟨rfl,rfl⟩
section
def a1I {α:Type} (a b:Nat):Nat->List α->List α
 | 0,l=>l
 | k+1,l=>match (a1I a b k l)[a+k]?,(a1I a b k l)[b+k]? with
  | some x,some y=>((a1I a b k l).set (a+k) y).set (b+k) x
  | _,_=>a1I a b k l
theorem a5h {α:Type} (a b:Nat):∀(k:Nat) (l:List α),(a1I a b k l).length=l.length
 | 0,l=>rfl
 | k+1,l=>by
  unfold a1I
  split
  ·rw[d4k,d4k,a5h]
  ·exact a5h a b k l
theorem b1Y {α:Type} (a b:Nat):∀(k:Nat) (l:List α),a+k<=b->b+k<=l.length->∀i,(a1I a b k l)[i]?=if a<=i/\i<a+k then l[i - a+b]? else if b<=i/\i<b+k then l[i - b+a]? else l[i]?
 | 0,l,_,_,i=>by
  rw[d3G (by omega),d3G (by omega)];rfl
 | k+1,l,h1,h2,i=>by
  have ih:=b1Y a b k l (by omega) (by omega);have ea:=ih (a+k);have eb:=ih (b+k);rw[d3G (by omega),d3G (by omega)] at ea eb;have hla:a+k<l.length:=by omega
  have hlb:b+k<l.length:=by omega
  rw[d3H hla] at ea;rw[d3H hlb] at eb;unfold a1I;rw[ea,eb];simp only;have hsl:=a5h a b k l
  by_cases e1:i=b+k
  ·subst e1;rw[d4v (by rw[d4k,hsl];omega),d3G (by omega),d3I (by omega),show b+k - b+a=a+k by omega,d3H hla]
  ·rw[d4i (by omega)]
   by_cases e2:i=a+k
   ·subst e2;rw[d4v (by rw[hsl];omega),d3I (by omega),show a+k - a+b=b+k by omega,d3H hlb]
   ·rw[d4i (by omega),ih i]
    by_cases c1:a<=i/\i<a+k
    ·rw[d3I c1,d3I (by omega)]
    ·rw[d3G c1]
     by_cases c2:b<=i/\i<b+k
     ·rw[d3I c2,d3G (by omega),d3I (by omega)]
     ·rw[d3G c2,d3G (by omega),d3G (by omega)]
theorem a4F {α:Type} (P X M Y S:List α) (h:X.length=Y.length):a1I P.length (P.length+X.length+M.length) X.length (P++(X++(M++(Y++S))))=P++(Y++(M++(X++S))):=by
 apply d5e
 intro i;rw[b1Y _ _ _ _ (by omega) (by simp only[d3K];omega)];simp only[List.getElem?_append]
 repeat' split
 all_goals first
  | rfl
  | omega
  | (congr 1;omega)
theorem a2x {α:Type} {l:List α} {n:Nat} (h:n<=l.length):∃a b,l=a++b/\a.length=n:=⟨l.take n,l.drop n,(d46 n l).symm,by simp;omega⟩
theorem b0r {α:Type} {xs:List α} {k:Nat} {y:α} (h:xs[k]?=some y):xs.take (k+1)=xs.take k++[y]:=by
 obtain⟨hi,e⟩:=d3J.1 h;rw[d4Y hi,e]
theorem b1Z:∀l:List UInt8,Op.bytesLess l l=false
 | []=>rfl
 | a::l=>by simp[Op.bytesLess,b1Z l]
theorem b2a:∀x y z:List UInt8,Op.bytesLess x y=true->Op.bytesLess y z=true->Op.bytesLess x z=true
 | x,[],_,h,_=>by cases x <;> simp[Op.bytesLess] at h
 | _,_::_,[],_,h=>by simp[Op.bytesLess] at h
 | [],_::_,_::_,_,_=>by simp[Op.bytesLess]
 | a::x,b::y,c::z,h1,h2=>by
  simp only[Op.bytesLess,d41,d5q,d3N,d4H] at h1 h2 ⊢
  rcases h1 with h1|⟨rfl,h1⟩
  ·rcases h2 with h2|⟨rfl,h2⟩
   ·exact .inl (UInt8.lt_trans h1 h2)
   ·exact .inl h1
  ·rcases h2 with h2|⟨rfl,h2⟩
   ·exact .inl h2
   ·exact .inr ⟨rfl,b2a x y z h1 h2⟩
theorem b2b:∀x y z:List UInt8,Op.bytesLess x y=false->Op.bytesLess y z=false->Op.bytesLess x z=false
 | x,_,[],_,_=>by cases x <;> simp[Op.bytesLess]
 | _,[],_::_,_,h=>by simp[Op.bytesLess] at h
 | [],_::_,_,h,_=>by simp[Op.bytesLess] at h
 | a::x,b::y,c::z,h1,h2=>by
  simp only[Op.bytesLess,d5G,decide_eq_false_iff_not,d6e,d4x,ne_eq] at h1 h2 ⊢;obtain⟨h1,h1'⟩:=h1;obtain⟨h2,h2'⟩:=h2
  have h3:¬a<c:=λh=>by
   rw[d6f] at h h1 h2;omega
  refine⟨h3,?_⟩
  by_cases hac:a=c
  ·subst hac
   right
   have hab:a=b:=by
    rw[d6f] at h1 h2;exact d6o.1 (by omega)
   subst hab;exact b2b x y z (by simpa using h1') (by simpa using h2')
  ·exact .inl hac
abbrev Rw:=List D
def d1h:Rw->List UInt8
 | .sc (.string a)::_=>a.toList
 | _=>[]
def H1 (x y:Rw):Bool:=Op.bytesLess (d1h x) (d1h y)
theorem a0e:Swo H1:=⟨λ_=>b1Z _,λ_ _ _=>b2a _ _ _,λ_ _ _=>b2b _ _ _⟩
theorem b4G {α β:Type} {f:α->β} {lt:α->α->Bool} {lt2:β->β->Bool} (h:∀x y,lt2 (f x) (f y)=lt x y) (x:α):∀l:List α,a02 lt2 (f x) (l.map f)=(a02 lt x l).map f
 | []=>rfl
 | y::l=>by
  rw[d4a,a02,a02,h]
  split
  ·rfl
  ·rw[d4a,b4G h x l]
theorem b9D {α β:Type} {f:α->β} {lt:α->α->Bool} {lt2:β->β->Bool} (h:∀x y,lt2 (f x) (f y)=lt x y) (l:List α):r7 lt2 (l.map f)=(r7 lt l).map f:=by
 have key:∀(l acc:List α),(l.map f).foldl (λacc x=>a02 lt2 x acc) (acc.map f)=(l.foldl (λacc x=>a02 lt x acc) acc).map f:=by
  intro l
  induction l with
  | nil=>intro acc;rfl
  | cons x l ih=>intro acc;rw[d4a,d5j,d5j,b4G h,ih]
 exact key l []
theorem c8S {x:Rw} {L:List Rw} {y:Rw} (hs:Srt H1 (L++[y])) (h:H1 x y=false):∀z∈L++[y],H1 x z=false:=by
 intro z hz
 rcases d4s.1 hz with hz|hz
 ·exact a0e.neg x y z h ((K3.1 hs).2.2 z hz y (by simp))
 ·simp at hz;subst hz;exact h
theorem b4H {α:Type} (A R:List α) (x y:α) {k:Nat} (h:A.length=k):((A++y::x::R).set (k+1) y).set k x=A++x::y::R:=by
 subst h;rw[d5k _ _ (by omega),show A.length+1 - A.length=1 by omega,d5k _ _ (d3Q _),d4V];rfl
theorem a8P {V:List Rw} {h:Nat} {y:Rw} (hs:Srt H1 V) (hy:V[h]?=some y):(∀z∈V.take h,H1 y z=false)/\∀z∈V.drop (h+1),H1 z y=false:=by
 obtain⟨hh,e⟩:=d3J.1 hy
 have hsp:V=V.take h++y::V.drop (h+1):=by
  conv=>lhs;rw[<-d46 h V,d4c hh,e]
 rw[hsp] at hs;obtain⟨_,h2,h3⟩:=K3.1 hs;exact⟨λz hz=>h3 z hz y (d3L ..),λz hz=>(d4C.1 h2).1 z hz⟩
theorem b9E {V:List Rw} {h:Nat} {y u:Rw} (hs:Srt H1 V) (hy:V[h]?=some y) (hl:H1 y u=true):∀z∈V.take (h+1),H1 z u=true:=by
 intro z hz;rw[b0r hy] at hz
 rcases d4s.1 hz with hz|hz
 ·exact a4D a0e ((a8P hs hy).1 z hz) hl
 ·simp at hz;subst hz;exact hl
theorem b4I {V:List Rw} {h:Nat} {y u:Rw} (hs:Srt H1 V) (hy:V[h]?=some y) (hl:H1 y u=false):∀z∈V.drop h,H1 z u=false:=by
 intro z hz;obtain⟨hh,e⟩:=d3J.1 hy;rw[d4c hh,e] at hz
 rcases d3R.1 hz with rfl|hz
 ·exact hl
 ·exact a0e.neg z y u ((a8P hs hy).2 z hz) hl
theorem b9F {α:Type} (A R:List α) (x y:α) {k:Nat} (h:A.length=k):((A++x::y::R).set k y).set (k+1) x=A++y::x::R:=by
 subst h;rw[d5k _ _ (d3Q _),d4V,List.set_cons_zero,d5k _ _ (by omega),show A.length+1 - A.length=1 by omega];rfl
theorem b6v {V:List Rw} {h:Nat} {y u:Rw} (hs:Srt H1 V) (hy:V[h]?=some y) (hl:H1 u y=false):∀z∈V.take (h+1),H1 u z=false:=by
 intro z hz;rw[b0r hy] at hz
 rcases d4s.1 hz with hz|hz
 ·exact a0e.neg u y z hl ((a8P hs hy).1 z hz)
 ·simp at hz;subst hz;exact hl
theorem b3o {V:List Rw} {h:Nat} {y u:Rw} (hs:Srt H1 V) (hy:V[h]?=some y) (hl:H1 u y=true):∀z∈V.drop h,H1 u z=true:=by
 intro z hz;obtain⟨hh,e⟩:=d3J.1 hy;rw[d4c hh,e] at hz
 rcases d3R.1 hz with rfl|hz
 ·exact hl
 ·exact a4C a0e hl ((a8P hs hy).2 z hz)
theorem a4G {l:List Rw} (h:Srt H1 l) {i j:Nat} {x y:Rw} (hij:i<=j) (hx:l[i]?=some x) (hy:l[j]?=some y):H1 y x=false:=by
 rcases d4F i j with hlt|hge
 ·obtain⟨hi,ei⟩:=d3J.1 hx;obtain⟨hj,ej⟩:=d3J.1 hy;have:=List.pairwise_iff_getElem.1 h i j hi hj hlt;rw[ei,ej] at this;exact this
 ·obtain rfl:i=j:=by omega
  rw[hx] at hy;injection hy with hy;subst hy;exact a0e.irr x
def a6c (a m b mid s0 r0:Nat):Prop:=(m<=mid/\s0=a/\r0=m)\/(mid<m/\s0+b=mid+m/\r0=mid)
def c2B (U V:List Rw) (a m p s0 s:Nat):Prop:=∀c x y,s0<=c->c<s->U[c - a]?=some x->V[p - c - m]?=some y->H1 y x=false
def b4J (U V:List Rw) (a m p r r0:Nat):Prop:=∀c x y,r<=c->c<r0->U[c - a]?=some x->V[p - c - m]?=some y->H1 y x=true
section
variable {U V:List Rw} {a m b mid p s0 r0:Nat}
theorem P8 (hw:a6c a m b mid s0 r0) (hmid:mid=(a+b) / 2) (ham:a<m) (hmb:m<b) {s:Nat} (h1:s0<=s) (h2:s<=r0):a<=s/\s<=m/\s<=mid/\m<=mid+m - s/\mid+m - s<=b/\mid<=mid+m - s:=by
 rcases hw with⟨h,rfl,rfl⟩|⟨h,h3,rfl⟩ <;> omega
theorem c5C (hU:Srt H1 U) (hV:Srt H1 V) (hw:a6c a m b mid s0 r0) (hmid:mid=(a+b) / 2) (ham:a<m) (hmb:m<b) (hp:p+1=mid+m) {c:Nat} {x y:Rw} (hc0:s0<=c) (hc:c<r0) (hx:U[c - a]?=some x) (hy:V[p - c - m]?=some y) (hl:H1 y x=false) :
  c2B U V a m p s0 (c+1):=by
 intro d x' y' hd hdc hx' hy';have b1:=P8 hw hmid ham hmb hc0 (d5K hc);have b2:=P8 hw hmid ham hmb hd (by omega);have h1:=a4G hU (show d - a<=c - a by omega) hx' hx;have h2:=a4G hV (show p - c - m<=p - d - m by omega) hy hy';exact a0e.neg _ _ _ (a0e.neg _ _ _ h2 hl) h1
theorem b6w (hU:Srt H1 U) (hV:Srt H1 V) (hw:a6c a m b mid s0 r0) (hmid:mid=(a+b) / 2) (ham:a<m) (hmb:m<b) (hp:p+1=mid+m) {c:Nat} {x y:Rw} (hc0:s0<=c) (hc:c<r0) (hx:U[c - a]?=some x) (hy:V[p - c - m]?=some y) (hl:H1 y x=true) :
  b4J U V a m p c r0:=by
 intro d x' y' hd hdr hx' hy';have b1:=P8 hw hmid ham hmb hc0 (d5K hc);have h1:=a4G hU (show c - a<=d - a by omega) hx hx';have h2:=a4G hV (show p - d - m<=p - c - m by omega) hy' hy;exact a4C a0e (a4D a0e h2 hl) h1
theorem c8T (hU:Srt H1 U) (hV:Srt H1 V) (hUl:U.length=m - a) (hVl:V.length=b - m) (hw:a6c a m b mid s0 r0) (hmid:mid=(a+b) / 2) (ham:a<m) (hmb:m<b) (hp:p+1=mid+m) {s:Nat} (h1:s0<=s) (h2:s<=r0) (hlo:c2B U V a m p s0 s) (hhi:b4J U V a m p s r0) :
  (∀x∈U.drop (s - a),∀y∈V.take (mid+m - s - m),H1 y x=true)/\∀x∈U.take (s - a),∀y∈V.drop (mid+m - s - m),H1 y x=false:=by
 have b0:=P8 hw hmid ham hmb h1 h2
 constructor
 ·intro x hx y hy;obtain⟨i,hi⟩:=d42.1 hx;obtain⟨j,hj⟩:=d42.1 hy;rw[d4r] at hi
  have hj2:j<mid+m - s - m/\V[j]?=some y:=by
   rw[d4y] at hj
   split at hj
   ·exact⟨by omega,hj⟩
   ·cases hj
  have hiu:s - a+i<U.length:=(d3J.1 hi).1
  by_cases hs:s<r0
  ·obtain⟨x0,hx0⟩:∃x0,U[s - a]?=some x0:=⟨_,d3H (by omega)⟩;obtain⟨y0,hy0⟩:∃y0,V[p - s - m]?=some y0:=⟨_,d3H (by omega)⟩;have h:=hhi s x0 y0 (d3Q _) hs hx0 hy0;exact a4C a0e (a4D a0e (a4G hV (show j<=p - s - m by omega) hj2.2 hy0) h) (a4G hU (show s - a<=s - a+i by omega) hx0 hi)
  ·rcases hw with⟨h,rfl,rfl⟩|⟨h,h3,rfl⟩ <;> omega
 ·intro x hx y hy;obtain⟨i,hi⟩:=d42.1 hx;obtain⟨j,hj⟩:=d42.1 hy;rw[d4r] at hj
  have hi2:i<s - a/\U[i]?=some x:=by
   rw[d4y] at hi
   split at hi
   ·exact⟨by omega,hi⟩
   ·cases hi
  have hjv:mid+m - s - m+j<V.length:=(d3J.1 hj).1
  by_cases hs:s0<s
  ·have b1:=P8 hw hmid ham hmb (s:=s - 1) (by omega) (by omega);obtain⟨x0,hx0⟩:∃x0,U[s - 1 - a]?=some x0:=⟨_,d3H (by omega)⟩;obtain⟨y0,hy0⟩:∃y0,V[p - (s - 1) - m]?=some y0:=⟨_,d3H (by omega)⟩;have h:=hlo (s - 1) x0 y0 (by omega) (by omega) hx0 hy0;exact a0e.neg _ _ _ (a0e.neg _ _ _ (a4G hV (show p - (s - 1) - m<=mid+m - s - m+j by omega) hy0 hj) h) (a4G hU (show i<=s - 1 - a by omega) hi2.2 hx0)
  ·rcases hw with⟨h,rfl,rfl⟩|⟨h,h3,rfl⟩ <;> omega
end
def a4H (bs:Nat) (bl:List (List Rw)):Prop:=∀x∈bl,x.length=bs/\Srt H1 x
theorem b0s {bs:Nat}:∀ {bl:List (List Rw)},a4H bs bl->bl.flatten.length=bl.length * bs
 | [],_=>by simp
 | x::bl,h=>by
  rw[d4D,d3K,(h x (d3L ..)).1,b0s λy hy=>h y (d3M _ hy),d3O,d4R];omega
theorem a4H.snoc {bs:Nat} {bl:List (List Rw)} {x:List Rw} (h:a4H bs bl) (hx:x.length=bs/\Srt H1 x):a4H bs (bl++[x]):=λy hy=>by
 rcases d4s.1 hy with hy|hy
 ·exact h y hy
 ·simp at hy;subst hy;exact hx
end
theorem d1i {x:Rw} (h:x.length=5):∃x0 x1 x2 x3 x4,x=[x0,x1,x2,x3,x4]:=by
 match x,h with
 | [x0,x1,x2,x3,x4],_=>exact⟨x0,x1,x2,x3,x4,rfl⟩
theorem a2f {α:Type} (a b:Nat):∀(k:Nat) (l:List α),∀x∈a1I a b k l,x∈l
 | 0,l,x,h=>h
 | k+1,l,x,h=>by
  unfold a1I at h
  split at h
  ·rename_i y z h1 h2
   rcases d4J h with h|rfl
   ·rcases d4J h with h|rfl
    ·exact a2f a b k l x h
    ·exact a2f a b k l _ (d3U h2)
   ·exact a2f a b k l _ (d3U h1)
  ·exact a2f a b k l x h
theorem b6x (rows:List Rw) (h5:∀x∈rows,x.length=5) (a b k fid:Nat) (hN:rows.length<=1048576) (hab:a+k<=b) (hb:b+k<=rows.length) :
  E8 137 [.own 0,vi .i64 a,vi .i64 b,vi .i64 k,.cl fid []] [.row false 124 rows] (λres os=>res=[]/\os=[.row false 124 (a1I a b k rows)]):=by
 obtain⟨za,hza⟩:∃z:Int,z=(a:Int):=⟨_,rfl⟩;obtain⟨zb,hzb⟩:∃z:Int,z=(b:Int):=⟨_,rfl⟩;obtain⟨zk,hzk⟩:∃z:Int,z=(k:Int):=⟨_,rfl⟩;rw[<-hza,<-hzb,<-hzk];obtain⟨S,hS⟩:∃S,S=a1I a b k rows:=⟨_,rfl⟩;rw[<-hS];refine a1B Tryz.func137 rfl (by kernel_rfl) (by kernel_rfl) (by kernel_rfl) rfl rfl (by rintro _ _ ⟨_,rfl⟩;rfl) ?_;intro qa qb _ _ _ _ _ qi _ _ _ _ _ _ _ _ _ _ _ _ _ _ _ vc _ _ vf;intros;rename_i hA K hK;cbv;refine gn ?_;obtain⟨e1,e2,e3,e4,e5,e6,e7,e8,e9⟩:=m6 hA;obtain⟨r1,r2,r3,r4⟩:=B3 hA;obtain⟨m1,m2,m3,m4⟩:=a0X hA;replace hza:za=(a:Int):=hza;replace hzb:zb=(b:Int):=hzb;replace hzk:zk=(k:Int):=hzk;refine n9 hA (γ:=Int×List (List D)) (λx=>[(10,vi .i64 x.1),(29,.jk),(35,.jk)]) (λx=>[(0,.row false 124 x.2)]) (λx=>∃j:Nat,x.1=(j:Int)/\j<=k/\x.2=a1I a b j rows) (λx=>k - x.1.toNat) (0,rows) ?_ ?_ ?_
 ·exact⟨0,rfl,d4o _,rfl⟩
 ·cbv
 ·intro x hinv;obtain⟨z,L⟩:=x;cbv;refine gn ?_;obtain⟨j,hz,hj,hL⟩:=hinv;replace hz:z=(j:Int):=hz;replace hza:za=(a:Int):=hza;replace hzb:zb=(b:Int):=hzb;replace hzk:zk=(k:Int):=hzk;replace hL:L=a1I a b j rows:=hL;have hlt:qi z zk=decide (j<k):=by rw[e7,hz,hzk];exact d3X.2 (by omega)
  by_cases h9:j<k
  ·rw[d3S h9] at hlt;have hLl:L.length=rows.length:=by rw[hL,a5h]
   obtain⟨x,hx⟩:∃x,L[a+j]?=some x:=⟨_,d3H (by omega)⟩;obtain⟨y,hy⟩:∃y,L[b+j]?=some y:=⟨_,d3H (by omega)⟩;have hx5:=h5 x (a2f a b j rows x (by rw[<-hL];exact d3U hx));have hy5:=h5 y (a2f a b j rows y (by rw[<-hL];exact d3U hy));obtain⟨x0,x1,x2,x3,x4,rfl⟩:=d1i hx5;obtain⟨y0,y1,y2,y3,y4,rfl⟩:=d1i hy5;have wa:qa .i64 (qb za z)=((a+j:Nat):Int):=by rw[e1,e2,hza,hz,IntWalk.i64_in _ (by omega)];omega
   have wb:qa .i64 (qb zb z)=((b+j:Nat):Int):=by rw[e1,e2,hzb,hz,IntWalk.i64_in _ (by omega)];omega
   have g1:vc L (qa .i64 (qb zb z))=some [y0,y1,y2,y3,y4]:=by rw[wb,r2,d3I (by omega),d4j];exact hy
   have g2:vc L (qa .i64 (qb za z))=some [x0,x1,x2,x3,x4]:=by rw[wa,r2,d3I (by omega),d4j];exact hx
   have g3:∀v,vc (vf L (qa .i64 (qb za z)) v) (qa .i64 (qb zb z))=some [y0,y1,y2,y3,y4]:=λv=>by rw[wb,wa,r2,d3I (by omega),m4,d4j,d4j,d4i (by omega)];exact hy
   have hsw:a1I a b (j+1) rows=(L.set (a+j) [y0,y1,y2,y3,y4]).set (b+j) [x0,x1,x2,x3,x4]:=by
    rw[a1I,<-hL,hx,hy]
   rw[hlt];cbv;refine gn ?_
   repeat (first|(rw[g1];cbv)|(rw[g2];cbv)|(rw[g3];cbv)|(with_reducible apply j6 hA;cbv))
   replace hz:z=(j:Int):=hz;have hz1:qa .i64 (qb z 1)=((j+1:Nat):Int):=by rw[e1,e2,hz,IntWalk.i64_in _ (by omega)];omega
   refine⟨(qa .i64 (qb z 1),vf (vf L (qa .i64 (qb za z)) [y0,y1,y2,y3,y4]) (qa .i64 (qb zb z)) [x0,x1,x2,x3,x4]),⟨j+1,hz1,h9,?_⟩,?_,?_⟩
   ·show vf (vf L _ _) _ _=_;rw[m4,m4,wa,wb,d4j,d4j,hsw]
   ·show k - (qa .i64 (qb z 1)).toNat<k - z.toNat;rw[hz1,hz];omega
   ·cbv
  ·rw[d3P h9] at hlt;rw[hlt];cbv;refine gn ?_;have hjk:j=k:=by omega
   exact hK [] [.row false 124 L] ⟨rfl,by rw[hS,<-hjk,<-hL]⟩
theorem c2C (P X Y S:List Rw) (h5:∀x∈P++(X++(Y++S)),x.length=5) (fid:Nat) (hN:(P++(X++(Y++S))).length<=1048576) (hx:0<X.length) (hy:0<Y.length) :
  E8 135 [.own 0,vi .i64 P.length,vi .i64 (P.length+X.length:Nat),vi .i64 (P.length+X.length+Y.length:Nat),.cl fid []] [.row false 124 (P++(X++(Y++S)))] (λres os=>res=[]/\os=[.row false 124 (P++(Y++(X++S)))]):=by
 obtain⟨za,hza⟩:∃z:Int,z=(P.length:Int):=⟨_,rfl⟩;obtain⟨zm,hzm⟩:∃z:Int,z=((P.length+X.length:Nat):Int):=⟨_,rfl⟩;obtain⟨zb,hzb⟩:∃z:Int,z=((P.length+X.length+Y.length:Nat):Int):=⟨_,rfl⟩;obtain⟨L,hL⟩:∃L,L=P++(X++(Y++S)):=⟨_,rfl⟩;obtain⟨M,hM⟩:∃M,M=P++(Y++(X++S)):=⟨_,rfl⟩;rw[<-hza,<-hzm,<-hzb,<-hM,<-hL];rw[<-hL] at h5 hN;have hLl:L.length=P.length+X.length+Y.length+S.length:=by rw[hL];simp only[d3K];omega
 refine a1B Tryz.func135 rfl (by kernel_rfl) (by kernel_rfl) (by kernel_rfl) rfl rfl (by rintro _ _ ⟨_,rfl⟩;rfl) ?_;intro qa qb qc _ _ _ _ qi _ qk;intros;rename_i hA K hK;cbv;refine gn ?_;try simp only[nc] at *
 obtain⟨e1,e2,e3,e4,e5,e6,e7,e8,e9⟩:=m6 hA;have wi:qa .i64 (qc zm za)=(X.length:Int):=by rw[e1,e3,hza,hzm,IntWalk.i64_in _ (by omega)];omega
 have wj:qa .i64 (qc zb zm)=(Y.length:Int):=by rw[e1,e3,hzb,hzm,IntWalk.i64_in _ (by omega)];omega
 refine n9 hA (γ:=Int×Int×List (List D)) (λx=>[(10,vi .i64 x.1),(11,vi .i64 x.2.1)]) (λx=>[(0,.row false 124 x.2.2)])
  (λx=>∃P' X' Y' S':List Rw,0<X'.length/\0<Y'.length/\P'.length+X'.length=P.length+X.length/\x.1=(X'.length:Int)/\x.2.1=(Y'.length:Int)/\P'++(Y'++(X'++S'))=M/\x.2.2=P'++(X'++(Y'++S'))/\x.2.2.length=L.length/\∀r∈x.2.2,r.length=5) (λx=>x.1.toNat+x.2.1.toNat) (qa .i64 (qc zm za),qa .i64 (qc zb zm),L) ?_ ?_ ?_
 ·exact⟨P,X,Y,S,hx,hy,rfl,wi,wj,hM.symm,hL,rfl,h5⟩
 ·cbv
 ·intro x hinv;obtain⟨zi,zj,Q⟩:=x;cbv;refine gn ?_;try simp only[nc] at *
  obtain⟨P',X',Y',S',hx',hy',hm,hi,hj,he,hQ,hQl,hQ5⟩:=hinv;replace hQ:Q=P'++(X'++(Y'++S')):=hQ;replace hQl:Q.length=L.length:=hQl;have hQl2:Q.length=P'.length+X'.length+Y'.length+S'.length:=by rw[hQ];simp only[d3K];omega
  have heq:qk zi zj=(zi == zj):=e9 _ _;have hgt:qi zj zi=decide (Y'.length<X'.length):=by rw[e7,hi,hj];exact d3X.2 (by omega)
  have wp:qa .i64 (qc zm zi)=(P'.length:Int):=by rw[e1,e3,hzm,hi,IntWalk.i64_in _ (by omega)];omega
  by_cases hij:X'.length=Y'.length
  ·have h1:qk zi zj=true:=by rw[heq,hi,hj,hij];exact d4G _
   have hsp:=a4F P' X' [] Y' S' hij;rw[d44,d44,<-hQ,he,d3Y,d4E] at hsp;have hsw:=b6x Q hQ5 P'.length (P'.length+X'.length) X'.length fid (by omega) (d3Q _) (by omega);rw[hsp,<-wp,hm,<-hzm,<-hi] at hsw;rw[h1];cbv;refine gn ?_;try simp only[nc] at *
   refine K6 hA [0] hsw ⟨rfl,rfl,rfl,rfl,rfl,rfl,rfl⟩ ?_
   rintro res os2 ⟨rfl,rfl⟩
   cbv;refine gn ?_;try simp only[nc] at *
   exact hK [] [.row false 124 M] ⟨rfl,rfl⟩
  ·have h1:qk zi zj=false:=by rw[heq,hi,hj,d4x];omega
   rw[h1];cbv;refine gn ?_;try simp only[nc] at *
   by_cases hlt:Y'.length<X'.length
   ·rw[d3S hlt] at hgt;obtain⟨X1,X2,hX,hX1⟩:=a2x (l:=X') (n:=Y'.length) (by omega);have hX2:Y'.length+X2.length=X'.length:=by rw[hX,d3K];omega
    have hsp:=a4F P' X1 X2 Y' S' hX1;have hQ2:P'++(X1++(X2++(Y'++S')))=Q:=by rw[hQ,hX];simp only[d4q]
    rw[hQ2,hX1] at hsp;have hsw:=b6x Q hQ5 P'.length (P'.length+Y'.length+X2.length) Y'.length fid (by omega) (by omega) (by omega);rw[hsp,show P'.length+Y'.length+X2.length=P.length+X.length by omega,<-wp,<-hzm,<-hj] at hsw;rw[hgt];cbv;refine gn ?_;try simp only[nc] at *
    refine K6 hA [0] hsw ⟨rfl,rfl,rfl,rfl,rfl,rfl,rfl⟩ ?_
    rintro res os2 ⟨rfl,rfl⟩
    cbv;refine gn ?_;try simp only[nc] at *
    have wz:qa .i64 (qc zi zj)=(X2.length:Int):=by rw[e1,e3,hi,hj,IntWalk.i64_in _ (by omega)];omega
    have hmu:(qa .i64 (qc zi zj)).toNat+zj.toNat<zi.toNat+zj.toNat:=by rw[wz,hi,hj];omega
    refine⟨(qa .i64 (qc zi zj),zj,P'++(Y'++(X2++(X1++S')))),⟨P'++Y',X2,X1,S',by omega,by omega,by rw[d3K];omega,wz,by rw[hX1];exact hj,?_,by simp only[d4q],?_,?_⟩,hmu,?_⟩
    ·rw[<-he,hX];simp only[d4q]
    ·show (P'++(Y'++(X2++(X1++S')))).length=L.length;rw[<-hQl,<-hQ2];simp only[d3K];omega
    ·intro r hr;refine hQ5 r ?_;rw[<-hQ2];simp only[d4s] at hr ⊢
     grind
    ·cbv
   ·rw[d3P hlt] at hgt;obtain⟨Y1,Y2,hY,hY1⟩:=a2x (l:=Y') (n:=Y'.length - X'.length) (by omega);have hY2:Y2.length=X'.length:=by have:=congrArg List.length hY;rw[d3K] at this;omega
    have hsp:=a4F P' X' Y1 Y2 S' hY2.symm;have hQ2:P'++(X'++(Y1++(Y2++S')))=Q:=by rw[hQ,hY];simp only[d4q]
    rw[hQ2] at hsp;have hsw:=b6x Q hQ5 P'.length (P'.length+X'.length+Y1.length) X'.length fid (by omega) (by omega) (by omega)
    have wq:qa .i64 (qc (qa .i64 (qb zm zj)) zi)=((P'.length+X'.length+Y1.length:Nat):Int):=by
     have h2:qa .i64 (qb zm zj)=((P.length+X.length+Y'.length:Nat):Int):=by rw[e1,e2,hzm,hj,IntWalk.i64_in _ (by omega)];omega
     rw[h2,e1,e3,hi,IntWalk.i64_in _ (by omega)];omega
    rw[hsp,<-wp,<-wq,<-hi] at hsw;rw[hgt];cbv;refine gn ?_;try simp only[nc] at *
    refine K6 hA [0] hsw ⟨rfl,rfl,rfl,rfl,rfl,rfl,rfl⟩ ?_
    rintro res os2 ⟨rfl,rfl⟩
    cbv;refine gn ?_;try simp only[nc] at *
    have wz:qa .i64 (qc zj zi)=(Y1.length:Int):=by rw[e1,e3,hi,hj,IntWalk.i64_in _ (by omega)];omega
    have hmu:zi.toNat+(qa .i64 (qc zj zi)).toNat<zi.toNat+zj.toNat:=by rw[wz,hi,hj];omega
    refine⟨(zi,qa .i64 (qc zj zi),P'++(Y2++(Y1++(X'++S')))),⟨P',Y2,Y1,X'++S',by omega,by omega,by omega,by rw[hY2];exact hi,wz,?_,rfl,?_,?_⟩,hmu,?_⟩
    ·rw[<-he,hY];simp only[d4q]
    ·show (P'++(Y2++(Y1++(X'++S')))).length=L.length;rw[<-hQl,<-hQ2];simp only[d3K];omega
    ·intro r hr;refine hQ5 r ?_;rw[<-hQ2];simp only[d4s] at hr ⊢
     grind
    ·cbv
def a5r (a b:List UInt8):Int:=if Op.bytesLess a b=true then -1 else if Op.bytesLess b a=true then 1 else 0
theorem a6K (a b:List UInt8):decide (a5r a b<0)=Op.bytesLess a b:=by
 unfold a5r
 split
 ·simp_all
 ·split <;> simp_all
def b3p (fid:Nat):Prop:=∀(n m:ByteArray) (x1 x2 x3 x4 y1 y2 y3 y4:D),o8 fid [.ag [.sc (.string n),x1,x2,x3,x4],.ag [.sc (.string m),y1,y2,y3,y4]] [.one (.sc (.int .i64 (a5r n.toList m.toList)))]
def Ok5 (x:Rw):Prop:=∃n x1 x2 x3 x4,x=[.sc (.string n),x1,x2,x3,x4]
theorem Ok5.len {x:Rw} (h:Ok5 x):x.length=5:=by obtain⟨n,x1,x2,x3,x4,rfl⟩:=h;rfl
theorem b6y (l:List Rw) (x:Rw) {m:List Rw} (hs:Srt H1 m) (ht:Sta H1 m (r7 H1 l++[x])):m=r7 H1 (l++[x]):=b8g a0e hs (ht.trans (Sta.append (a1F a0e l) (.refl _)))
theorem b4K (fid:Nat) (hc:b3p fid) (P D S:List Rw) (h5:∀x∈P++(D++S),Ok5 x) (hN:(P++(D++S)).length<=1048576) :
  E8 130 [.own 0,vi .i64 P.length,vi .i64 (P.length+D.length:Nat),.cl fid []] [.row false 124 (P++(D++S))] (λres os=>res=[]/\os=[.row false 124 (P++(r7 H1 D++S))]):=by
 obtain⟨za,hza⟩:∃z:Int,z=(P.length:Int):=⟨_,rfl⟩;obtain⟨zb,hzb⟩:∃z:Int,z=((P.length+D.length:Nat):Int):=⟨_,rfl⟩;obtain⟨L,hL⟩:∃L,L=P++(D++S):=⟨_,rfl⟩;obtain⟨M,hM⟩:∃M,M=P++(r7 H1 D++S):=⟨_,rfl⟩;rw[<-hza,<-hzb,<-hM,<-hL];rw[<-hL] at h5 hN;have hLl:L.length=P.length+D.length+S.length:=by rw[hL];simp only[d3K];omega
 refine a1B Tryz.func130 rfl (by kernel_rfl) (by kernel_rfl) (by kernel_rfl) rfl rfl (by rintro _ _ ⟨_,rfl⟩;rfl) ?_;intro qa qb qc _ _ _ _ qi _ _ _ _ _ _ _ _ _ _ _ _ _ _ _ vc _ _ vf;intros;rename_i hA K hK;cbv;refine gn ?_;try simp only[nc] at *
 obtain⟨e1,e2,e3,e4,e5,e6,e7,e8,e9⟩:=m6 hA;obtain⟨r1,r2,r3,r4⟩:=B3 hA;obtain⟨m1,m2,m3,m4⟩:=a0X hA;have wi:qa .i64 (qb za 1)=((P.length+1+0:Nat):Int):=by rw[e1,e2,hza,IntWalk.i64_in _ (by omega)];omega
 refine n9 hA (γ:=Int×List Rw) (λx=>[(8,vi .i64 x.1)]) (λx=>[(0,.row false 124 x.2)])
  (λx=>∃k:Nat,x.1=((P.length+1+k:Nat):Int)/\(k=0\/k+1<=D.length)/\x.2=P++(r7 H1 (D.take (k+1))++(D.drop (k+1)++S))/\x.2.length=L.length/\∀r∈x.2,r∈L) (λx=>L.length+1 - x.1.toNat) (qa .i64 (qb za 1),L) ?_ ?_ ?_
 ·refine⟨0,wi,.inl rfl,?_,rfl,λr h=>h⟩
  have:r7 H1 (D.take 1)=D.take 1:=by
   cases D with
   | nil=>rfl
   | cons d D=>rfl
  show L=_;rw[this,hL,<-d4q (D.take 1),d46]
 ·cbv
 ·intro x hinv;obtain⟨z,Q⟩:=x;cbv;refine gn ?_;try simp only[nc] at *
  obtain⟨k,hz,hk,hQ,hQl,hQm⟩:=hinv;have hlt:qi z zb=decide (k+1<D.length):=by rw[e7,hz,hzb];exact d3X.2 (by omega)
  by_cases h9:k+1<D.length
  ·rw[d3S h9] at hlt;obtain⟨x,hx⟩:∃x,D[k+1]?=some x:=⟨_,d3H h9⟩;obtain⟨hxi,hxe⟩:=d3J.1 hx;obtain⟨D1,hD1⟩:∃D1,D1=D.take (k+1):=⟨_,rfl⟩;obtain⟨D2,hD2⟩:∃D2,D2=D.drop (k+1+1):=⟨_,rfl⟩;have hdrop:D.drop (k+1)=x::D2:=by rw[hD2,d4c hxi,hxe]
   have htake:D.take (k+1+1)=D1++[x]:=by rw[hD1];exact b0r hx
   rw[<-hD1,hdrop] at hQ;obtain⟨E,hE⟩:∃E,E=r7 H1 D1:=⟨_,rfl⟩;rw[<-hE] at hQ;have hEl:E.length=k+1:=by rw[hE,a37,hD1,d4n];omega
   have hEs:Srt H1 E:=by rw[hE];exact a1E a0e D1
   have hxm:x∈L:=hQm x (by rw[hQ];simp);obtain⟨nx,x1,x2,x3,x4,hxx⟩:=h5 x hxm;rw[hlt];cbv;refine gn ?_;try simp only[nc] at *
   refine n9 hA (γ:=Int×List Rw) (λx=>[(9,vi .i64 x.1)]) (λx=>[(0,.row false 124 x.2)])
    (λy=>∃L1 L2:List Rw,y.1=((P.length+L1.length:Nat):Int)/\E=L1++L2/\(∀r∈L2,H1 x r=true)/\y.2=P++(L1++(x::(L2++(D2++S))))/\y.2.length=L.length/\∀r∈y.2,r∈L) (λy=>y.1.toNat) (z,Q) ?_ ?_ ?_
   ·exact⟨E,[],by rw[hEl];show z=_;rw[hz];congr 1;omega,by simp,by simp,by rw[hQ];simp,hQl,hQm⟩
   ·cbv
   ·intro y hinv;obtain⟨zj,N⟩:=y;cbv;refine gn ?_;try simp only[nc] at *
    obtain⟨L1,L2,hj,hEE,hL2,hNN,hNl,hNm⟩:=hinv;have hLAST:=λ(h1:∀y∈L1,H1 x y=false)=>a55 a0e (x:=x) (u1:=L1) (u2:=L2) (by rw[<-hEE];exact hEs) h1 hL2
    have hNl2:N.length=P.length+L1.length+1+L2.length+D2.length+S.length:=by rw[hNN];simp only[d3K,d3O];omega
    have hz1:qa .i64 (qb z 1)=((P.length+1+(k+1):Nat):Int):=by rw[e1,e2,hz,IntWalk.i64_in _ (by omega)];omega
    have hmz:L.length+1 - (qa .i64 (qb z 1)).toNat<L.length+1 - z.toNat:=by rw[hz1,hz];omega
    have hdone:(∀y∈L1,H1 x y=false)->N=P++(r7 H1 (D.take (k+1+1))++(D.drop (k+1+1)++S)):=λh=>by
     obtain⟨h1,h2⟩:=hLAST h;have h3:L1++x::L2=r7 H1 (D1++[x]):=b6y D1 x h1 (by rw[<-hE,hEE];exact h2);rw[htake,<-hD2,<-h3,hNN]
     simp
    rcases (show L1=[]\/∃L y,L1=L++[y] by simpa [List.concat_eq_append] using List.eq_nil_or_concat L1) with hnil|⟨L0,y,hsn⟩
    ·have hlt2:qi za zj=false:=by rw[e7,hza,hj,hnil];simp
     rw[hlt2];cbv;refine gn ?_;try simp only[nc] at *
     refine⟨(qa .i64 (qb z 1),N),⟨k+1,hz1,.inr h9,hdone (by rw[hnil];simp),hNl,hNm⟩,hmz,?_⟩;cbv
    ·have hl1:L1.length=L0.length+1:=by rw[hsn];simp
     have hlt2:qi za zj=true:=by rw[e7,hza,hj];exact d3S (by omega)
     have hym:y∈L:=hNm y (by rw[hNN,hsn];simp);obtain⟨ny,y1,y2,y3,y4,hyy⟩:=h5 y hym;have wj:qa .i64 (qc zj 1)=((P.length+L0.length:Nat):Int):=by rw[e1,e3,hj,IntWalk.i64_in _ (by omega)];omega
     have hNP:N=(P++L0)++y::x::(L2++(D2++S)):=by rw[hNN,hsn];simp
     have hpl:(P++L0).length=P.length+L0.length:=d3K
     have gx:vc N zj=some [.sc (.string nx),x1,x2,x3,x4]:=by
      rw[r2,d3I (by omega),hj,d4j,hNP,d3V (by omega),hpl,show P.length+L1.length - (P.length+L0.length)=1 by omega,<-hxx];rfl
     have gy:vc N (qa .i64 (qc zj 1))=some [.sc (.string ny),y1,y2,y3,y4]:=by
      rw[wj,r2,d3I (by omega),d4j,hNP,d3V (by omega),hpl,d4V,<-hyy];rfl
     have gy2:∀v,vc (vf N zj v) (qa .i64 (qc zj 1))=some [.sc (.string ny),y1,y2,y3,y4]:=λv=>by
      rw[<-gy,r2,r2,m4,wj,hj,d4j,d4j,d4i (by omega)]
     have hcmp:=hc nx ny x1 x2 x3 x4 y1 y2 y3 y4;have hneg:qi (a5r nx.toList ny.toList) 0=H1 x y:=by rw[e7,a6K,hxx,hyy];rfl
     generalize a5r nx.toList ny.toList=cv at *;rw[hlt2];cbv;refine gn ?_;try simp only[nc] at *
     repeat (first|(rw[gx];cbv)|(rw[gy];cbv)|(with_reducible apply j6 hA;cbv))
     refine l9 hA _ hcmp ?_;cbv;cases hb:H1 x y
     ·rw[hb] at hneg;rw[hneg];cbv;refine gn ?_;try simp only[nc] at *
      refine⟨(qa .i64 (qb z 1),N),⟨k+1,hz1,.inr h9,hdone ?_,hNl,hNm⟩,hmz,?_⟩
      ·rw[hsn];exact c8S (by rw[<-hsn];exact(K3.1 (by rw[<-hEE];exact hEs)).1) hb
      ·cbv
     ·rw[hb] at hneg;rw[hneg];cbv;refine gn ?_;try simp only[nc] at *
      repeat (first|(rw[gx];cbv)|(rw[gy];cbv)|(rw[gy2];cbv)|(with_reducible apply j6 hA;cbv))
      try simp only[nc] at *
      refine⟨(qa .i64 (qc zj 1),vf (vf N zj [.sc (.string ny),y1,y2,y3,y4]) (qa .i64 (qc zj 1)) [.sc (.string nx),x1,x2,x3,x4]),⟨L0,y::L2,wj,by rw[hEE,hsn];simp,?_,?_,?_,?_⟩,?_,?_⟩
      ·intro r hr
       rcases d3R.1 hr with rfl|hr
       ·exact hb
       ·exact hL2 r hr
      ·show vf (vf N zj _) _ _=_;rw[m4,m4,wj,hj,d4j,d4j,hNP,<-hxx,<-hyy,show P.length+L1.length=P.length+L0.length+1 by omega,b4H _ _ _ _ hpl]
       simp
      ·show (vf (vf N zj _) _ _).length=_;rw[m4,m4,d4k,d4k];exact hNl
      ·intro r hr;have hr:r∈vf (vf N zj [.sc (.string ny),y1,y2,y3,y4]) (qa .i64 (qc zj 1)) [.sc (.string nx),x1,x2,x3,x4]:=hr;rw[m4,m4,<-hxx,<-hyy] at hr
       rcases d4J hr with hr|rfl
       ·rcases d4J hr with hr|rfl
        ·exact hNm r hr
        ·exact hym
       ·exact hxm
      ·show (qa .i64 (qc zj 1)).toNat<zj.toNat;rw[wj,hj];omega
      ·cbv
  ·rw[d3P h9] at hlt;rw[hlt];cbv;refine gn ?_;try simp only[nc] at *
   have e:Q=M:=by rw[hQ,hM,d4z (by omega),d4w (by omega)];rfl
   rw[e];exact hK [] [.row false 124 M] ⟨rfl,rfl⟩
end Go.Proofs.YtdjnoafijjepcaaGreat.Vm
end

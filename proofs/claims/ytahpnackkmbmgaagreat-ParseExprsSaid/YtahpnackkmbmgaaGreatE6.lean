/- Part 6 of the proof. Conditions: none. -/
import Derived.Test.YtahpnackkmbmgaaGreatE1
import Derived.Test.YtahpnackkmbmgaaGreatE4
import Derived.Test.YtahpnackkmbmgaaGreatE5
import Derived.IntWalk
import Derived.Test.YtahpnackkmbmgaaGreatE0
set_option linter.all false
set_option linter.unusedVariables false
set_option linter.unusedSimpArgs false
section
namespace Go.Proofs.YtahpnackkmbmgaaGreat
open Go.RowKit
set_option maxRecDepth 100000
set_option maxHeartbeats 4000000
theorem c4c {l:List Int} {a:Nat} {out:List Tok} (hb:Byt l) (h:a<l.length) (hc:gb l a=10):o7 l a true out=o7 l a false out:=by
 have hn:=a3f hb h (by omega)
 rw [a60 h (by omega),a5D h (by omega) ((a3g _).2 (by omega)),hn,hc]
 rfl
theorem b0C {l:List Int} {a:Nat} {out:List Tok} (hb:Byt l) (h:a<l.length) (hc:gb l a=35):o7 l a false out=o7 l a true out:=by
 have hn:=a3f hb h (by omega)
 rw [a60 h (by omega),b1u h (by omega) hc,hn,hc]
 rfl
theorem b7v {l:List Int} {a:Nat} (h:a<l.length):a+E2 (l.drop a)≤l.length:=by
 have:=c3X (l.drop a) (by rw [d3x];omega)
 rw [d3x] at this
 omega
theorem a61 (l:List Int):(strOfNums l).size=l.length:=by
 simp [strOfNums,ByteArray.size]
theorem b2A (p:Int→Bool):∀(n:Nat) (m:List Int),n≤m.length→(∀i,i<n→p (gb m i)=true)→(n=m.length∨p (gb m n)=false)→m.takeWhile p=m.take n:=by
 intro n
 induction n with
 | zero =>
  intro m _ _ h
  cases m with
  | nil=>rfl
  | cons x xs =>
   rcases h with h|h
   ·simp at h
   ·have:p x=false:=by simpa [gb] using h
    simp [this]
 | succ n ih =>
  intro m hn hp h
  cases m with
  | nil=>simp at hn
  | cons x xs =>
   have:p x=true:=by simpa [gb] using hp 0 (by omega)
   rw [List.takeWhile_cons,this,d5s]
   simp only [d4S]
   rw [ih xs (by simpa using hn) (fun i hi=>by simpa [gb] using hp (i+1) (by omega)) (h.imp (fun h=>by simpa using h) (fun h=>by simpa [gb] using h))]
theorem b4m {l:List Int} {a k:Nat} (hak:a≤k) (hk:k≤l.length) (h:∀i,a≤i→i<k→I6 (gb l i)=true) (he:k=l.length∨I6 (gb l k)=false):J2 l a=(l.drop a).take (k - a)∧(J2 l a).length=k - a:=by
 have e:J2 l a=(l.drop a).take (k - a):=by
  unfold J2
  refine b2A I6 (k - a) (l.drop a) (by rw [d3x];omega) (fun i hi=>?_) ?_
  ·rw [a3o];exact h _ (by omega) (by omega)
  ·rw [a3o,d3x]
   rcases he with he|he
   ·exact .inl (by omega)
   ·right;rw [←he];congr 2;omega
 refine ⟨e,?_⟩
 rw [e,d3v,d3x];omega
theorem b4n {c:Int} (h:I6 c=true):L6 c=false∧c≠35∧c<128:=by
 unfold I6 a09 a4h E9 at h
 simp at h
 rw [a9C]
 omega
theorem c1u {l:List Int} {a k:Nat} {S:ByteArray} {rc:Int} {t:Tok} (hb:Byt l) (ha:a<l.length) (hr:I6 (gb l a)=true) (hS:S=strOfNums (J2 l a)) (hlen:(J2 l a).length=k - a) (hak:a<k) (hrc:rc=(a0k S a).2)
  (h0:rc=0) (ht:t=(a0k S a).1) (out:List Tok):o7 l a false out=o7 l k false (out++[t]):=by
 obtain ⟨h1,h2,h3⟩:=b4n hr
 rw [b4i ha (by rw [a3f hb ha h3];omega) h1 h2 hr,←hS,←hrc,d2S h0,←ht,hlen,show a+(k - a)=k by omega]
theorem b7w {l:List Int} {a:Nat} {S:ByteArray} {rc:Int} (hb:Byt l) (ha:a<l.length) (hr:I6 (gb l a)=true) (hS:S=strOfNums (J2 l a)) (hrc:rc=(a0k S a).2)
  (h0:rc≠0) (out:List Tok):o7 l a false out=([],(a:Int),rc):=by
 obtain ⟨h1,h2,h3⟩:=b4n hr
 rw [b4i ha (by rw [a3f hb ha h3];omega) h1 h2 hr,←hS,←hrc,d2T h0]
theorem b5K (c:Int):L6 c=true∨(L6 c=false∧c=35)∨(L6 c=false∧c≠35∧I6 c=true)∨(L6 c=false∧c≠35∧I6 c=false):=by
 cases L6 c <;> cases I6 c <;> by_cases h:c=35 <;> simp [h]
theorem a7M {c:Int} (h:L6 c=false):(c == 32)=false∧(c == 9)=false∧(c == 13)=false∧(c == 10)=false:=by
 rw [a9C] at h
 simp only [d34,ne_eq]
 omega
end Go.Proofs.YtahpnackkmbmgaaGreat
end
section
namespace Go.Proofs.YtahpnackkmbmgaaGreat.Vm
open Go.RowKit
set_option maxRecDepth 100000
set_option maxHeartbeats 4000000
def scB (R:List (List D)) (z:Int):List O:=[.box [.d (.sl 1 R),vi .i64 z]]
def c6S (l:List Int) (a:Nat) (res:List V) (os:List O):Prop :=
 ∃(k:Nat) (ok:Bool),res=[vb ok]∧os=scB (K7 l) (k:Int)∧a≤k∧k≤l.length∧(ok=true→(k=l.length∨gb l k=10)∧∀out,o7 l a true out=o7 l k false out)∧(ok=false→∀out,o7 l a true out=([],(k:Int),3))
theorem c1v {l:List Int} (hb:Byt l) {a:Nat} (ha:a≤l.length) (hl:l.length≤65536):v8 73 [.ptr 0 0] (scB (K7 l) (a:Int)) (c6S l a):=by
 have hget:=fun k (h:k<l.length)=>a08 (l:=l) (k:=k) h
 have hn0:((K7 l).length:Int)=(l.length:Int):=by rw [T3]
 have hN:=fun k (h:k<l.length)=>c9h hb (a:=k) h (by omega)
 obtain ⟨Q,hQ⟩:∃Q,Q=c6S l a:=⟨_,rfl⟩
 rw [←hQ]
 have hend:∀k ok,a≤k→k≤l.length→(ok=true→(k=l.length∨gb l k=10)∧∀out,o7 l a true out=o7 l k false out)→(ok=false→∀out,o7 l a true out=([],(k:Int),3))→Q [vb ok] (scB (K7 l) (k:Int)):=fun k ok h1 h2 h3 h4=>by
  rw [hQ];exact ⟨k,ok,rfl,rfl,h1,h2,h3,h4⟩
 unfold scB at *
 generalize K7 l=R at *
 obtain ⟨N,hNN⟩:∃N,N=(l.length:Int):=⟨_,rfl⟩
 rw [←hNN] at hn0
 obtain ⟨A,hAA⟩:∃A,A=(a:Int):=⟨_,rfl⟩
 rw [←hAA]
 obtain ⟨inv,hi⟩:∃inv:Int→Prop,inv=fun z=>∃k:Nat,z=(k:Int)∧a≤k∧k≤l.length∧∀out,o7 l a true out=o7 l k true out:=⟨_,rfl⟩
 have hi0:inv A:=by rw [hi];exact ⟨a,hAA,d3b _,ha,fun _=>rfl⟩
 refine Z5 Tryz.func73 rfl ?_;intro qa qb _ _ _ _ _ qi _ qk;intros;rename_i hA
 have q0:=en hA hn0
 try cbv;refine gr ?_;try simp only [nc] at *
 refine j9 hA (γ:=Int) (fun z=>[(29,.jk),(38,.jk)]) (fun z=>[(0,.box [.d (.sl 1 R),vi .i64 z])]) inv (fun z=>l.length - z.toNat) A hi0 ?_ ?_
 ·cbv
 ·intro z hinv
  cbv;refine gn ?_;try simp only [nc] at *
  rw [hi] at hinv
  obtain ⟨k,hz,hak,hk,hE⟩:=hinv
  replace hz:z=(k:Int):=hz
  by_cases h9:k<l.length
  ·have p0:qi z N=true:=el hA (d3a (by omega))
   have g0:=eg hA (hget k h9)
   have c0:=hN k h9
   rw [←hz] at g0 c0
   have hfin:=hend k
   rw [←hz] at hfin
   have hs1:=fun out h=>c4c (out:=out) hb h9 h
   have hs2:=fun out h=>a9B (rem:=true) (out:=out) h9 h
   have hs3:=fun out h=>a60 (out:=out) h9 h
   have hbd:=fun h=>c5F (l:=l) (a:=k) h
   by_cases h10:gb l k=10
   ·have p1:qk 10 10=true:=eb hA rfl
    rw [h10] at g0
    have hF:=hfin true hak hk (fun _=>⟨.inr h10,fun out=>(hE out).trans (hs1 out h10)⟩) (fun h=>by cases h)
    try cbv;refine gr ?_;try simp only [nc] at *
    exact m9 hA [0] ⟨rfl,rfl,rfl,rfl,rfl,rfl,rfl,rfl⟩ hF
   ·have p1:qk (gb l k) 10=false:=eb hA (d2Y h10)
    by_cases h0:nx l k=0
    ·have hF:=hfin false hak hk (fun h=>by cases h) (fun _ out=>(hE out).trans (by rw [hs2 out h0,hz]))
     rw [d2S h0,d2S h0] at c0
     generalize gb l k=c at *
     generalize ((nx l k:Nat):Int)=n at *
     have p2:qk 3 0=false:=eb hA rfl
     try cbv;refine gr ?_;try simp only [nc] at *
     exact m9 hA [0] ⟨rfl,rfl,rfl,rfl,rfl,rfl,rfl,rfl⟩ hF
    ·rw [d2T h0,d2T h0] at c0
     have hb2:=hbd h0
     have hb3:=hb2.2.2 h9
     have hE2:∀out,o7 l a true out=o7 l (k+nx l k) true out:=fun out=>(hE out).trans (by rw [hs3 out h0,show (gb l k != 10)=true from bne_iff_ne.2 h10])
     generalize gb l k=c at *
     generalize rn l k=r at *
     have hi2:inv ((k+nx l k:Nat):Int):=by rw [hi];exact ⟨_,rfl,by omega,hb3,hE2⟩
     have p3:qa .i64 (qb z ((nx l k:Nat):Int))=((k+nx l k:Nat):Int):=ew hA (by rw [IntWalk.i64_in _ (by omega)];omega)
     have hm:l.length - ((k+nx l k:Nat):Int).toNat<l.length - z.toNat:=by omega
     generalize ((k+nx l k:Nat):Int)=z1 at *
     generalize ((nx l k:Nat):Int)=n at *
     have p2:qk 0 0=true:=eb hA rfl
     try cbv;refine gr ?_;try simp only [nc] at *
     refine ⟨z1,hi2,hm,?_⟩
     cbv
  ·have p0:qi z N=false:=el hA (d2U (by omega))
   have hF:=hend k true hak hk (fun _=>⟨.inl (by omega),fun out=>(hE out).trans (by rw [a6z (by omega),a6z (by omega)])⟩) (fun h=>by cases h)
   rw [←hz] at hF
   try cbv;refine gr ?_;try simp only [nc] at *
   exact m9 hA [0] ⟨rfl,rfl,rfl,rfl,rfl,rfl,rfl,rfl⟩ hF
def c6T (l:List Int) (a:Nat) (res:List V) (os:List O):Prop :=
 ∃(k:Nat) (ok:Bool),res=[vb ok]∧os=scB (K7 l) (k:Int)∧a≤k∧k≤l.length∧(ok=true→(k<l.length→L6 (gb l k)=false∧gb l k≠35)∧∀out,o7 l a false out=o7 l k false out)∧(ok=false→∀out,o7 l a false out=([],(k:Int),3))
theorem c1w {l:List Int} (hb:Byt l) {a:Nat} (ha:a≤l.length) (hl:l.length≤65536):v8 40 [.ptr 0 0] (scB (K7 l) (a:Int)) (c6T l a):=by
 have hget:=fun k (h:k<l.length)=>a08 (l:=l) (k:=k) h
 have hn0:((K7 l).length:Int)=(l.length:Int):=by rw [T3]
 have hR:=fun k (h:k≤l.length)=>c1v hb (a:=k) h hl
 unfold c6S at hR
 obtain ⟨Q,hQ⟩:∃Q,Q=c6T l a:=⟨_,rfl⟩
 rw [←hQ]
 have hend:∀k ok,a≤k→k≤l.length→(ok=true→(k<l.length→L6 (gb l k)=false∧gb l k≠35)∧∀out,o7 l a false out=o7 l k false out)→(ok=false→∀out,o7 l a false out=([],(k:Int),3))→Q [vb ok] (scB (K7 l) (k:Int)):=fun k ok h1 h2 h3 h4=>by
  rw [hQ];exact ⟨k,ok,rfl,rfl,h1,h2,h3,h4⟩
 unfold scB at *
 generalize K7 l=R at *
 obtain ⟨N,hNN⟩:∃N,N=(l.length:Int):=⟨_,rfl⟩
 rw [←hNN] at hn0
 obtain ⟨A,hAA⟩:∃A,A=(a:Int):=⟨_,rfl⟩
 rw [←hAA]
 obtain ⟨inv,hi⟩:∃inv:Int→Prop,inv=fun z=>∃k:Nat,z=(k:Int)∧a≤k∧k≤l.length∧∀out,o7 l a false out=o7 l k false out:=⟨_,rfl⟩
 have hi0:inv A:=by rw [hi];exact ⟨a,hAA,d3b _,ha,fun _=>rfl⟩
 refine Z5 Tryz.func40 rfl ?_;intro qa qb _ _ _ _ _ qi _ qk;intros;rename_i hA
 have q0:=en hA hn0
 try cbv;refine gr ?_;try simp only [nc] at *
 refine j9 hA (γ:=Int) (fun z=>[]) (fun z=>[(0,.box [.d (.sl 1 R),vi .i64 z])]) inv (fun z=>l.length - z.toNat) A hi0 ?_ ?_
 ·cbv
 ·intro z hinv
  cbv;refine gn ?_;try simp only [nc] at *
  rw [hi] at hinv
  obtain ⟨k,hz,hak,hk,hE⟩:=hinv
  replace hz:z=(k:Int):=hz
  by_cases h9:k<l.length
  ·have p0:qi z N=true:=el hA (d3a (by omega))
   have g0:=eg hA (hget k h9)
   rw [←hz] at g0
   have hc0:=G0 hb k
   have hs1:=fun out h=>a5D (out:=out) h9 (by rw [a3f hb h9 (by have:=(a3g _).1 h;omega)];decide) h
   have hs2:=fun out h=>b0C (out:=out) hb h9 h
   by_cases hbl:L6 (gb l k)=true
   ·have hE2:∀out,o7 l a false out=o7 l (k+1) false out:=fun out=>(hE out).trans (hs1 out hbl)
    have hi2:inv ((k+1:Nat):Int):=by rw [hi];exact ⟨_,rfl,by omega,h9,hE2⟩
    have p3:qa .i64 (qb z 1)=((k+1:Nat):Int):=ew hA (by rw [IntWalk.i64_in _ (by omega)];omega)
    have hm:l.length - ((k+1:Nat):Int).toNat<l.length - z.toNat:=by omega
    have hq:=(a3g _).1 hbl
    obtain ⟨e1,e2,e3,e4,e5,e6,e7,e8,e9⟩:=j7 hA
    clear hs1 hs2 hbl
    generalize ((k+1:Nat):Int)=z1 at *
    generalize gb l k=c at *
    rcases hq with rfl|rfl|rfl|rfl
    all_goals
     iterate 2 (try cbv;repeat ((first|with_reducible apply f8 hA|rw [q0]|rw [p0]|rw [g0]|rw [e9]|rw [p3]);cbv))
     try simp (maxSteps:=4000000) only [nc] at *
     refine ⟨z1,hi2,hm,?_⟩
     cbv
   ·have hbl':L6 (gb l k)=false:=by simpa using hbl
    have hq:=(a9C _).1 hbl'
    have f0:qk (gb l k) 32=false:=eb hA (d2Y (by omega))
    have f1:qk (gb l k) 9=false:=eb hA (d2Y (by omega))
    have f2:qk (gb l k) 13=false:=eb hA (d2Y (by omega))
    have f3:qk (gb l k) 10=false:=eb hA (d2Y (by omega))
    by_cases h35:gb l k=35
    ·have hr:=hR k hk
     have f4:qk 35 35=true:=eb hA rfl
     rw [←hz] at hr
     have hE2:∀out,o7 l a false out=o7 l k true out:=fun out=>(hE out).trans (hs2 out h35)
     rw [h35] at g0 f0 f1 f2 f3
     iterate 2 (try cbv;repeat ((first|with_reducible apply f8 hA|rw [q0]|rw [p0]|rw [g0]|rw [f0]|rw [f1]|rw [f2]|rw [f3]|rw [f4]);cbv))
     try simp (maxSteps:=4000000) only [nc] at *
     refine y6 hA [0] hr ⟨rfl,rfl,rfl,rfl,rfl,rfl,rfl⟩ ?_
     rintro _ _ ⟨j,ok,rfl,rfl,h1,h2,h3,h4⟩
     have hfin:=hend j
     have hiv:(∀out,o7 l a false out=o7 l j false out)→inv (j:Int):=fun h=>by rw [hi];exact ⟨j,rfl,by omega,h2,h⟩
     have hlt:ok=true→k<j:=fun h=>by
      have:=(h3 h).1
      rcases d3M k j with h'|h'
      ·exact h'
      ·have e:j=k:=by omega
       rw [e] at this
       omega
     have hjj:l.length - ((j:Nat):Int).toNat=l.length - j:=by omega
     have hzz:l.length - z.toNat=l.length - k:=by omega
     generalize ((j:Nat):Int)=y at *
     cases ok
     ·have hF:=hfin false (by omega) h2 (fun h=>by cases h) (fun _ out=>(hE2 out).trans (h4 rfl out))
      try cbv;refine gr ?_;try simp only [nc] at *
      exact m9 hA [0] ⟨rfl,rfl,rfl,rfl,rfl,rfl,rfl,rfl⟩ hF
     ·have hi2:=hiv fun out=>(hE2 out).trans ((h3 rfl).2 out)
      have hm:l.length - y.toNat<l.length - z.toNat:=by have:=hlt rfl;omega
      try cbv;refine gr ?_;try simp only [nc] at *
      refine ⟨y,hi2,hm,?_⟩
      cbv
    ·have f4:qk (gb l k) 35=false:=eb hA (d2Y h35)
     have hF:=hend k true hak hk (fun _=>⟨fun _=>⟨hbl',h35⟩,hE⟩) (fun h=>by cases h)
     rw [←hz] at hF
     clear hs1 hs2 hbl hbl' hq h35
     generalize gb l k=c at *
     iterate 2 (try cbv;repeat ((first|with_reducible apply f8 hA|rw [q0]|rw [p0]|rw [g0]|rw [f0]|rw [f1]|rw [f2]|rw [f3]|rw [f4]);cbv))
     try simp (maxSteps:=4000000) only [nc] at *
     exact m9 hA [0] ⟨rfl,rfl,rfl,rfl,rfl,rfl,rfl,rfl⟩ hF
  ·have p0:qi z N=false:=el hA (d2U (by omega))
   have hF:=hend k true hak hk (fun _=>⟨fun h=>absurd h h9,hE⟩) (fun h=>by cases h)
   rw [←hz] at hF
   try cbv;refine gr ?_;try simp only [nc] at *
   exact m9 hA [0] ⟨rfl,rfl,rfl,rfl,rfl,rfl,rfl,rfl⟩ hF
def tkV (t:Tok):List V:=[vi .u8 t.kind,vs t.text,vi .i64 t.n,vi .i64 t.at_]
def c6U (l:List Int) (a:Nat) (res:List V) (os:List O):Prop :=
 ∃(t:Tok) (c:Int) (k:Nat),res=[.ag (tkV t),vi .u8 c]∧os=scB (K7 l) (k:Int)∧k≤l.length∧(c=0→a<k∧∀out,o7 l a false out=o7 l k false (out++[t]))∧(c≠0→∀out,o7 l a false out=([],(k:Int),c))
theorem c1x {T:ByteArray} (h:T.size≠0):(T.toList == [])=false:=by
 refine d2Y fun e=>h ?_
 rw [ByteArray.toList_eq] at e
 rw [←ByteArray.size_data,←d4l,e]
 rfl
theorem c4d {l:List Int} (hb:Byt l) {a:Nat} (ha:a<l.length) (hl:l.length≤65536) (hbl:L6 (gb l a)=false) (h35:gb l a≠35):v8 41 [.ptr 0 0] (scB (K7 l) (a:Int)) (c6U l a):=by
 have hget:=fun k (h:k<l.length)=>a08 (l:=l) (k:=k) h
 have n0:((K7 l).length:Int)=(l.length:Int):=by rw [T3]
 have hlb:∀d:List Int,((K7 d).length:Int)=(d.length:Int):=fun d=>by rw [T3]
 have g0:=hget a ha
 have c0:=c1t (gb l a)
 obtain ⟨Q,hQ⟩:∃Q,Q=c6U l a:=⟨_,rfl⟩
 rw [←hQ]
 have hend:∀(kd n at_ c:Int) (tx:ByteArray) (k:Nat),k≤l.length→(c=0→a<k∧∀out,o7 l a false out=o7 l k false (out++[⟨kd,tx,n,at_⟩]))→(c≠0→∀out,o7 l a false out=([],(k:Int),c))→Q [.ag [vi .u8 kd,vs tx,vi .i64 n,vi .i64 at_],vi .u8 c] (scB (K7 l) (k:Int)):=fun kd n at_ c tx k h1 h2 h3=>by
  rw [hQ];exact ⟨⟨kd,tx,n,at_⟩,c,k,rfl,rfl,h1,h2,h3⟩
 have y0:f7.sub2 (K7 l) (a:Int) (l.length:Int)=some (K7 (l.drop a)):=by
  rw [a1R (d4K ha) (d3b _),d31 (by rw [d3x];omega)]
 have yk:=fun k (h:a≤k) (h2:k≤l.length)=>a1R (l:=l) (a:=a) (b:=k) h h2
 have c1:=c4b (a6w hb a) (by rw [d3x];omega) (by rw [d3x];omega)
 have c2:=c9h hb (a:=a) ha (by omega)
 unfold scB at *
 obtain ⟨N,hN⟩:∃N,N=(l.length:Int):=⟨_,rfl⟩
 rw [←hN] at n0 y0
 obtain ⟨A,hAA⟩:∃A,A=(a:Int):=⟨_,rfl⟩
 have hendA:=fun kd n at_ c tx=>hend kd n at_ c tx a
 rw [←hAA] at g0 y0 hendA c2 yk ⊢
 cases hr:I6 (gb l a)
 ·rw [hr] at c0
  have hs2:=fun out=>a7L (out:=out) ha
  have hs3:=fun out=>a9B (rem:=false) (out:=out) ha
  have hs4:=fun out=>b1v (out:=out) ha
  by_cases hs:E2 (l.drop a)=0
  ·rw [hs,show strOfNums ((l.drop a).take 0)=⟨⟨[]⟩⟩ from rfl] at c1
   have hF:=fun c (h:c≠0) hE=>hendA 0 0 0 c ⟨⟨[]⟩⟩ (d4K ha) (fun h'=>absurd h' h) (fun _=>hE)
   by_cases h0:nx l a=0
   ·rw [d2S h0,d2S h0] at c2
    replace hF:=hF 3 (by decide) fun out=>by rw [hs3 out h0,hAA]
    generalize ((nx l a:Nat):Int)=n1 at *
    generalize K7 (l.drop a)=R2 at *
    generalize K7 l=R at *
    generalize gb l a=c at *
    refine Z5 Tryz.func41 rfl fun qa qb qc qd qe qg qh qi qj qk ql qm qo qp qq qt qu qv qw qx qy qz va vc vd ve vf vg vh vj vk vl vm vn vo vp vq vr vt vu vv vw vx hA=>?_
    obtain ⟨s1,s2,s3,s4,s5,s6,-⟩:=G1 hA
    have q0:=en hA n0
    have q1:=eg hA g0
    have q2:=esb hA y0
    have q3:qm (qp ⟨⟨[]⟩⟩) (qp ⟨⟨[]⟩⟩)=true:=by rw [s1];exact d3C _
    have q4:qk 3 0=false:=eb hA rfl
    try cbv;refine gr ?_;try simp only [nc] at *
    exact m9 hA [0] ⟨rfl,rfl,rfl,rfl,rfl,rfl,rfl,rfl⟩ hF
   ·rw [d2T h0,d2T h0] at c2
    replace hF:=hF 4 (by decide) fun out=>by rw [hs2 out h0 hbl h35 hr hs,hAA]
    generalize ((nx l a:Nat):Int)=n1 at *
    generalize rn l a=r1 at *
    generalize K7 (l.drop a)=R2 at *
    generalize K7 l=R at *
    generalize gb l a=c at *
    refine Z5 Tryz.func41 rfl fun qa qb qc qd qe qg qh qi qj qk ql qm qo qp qq qt qu qv qw qx qy qz va vc vd ve vf vg vh vj vk vl vm vn vo vp vq vr vt vu vv vw vx hA=>?_
    obtain ⟨s1,s2,s3,s4,s5,s6,-⟩:=G1 hA
    have q0:=en hA n0
    have q1:=eg hA g0
    have q2:=esb hA y0
    have q3:qm (qp ⟨⟨[]⟩⟩) (qp ⟨⟨[]⟩⟩)=true:=by rw [s1];exact d3C _
    have q4:qk 0 0=true:=eb hA rfl
    try cbv;refine gr ?_;try simp only [nc] at *
    exact m9 hA [0] ⟨rfl,rfl,rfl,rfl,rfl,rfl,rfl,rfl⟩ hF
  ·have hsl:=b7v ha
   have hsz:(strOfNums ((l.drop a).take (E2 (l.drop a)))).size=E2 (l.drop a):=by
    rw [a61,d3v,d3x];omega
   have hn0:nx l a≠0:=by
    have hd:gb l a<128:=by
     unfold E2 at hs
     split at hs
     ·rename_i h
      have:=h.2
      rw [a3o] at this
      simp [b28] at this
      omega
     ·split at hs
      ·rename_i h
       have:=b89 h
       rw [a3o] at this
       simp at this
       omega
      ·exact absurd rfl hs
    rw [a3f hb ha hd];omega
   have hE:=fun out=>hs4 out hn0 hbl h35 hr hs
   have x0:=c1x (T:=strOfNums ((l.drop a).take (E2 (l.drop a)))) (by rw [hsz];exact hs)
   have hF:=hend 3 0 A 0 (strOfNums ((l.drop a).take (E2 (l.drop a)))) (a+E2 (l.drop a)) hsl (fun _=>⟨by omega,fun out=>by rw [hE out,hAA]⟩) (fun h=>absurd rfl h)
   obtain ⟨n1,hn1⟩:∃n1,n1=((E2 (l.drop a):Nat):Int):=⟨_,rfl⟩
   obtain ⟨z1,hz1⟩:∃z1,z1=((a+E2 (l.drop a):Nat):Int):=⟨_,rfl⟩
   have w0:IntKind.i64.wrap (A+n1)=z1:=by rw [IntWalk.i64_in _ (by omega)];omega
   have hsz2:((strOfNums ((l.drop a).take (E2 (l.drop a)))).size:Int)=n1:=by rw [hsz];exact hn1.symm
   rw [←hz1] at hF
   clear hE hs2 hs3 hs4 hsz
   generalize strOfNums ((l.drop a).take (E2 (l.drop a)))=T at *
   generalize K7 (l.drop a)=R2 at *
   generalize K7 l=R at *
   generalize gb l a=c at *
   refine Z5 Tryz.func41 rfl fun qa qb qc qd qe qg qh qi qj qk ql qm qo qp qq qt qu qv qw qx qy qz va vc vd ve vf vg vh vj vk vl vm vn vo vp vq vr vt vu vv vw vx hA=>?_
   obtain ⟨s1,s2,s3,s4,s5,s6,-⟩:=G1 hA
   have q0:=en hA n0
   have q1:=eg hA g0
   have q2:=esb hA y0
   have q3:qm (qp T) (qp ⟨⟨[]⟩⟩)=false:=by rw [s1,s3,s3,ByteArray.toList_eq ⟨⟨[]⟩⟩];exact x0
   have q4:qu T=n1:=by rw [s5];exact hsz2
   have q5:=ew hA w0
   try cbv;refine gr ?_;try simp only [nc] at *
   exact m9 hA [0] ⟨rfl,rfl,rfl,rfl,rfl,rfl,rfl,rfl⟩ hF
 ·rw [hr] at c0
  have hrs:=fun k=>c1t (gb l k)
  have hru:=fun k=>b4m (l:=l) (a:=a) (k:=k)
  have htx:=fun k (h:a≤k) (h2:k≤l.length)=>a9E ((l.drop a).take (k - a))
  have hlen:∀k,k≤l.length→((l.drop a).take (k - a)).length=k - a:=fun k h=>by rw [d3v,d3x];omega
  have hrun:=fun k (h:a<k) (h2:k≤l.length)=>c9j (strOfNums ((l.drop a).take (k - a))) A (by rw [a61,hlen k h2];omega) (by rw [a61,hlen k h2];omega)
  have hok:=fun k (h:a<k) S (hS:S=strOfNums (J2 l a)) hl=>c1u (rc:=(a0k S (a:Int)).2) (t:=(a0k S (a:Int)).1) hb ha hr hS (k:=k) hl h rfl
  have hbad:=fun S (hS:S=strOfNums (J2 l a))=>b7w (rc:=(a0k S (a:Int)).2) hb ha hr hS rfl
  unfold b4l at hrun
  clear yk hlb c1 c2 y0
  have yk:=fun k (h:a≤k) (h2:k≤l.length)=>a1R (l:=l) (a:=a) (b:=k) h h2
  rw [←hAA] at yk hok hbad
  generalize K7 l=R at *
  obtain ⟨inv,hi⟩:∃inv:Int→Prop,inv=fun z=>∃k:Nat,z=(k:Int)∧a≤k∧k≤l.length∧∀i,a≤i→i<k→I6 (gb l i)=true:=⟨_,rfl⟩
  have hi0:inv A:=by rw [hi];exact ⟨a,hAA,d3b _,d4K ha,fun i h1 h2=>by omega⟩
  obtain ⟨ca,hca⟩:∃ca,ca=gb l a:=⟨_,rfl⟩
  rw [←hca] at g0 c0
  refine Z5 Tryz.func41 rfl fun qa qb qc qd qe qg qh qi qj qk ql qm qo qp qq qt qu qv qw qx qy qz va vc vd ve vf vg vh vj vk vl vm vn vo vp vq vr vt vu vv vw vx hA=>?_
  obtain ⟨s1,s2,s3,s4,s5,s6,-⟩:=G1 hA
  obtain ⟨f1,-⟩:=b20 hA
  have q0:=en hA n0
  have q1:=eg hA g0
  try cbv;refine gr ?_;try simp only [nc] at *
  refine j9 hA (γ:=Int) (fun z=>[(44,.jk)]) (fun z=>[(0,.box [.d (.sl 1 R),vi .i64 z])]) inv (fun z=>l.length - z.toNat) A hi0 ?_ ?_
  ·cbv
  ·intro z hinv
   cbv;refine gn ?_;try simp only [nc] at *
   rw [hi] at hinv
   obtain ⟨k,hz,hak,hk,hE⟩:=hinv
   replace hz:z=(k:Int):=hz
   have key:(k<l.length∧I6 (gb l k)=true)∨(k=l.length∧qi z N=false)∨(k<l.length∧qi z N=true∧I6 (gb l k)=false):=by
    by_cases h9:k<l.length
    ·have p0:qi z N=true:=el hA (d3a (by omega))
     cases h:I6 (gb l k)
     ·exact .inr (.inr ⟨h9,p0,rfl⟩)
     ·exact .inl ⟨h9,rfl⟩
    ·exact .inr (.inl ⟨by omega,el hA (d2U (by omega))⟩)
   rcases key with ⟨h9,h⟩|⟨h9,p0⟩|⟨h9,p0,h⟩
   ·have p0:qi z N=true:=el hA (d3a (by omega))
    have g1:=eg hA (hget k h9)
    rw [←hz] at g1
    have c1:=hrs k
    rw [h] at c1
    have hi2:inv ((k+1:Nat):Int):=by
     rw [hi]
     refine ⟨_,rfl,by omega,h9,fun i h1 h2=>?_⟩
     by_cases e:i=k
     ·rw [e];exact h
     ·exact hE i h1 (by omega)
    have p3:qa .i64 (qb z 1)=((k+1:Nat):Int):=ew hA (by rw [IntWalk.i64_in _ (by omega)];omega)
    have hm:l.length - ((k+1:Nat):Int).toNat<l.length - z.toNat:=by omega
    generalize ((k+1:Nat):Int)=z1 at *
    generalize gb l k=c at *
    try cbv;refine gr ?_;try simp only [nc] at *
    refine ⟨z1,hi2,hm,?_⟩
    cbv
   case' inr.inl =>
    obtain ⟨hE1,hE2⟩:=hru k hak hk hE (.inl h9)
    have hlt:a<k:=by omega
    iterate 2 (try cbv;repeat ((first|with_reducible apply f8 hA|rw [q0]|rw [p0]);cbv))
   case' inr.inr =>
    obtain ⟨hE1,hE2⟩:=hru k hak hk hE (.inr h)
    have hlt:a<k:=by
     by_cases e:k=a
     ·rw [e,hr] at h;cases h
     ·omega
    have g1:=eg hA (hget k h9)
    rw [←hz] at g1
    have c1:=hrs k
    rw [h] at c1
    generalize gb l k=c at *
    iterate 2 (try cbv;repeat ((first|with_reducible apply f8 hA|rw [q0]|rw [p0]|rw [g1]|refine f9 hA _ c1 rfl ?_|refine i7 hA _ c1 ?_);cbv))
   all_goals
    have y1:=yk k hak hk
    have x1:=htx k hak hk
    have d0:=hrun k hlt hk
    have e0:=hok k hlt _ rfl hE2
    have e1:=hbad _ rfl
    rw [←hE1] at y1 x1 d0
    rw [←hz] at y1
    have hF:=fun kd n at_ c tx=>hend kd n at_ c tx k hk
    rw [←hz] at hF
    generalize strOfNums (J2 l a)=S at *
    generalize K7 (J2 l a)=R1 at *
    have q2:=esb hA y1
    have q3:qx R1=some S:=(f1 _).trans x1
    generalize a0k S A=rs at *
    obtain ⟨⟨kd,tx,n,at_⟩,rc⟩:=rs
    refine c6B hA (n:=19) rfl [0,1,2,4,5,6,7,10,11] (by kernel_rfl) _ (by
     intro K hk
     iterate 2 (all_goals try cbv;repeat' (first|(with_reducible apply f8 hA;exact hk)|((first|with_reducible apply f8 hA|rw [q2]|rw [q3]|refine f9 hA _ d0 rfl ?_|refine i7 hA _ d0 ?_);cbv)|with_reducible apply And.intro))) ?_
    cbv
    by_cases h0:rc=0
    ·have q5:qk rc 0=true:=eb hA (by rw [h0];rfl)
     have hG:=hF kd n at_ rc tx (fun _=>⟨hlt,e0 h0 trivial⟩) (fun h=>absurd h0 h)
     try cbv;refine gr ?_;try simp only [nc] at *
     exact m9 hA [0] ⟨rfl,rfl,rfl,rfl,rfl,rfl,rfl,rfl⟩ hG
    ·have q5:qk rc 0=false:=eb hA (d2Y h0)
     have hG:=hendA kd n at_ rc tx (d4K ha) (fun h=>absurd h h0) (fun _=>e1 h0)
     try cbv;refine gr ?_;try simp only [nc] at *
     exact m9 hA [0] ⟨rfl,rfl,rfl,rfl,rfl,rfl,rfl,rfl⟩ hG
def rTo (ts:List Tok):List (List D):=ts.map b4l
theorem b2B (ts:List Tok):(rTo ts).length=ts.length:=by unfold rTo;rw [d3o]
theorem a62 (ts:List Tok) (t:Tok):rTo (ts++[t])=rTo ts++[b4l t]:=by unfold rTo;rw [d3Q];rfl
theorem c6V {l:List Int} (hb:Byt l) (hl:l.length≤65536):o9 17 [.one (.sl 1 (K7 l))] [.one (.sl 4 (rTo (o7 l 0 false []).1)),.one (.sc (.int .i64 (o7 l 0 false []).2.1)),.one (.sc (.int .u8 (o7 l 0 false []).2.2))]:=by
 have n0:((K7 l).length:Int)=(l.length:Int):=by rw [T3]
 have hB:=fun k (h:k≤l.length)=>c1w hb (a:=k) h hl
 have hT:=fun k (h:k<l.length)=>c4d hb (a:=k) h hl
 unfold c6T scB at hB
 unfold c6U scB tkV at hT
 generalize K7 l=R at *
 obtain ⟨N,hN⟩:∃N,N=(l.length:Int):=⟨_,rfl⟩
 rw [←hN] at n0
 obtain ⟨X,P,C,hX⟩:∃X P C,∀r,o7 l 0 false []=r→X=rTo r.1∧P=r.2.1∧C=r.2.2:=⟨_,_,_,fun r h=>by rw [←h];exact ⟨rfl,rfl,rfl⟩⟩
 obtain ⟨h1,h2,h3⟩:=hX _ rfl
 rw [←h1,←h2,←h3]
 clear h1 h2 h3
 obtain ⟨inv,hi⟩:∃inv:Int×List (List D)→Prop,inv=fun x=>∃(k:Nat) (ts:List Tok),x.1=(k:Int)∧x.2=rTo ts∧k≤l.length∧ts.length≤k∧o7 l 0 false []=o7 l k false ts:=⟨_,rfl⟩
 have hi0:inv (0,[]):=by rw [hi];exact ⟨0,[],rfl,rfl,d3t _,d3b _,rfl⟩
 obtain ⟨mu,hmu⟩:∃mu:Int×List (List D)→Nat,mu=fun x=>l.length - x.1.toNat:=⟨_,rfl⟩
 refine N2 Tryz.func17 rfl ?_;intro _ _ _ _ _ _ _ qi _ qk _ _ _ _ _ _ _ _ _ _ _ _ _ _ _ ve;intros;rename_i hA
 obtain ⟨r1,r2,r3,r4⟩:=A8 hA
 have q0:=en hA n0
 have q1:qi 65536 N=false:=el hA (d2U (by omega))
 iterate 2 (try cbv;repeat ((first|refine a55 hA 2 4 [] rfl rfl ?_|refine a2j hA 6 63 true rfl ?_|with_reducible apply f8 hA|rw [q0]|rw [q1]|refine a1E hA true ?_);cbv))
 try simp (maxSteps:=4000000) only [nc] at *
 refine j9 hA (γ:=Int×List (List D)) (fun x=>[(6,.own 1),(7,.jk),(14,.jk),(29,.jk),(30,.jk)]) (fun x=>[(0,.box [.d (.sl 1 R),vi .i64 x.1]),(1,.row true 63 x.2)]) inv mu (0,[]) hi0 ?_ ?_
 ·cbv
 ·intro x hinv
  obtain ⟨z,L⟩:=x
  cbv;refine gn ?_;try simp only [nc] at *
  rw [hi] at hinv
  obtain ⟨k,ts,hz,hL,hk,htl,hE⟩:=hinv
  replace hz:z=(k:Int):=hz
  replace hL:L=rTo ts:=hL
  have b0:=hB k hk
  rw [←hz] at b0
  refine y6 hA [0] b0 ⟨rfl,rfl,rfl,rfl,rfl,rfl,rfl⟩ ?_
  rintro _ _ ⟨j,ok,rfl,rfl,h1,h2,h3,h4⟩
  have hv:=fun p (h:∀out,o7 l k false out=([],p,3))=>hX _ (hE.trans (h ts))
  cases ok
  ·obtain ⟨rfl,rfl,rfl⟩:=hv _ (h4 rfl)
   iterate 2 (try cbv;repeat ((first|refine a55 hA 2 4 [] rfl rfl ?_|with_reducible apply f8 hA);cbv))
  ·obtain ⟨h5,h6⟩:=h3 rfl
   have hE2:=hE.trans (h6 ts)
   clear hv h3 h4 h6 hE
   by_cases h9:j<l.length
   ·have p0:qk ((j:Nat):Int) N=false:=eb hA (d2Y (by omega))
    have t0:=hT j h9 (h5 h9).1 (h5 h9).2
    have hjz:z≤(j:Int):=by omega
    have hmz:mu (z,L)=l.length - z.toNat:=by rw [hmu]
    have hmj:l.length - z.toNat=l.length - k:=by omega
    clear h5
    obtain ⟨y,hy⟩:∃y,y=((j:Nat):Int):=⟨_,rfl⟩
    rw [←hy] at p0 t0 ⊢
    try cbv;refine gr ?_;try simp only [nc] at *
    refine y6 hA [0] t0 ⟨rfl,rfl,rfl,rfl,rfl,rfl,rfl⟩ ?_
    rintro _ _ ⟨⟨kd,tx,n,at_⟩,c,i,rfl,rfl,g1,g2,g3⟩
    by_cases hc:c=0
    ·obtain ⟨g4,g5⟩:=g2 hc
     have p1:qk c 0=true:=eb hA (by rw [hc];rfl)
     have hi2:inv (((i:Nat):Int),L++[[.sc (.int .u8 kd),.sc (.string tx),.sc (.int .i64 n),.sc (.int .i64 at_)]]):=by
      rw [hi]
      exact ⟨i,ts++[⟨kd,tx,n,at_⟩],rfl,by rw [a62,hL];rfl,g1,by rw [d2R];simp;omega,hE2.trans (g5 ts)⟩
     have hm:mu (((i:Nat):Int),L++[[.sc (.int .u8 kd),.sc (.string tx),.sc (.int .i64 n),.sc (.int .i64 at_)]])<mu (z,L):=by
      rw [hmz,hmj,hmu]
      show l.length - ((i:Nat):Int).toNat<_
      omega
     have p2:ve L [[.sc (.int .u8 kd),.sc (.string tx),.sc (.int .i64 n),.sc (.int .i64 at_)]]=L++[[.sc (.int .u8 kd),.sc (.string tx),.sc (.int .i64 n),.sc (.int .i64 at_)]]:=by rw [r4]
     have hLl:L.length≤65536:=by rw [hL,b2B];omega
     generalize L++[[.sc (.int .u8 kd),.sc (.string tx),.sc (.int .i64 n),.sc (.int .i64 at_)]]=L2 at *
     generalize ((i:Nat):Int)=y2 at *
     iterate 2 (try cbv;repeat ((first|with_reducible apply f8 hA|rw [p1]|rw [p2]|refine A6 hA true ?_|(refine B3 hA (by simp only [d2X,d3g];omega) ?_));cbv))
     try simp (maxSteps:=4000000) only [nc] at *
     refine ⟨(y2,L2),hi2,hm,?_⟩
     cbv
    ·have p1:qk c 0=false:=eb hA (d2Y hc)
     obtain ⟨rfl,rfl,rfl⟩:=hX _ (hE2.trans (g3 hc ts))
     iterate 2 (try cbv;repeat ((first|refine a55 hA 2 4 [] rfl rfl ?_|with_reducible apply f8 hA|rw [p1]);cbv))
   ·have p0:qk ((j:Nat):Int) N=true:=eb hA (by rw [d3F];omega)
    obtain ⟨hX1,rfl,rfl⟩:=hX _ (hE2.trans (a6z (by omega)))
    have hj:((l.length:Nat):Int)=((j:Nat):Int):=by omega
    have hX2:X=L++[[.sc (.int .u8 4),.sc (.string ⟨⟨[]⟩⟩),.sc (.int .i64 0),.sc (.int .i64 ((j:Nat):Int))]]:=by rw [hX1,a62,hL,←hj];rfl
    generalize ((j:Nat):Int)=y at *
    have p2:ve L [[.sc (.int .u8 4),.sc (.string ⟨⟨[]⟩⟩),.sc (.int .i64 0),.sc (.int .i64 y)]]=X:=by rw [r4,hX2]
    have hLl:L.length≤65536:=by rw [hL,b2B];omega
    clear hX1 hX2
    try cbv;exact fr
def tkD (t:Tok):List D:=[.sc (.int .u8 t.kind),.sc (.string t.text),.sc (.int .i64 t.n),.sc (.int .i64 t.at_)]
def C9 (ts:List Tok):List (List D):=ts.map tkD
def Y7 (l:List UInt8):List Int:=l.map fun c=>(c.toNat:Int)
theorem a4N (ts:List Tok):(C9 ts).length=ts.length:=by unfold C9;rw [d3o]
theorem a80 {ts:List Tok} {k:Nat} {t:Tok} (h:ts[k]?=some t):(C9 ts)[k]?=some (tkD t):=by unfold C9;rw [d3u,h];rfl
theorem b4o (l:List UInt8):Byt (Y7 l):=fun x hx=>by
 unfold Y7 at hx
 obtain ⟨c,_,rfl⟩:=d4r.1 hx
 have:=c.toNat_lt
 omega
theorem c5I (l:List UInt8):rU l=K7 (Y7 l):=by unfold rU K7 Y7;rw [d4X];rfl
theorem c1y (l:List UInt8) (hl:l.length≤65536):o9 17 [.one (.sl 1 (rU l))] [.one (.sl 4 (C9 (o7 (Y7 l) 0 false []).1)),.one (.sc (.int .i64 (o7 (Y7 l) 0 false []).2.1)),.one (.sc (.int .u8 (o7 (Y7 l) 0 false []).2.2))]:=by
 have h:=c6V (b4o l) (by unfold Y7;rw [d3o];exact hl)
 rw [c5I]
 exact h
def rdB (T:List (List D)) (a:Int):List O:=[.box [.d (.sl 4 T),.d (.sc (.int .i64 a))]]
def eyB (e p:Int) (T:List (List D)) (a:Int):List O:=[.box [.ptr 1 0,.d (.sc (.int .u8 e)),.d (.sc (.int .i64 p))],.box [.d (.sl 4 T),.d (.sc (.int .i64 a))]]
def L7 (t:Tok) (s:ByteArray):Bool:=(t.kind == 3) && (t.text.toList == s.toList)
theorem c4e (T:List (List D)) (hne:T≠[]) (hl:T.length≤1048576):o9 42 [.one (.sl 4 T)] [.one (.sl 4 T)]:=by
 refine N2 Tryz.func42 rfl ?_;intro _ _ _ _ _ _ _ _ _ _ _ _ _ _ _ _ _ _ _ _ _ _ va _ _ ve;intros;rename_i hA
 obtain ⟨r1,r2,r3,r4⟩:=A8 hA
 have q:va T≠0:=by
  rw [r1]
  cases T with
  | nil=>exact absurd rfl hne
  | cons x T=>simp;omega
 have q4:ve [] T=T:=by rw [r4];rfl
 iterate 2 (try cbv;repeat ((first|with_reducible apply f8 hA|rw [q4]|refine b6X hA q ?_|refine a1E hA true ?_|(refine B3 hA (by simp only [d3g];omega) ?_));cbv))
theorem b4p (T:List (List D)) (hne:T≠[]) (hl:T.length≤1048576):v8 18 [.d (.sl 4 T)] [] (fun res os=>res=[.ptr 0 0]∧os=rdB T 0):=by
 have h1:=c4e T hne hl
 unfold rdB
 refine Z5 Tryz.func18 rfl ?_;intros;rename_i hA
 try cbv;refine gr ?_;try simp only [nc] at *
 exact m9 hA [0] (res':=[.ptr 0 0]) ⟨rfl,rfl,rfl,rfl,rfl,rfl,rfl,rfl⟩ ⟨rfl,rfl⟩
theorem a4i (ts:List Tok) (t:Tok) (a:Nat) (ht:ts[a]?=some t) (hl:ts.length≤1048576):B0 21 [.ptr 0 0] (rdB (C9 ts) (a:Int)) (fun res os=>res=[.ag (A7 (tkD t))]∧os=rdB (C9 ts) (a:Int)):=by
 have hg:=a80 ht
 have hlt:=(d2Q.1 ht).1
 have hln:=a4N ts
 unfold tkD at hg ⊢
 unfold rdB
 generalize C9 ts=T at *
 generalize t.kind=tk at *
 generalize t.text=tx at *
 generalize t.n=tn at *
 generalize t.at_=ta at *
 obtain ⟨z,hz⟩:∃z,z=(a:Int):=⟨_,rfl⟩
 rw [←hz]
 refine a06 Tryz.func21 rfl (by kernel_rfl) (by kernel_rfl) (by kernel_rfl) rfl ?_;intro _ _ _ _ _ _ _ qi _ qk _ _ _ _ _ _ _ _ _ _ _ _ va vc _ _ _ _ _ _ _ _ _ _ _ _ _ _ _ _ _ vw;intros;rename_i hA K hK
 obtain ⟨e1,e2,e3,e4,e5,e6,e7,e8,e9⟩:=j7 hA
 obtain ⟨r1,r2,r3,r4⟩:=A8 hA
 have q1:qk (va T) 0=false:=by rw [e9,r1,hln];simp;intro h;rw [h] at hlt;simp at hlt
 have q2:qi z (va T)=true:=by rw [e7,r1,hln,hz];exact d3a (by omega)
 have g:vc T z=some [.sc (.int .u8 tk),.sc (.string tx),.sc (.int .i64 tn),.sc (.int .i64 ta)]:=by rw [r2,hz,d2S (by omega),show ((a:Int)).toNat=a by omega];exact hg
 have q0:=g;exact I5
theorem c9k (ts:List Tok) (t:Tok) (a:Nat) (ht:ts[a]?=some t) (hl:ts.length≤1048576) (s:ByteArray):B0 33 [.ptr 0 0,vs s] (rdB (C9 ts) (a:Int)) (fun res os=>res=[vb (L7 t s)]∧os=rdB (C9 ts) (a:Int)):=by
 have hp:=a4i ts t a ht hl
 unfold L7
 unfold tkD rdB at hp
 unfold rdB
 generalize C9 ts=T at *
 generalize t.kind=tk at *
 generalize t.text=tx at *
 generalize t.n=tn at *
 generalize t.at_=ta at *
 obtain ⟨z,hz⟩:∃z,z=(a:Int):=⟨_,rfl⟩
 rw [←hz] at hp ⊢
 obtain ⟨b,hb⟩:∃b,b=(tx.toList == s.toList):=⟨_,rfl⟩
 obtain ⟨c,hc⟩:∃c,c=(tk == 3):=⟨_,rfl⟩
 rw [←hb,←hc]
 refine a06 Tryz.func33 rfl (by kernel_rfl) (by kernel_rfl) (by kernel_rfl) rfl ?_;intro _ _ _ _ _ _ _ _ _ qk _ qm _ qp;intros;rename_i hA K hK
 obtain ⟨e1,e2,e3,e4,e5,e6,e7,e8,e9⟩:=j7 hA
 obtain ⟨s1,s2,s3,s4,s5,s6,s7⟩:=G1 hA
 have q1:qk tk 3=c:=by rw [e9,hc]
 have q2:qm (qp tx) (qp s)=b:=by rw [s1,s3,s3,hb]
 cases c
 ·iterate 2 (try cbv;repeat ((first|with_reducible apply f8 hA|rw [q1]|refine rdx hA [0] hp ?_);cbv))
  try simp (maxSteps:=4000000) only [nc] at *
  exact hK _ rfl
 ·iterate 2 (try cbv;repeat ((first|with_reducible apply f8 hA|rw [q1]|rw [q2]|refine rdx hA [0] hp ?_);cbv))
  try simp (maxSteps:=4000000) only [nc] at *
  exact hK _ rfl
theorem b2D (ts:List Tok) (t:Tok) (a:Nat) (ht:ts[a]?=some t) (hl:ts.length≤1048576):v8 34 [.ptr 0 0] (rdB (C9 ts) (a:Int)) (fun res os=>res=[.ag (A7 (tkD t))]∧os=rdB (C9 ts) ((a+1:Nat):Int)):=by
 have hp:=a4i ts t a ht hl
 have hlt:=(d2Q.1 ht).1
 have hln:=a4N ts
 unfold tkD rdB at hp
 unfold tkD rdB
 generalize C9 ts=T at *
 generalize t.kind=tk at *
 generalize t.text=tx at *
 generalize t.n=tn at *
 generalize t.at_=ta at *
 obtain ⟨z,hz⟩:∃z,z=(a:Int):=⟨_,rfl⟩
 obtain ⟨y,hy⟩:∃y,y=((a+1:Nat):Int):=⟨_,rfl⟩
 rw [←hz] at hp ⊢
 rw [←hy]
 refine Z5 Tryz.func34 rfl ?_;intro qa qb _ _ _ _ _ qi _ _ _ _ _ _ _ _ _ _ _ _ _ _ va;intros;rename_i hA
 obtain ⟨e1,e2,e3,e4,e5,e6,e7,e8,e9⟩:=j7 hA
 obtain ⟨r1,r2,r3,r4⟩:=A8 hA
 have q2:qi z (va T)=true:=by rw [e7,r1,hln,hz];exact d3a (by omega)
 have q3:qa .i64 (qb z 1)=y:=by rw [e1,e2,hz,hy,IntWalk.i64_in _ (by omega)];omega
 iterate 2 (try cbv;repeat ((first|with_reducible apply f8 hA|rw [q2]|rw [q3]|refine rdx hA [0] hp ?_);cbv))
 try simp (maxSteps:=4000000) only [nc] at *
 exact m9 hA [0] ⟨rfl,rfl,rfl,rfl,rfl,rfl,rfl,rfl⟩ ⟨rfl,rfl⟩
theorem b2E (ts:List Tok) (t:Tok) (a:Nat) (ht:ts[a]?=some t) (hl:ts.length≤1048576) (s:ByteArray):v8 59 [.ptr 0 0,vs s] (rdB (C9 ts) (a:Int)) (fun res os=>res=[vb (L7 t s)]∧os=rdB (C9 ts) ((if L7 t s=true then a+1 else a:Nat):Int)):=by
 have hp:=c9k ts t a ht hl s
 have hq:=b2D ts t a ht hl
 unfold tkD rdB at hq
 unfold rdB at hp
 unfold rdB
 generalize C9 ts=T at *
 generalize t.kind=tk at *
 generalize t.text=tx at *
 generalize t.n=tn at *
 generalize t.at_=ta at *
 generalize L7 t s=b at *
 cases b
 ·rw [d2T (by decide)]
  generalize ((a:Nat):Int)=z at *
  refine Z5 Tryz.func59 rfl fun qa qb qc qd qe qg qh qi qj qk ql qm qo qp qq qt qu qv qw qx qy qz va vc vd ve vf vg vh vj vk vl vm vn vo vp vq vr vt vu vv vw vx hA=>?_
  iterate 2 (try cbv;repeat ((first|with_reducible apply f8 hA|refine rdx hA [0] hp ?_);cbv))
  try simp (maxSteps:=4000000) only [nc] at *
  exact m9 hA [0] ⟨rfl,rfl,rfl,rfl,rfl,rfl,rfl,rfl⟩ ⟨rfl,rfl⟩
 ·rw [d2S rfl]
  generalize ((a:Nat):Int)=z at *
  generalize ((a+1:Nat):Int)=y at *
  refine Z5 Tryz.func59 rfl fun qa qb qc qd qe qg qh qi qj qk ql qm qo qp qq qt qu qv qw qx qy qz va vc vd ve vf vg vh vj vk vl vm vn vo vp vq vr vt vu vv vw vx hA=>?_
  iterate 2 (try cbv;repeat ((first|with_reducible apply f8 hA|refine rdx hA [0] hp ?_|refine A4 hA [0] hq ?_);cbv))
  try simp (maxSteps:=4000000) only [nc] at *
  exact m9 hA [0] ⟨rfl,rfl,rfl,rfl,rfl,rfl,rfl,rfl⟩ ⟨rfl,rfl⟩
abbrev F8:ByteArray:=⟨#[]⟩
abbrev PE:=Nat×Int
def tk0:Tok:=⟨4,F8,0,0⟩
def j6 (ts:List Tok) (a:Nat):Tok:=(ts[a]?).getD tk0
def A2 (ts:List Tok) (s:ByteArray) (p:PE):Bool:=(p.2 == 0) && L7 (j6 ts p.1) s
def skP (ts:List Tok) (s:ByteArray) (p:PE):PE:=if A2 ts s p=true then (p.1+1,0) else p
def j0 (ts:List Tok) (s:ByteArray) (p:PE):PE:=if p.2≠0 then p else if L7 (j6 ts p.1) s=true then (p.1+1,0) else (p.1,5)
def E7 (c:Int) (p:PE):PE:=if p.2≠0 then p else (p.1,c)
abbrev T4:ByteArray:=⟨#[73,110,116]⟩
abbrev G7:ByteArray:=⟨#[66,111,111,108]⟩
abbrev J7:ByteArray:=⟨#[63]⟩
abbrev U5:ByteArray:=⟨#[40]⟩
abbrev a5k:ByteArray:=⟨#[41]⟩
abbrev a5E:ByteArray:=⟨#[123]⟩
abbrev a63:ByteArray:=⟨#[125]⟩
abbrev a3h:ByteArray:=⟨#[60]⟩
abbrev a64:ByteArray:=⟨#[62]⟩
abbrev gTo:ByteArray:=⟨#[45,62]⟩
abbrev a1F:ByteArray:=⟨#[44]⟩
abbrev a2G:ByteArray:=⟨#[58]⟩
abbrev a1T:ByteArray:=⟨#[124]⟩
def o5 (ts:List Tok):Prop:=∀a,a<ts.length→(j6 ts a).kind≠4→a+1<ts.length
theorem P4 {ts:List Tok} {a:Nat} (h:a<ts.length):ts[a]?=some (j6 ts a):=by
 unfold j6
 rw [d2P h]
 rfl
theorem F0 {t:Tok} {s:ByteArray} (h:L7 t s=true):t.kind=3:=by
 unfold L7 at h
 rw [d2Z,d3F] at h
 exact h.1
theorem I8 {ts:List Tok} {s:ByteArray} {p:PE} (hE:o5 ts) (hp:p.1<ts.length) (h:A2 ts s p=true):p.2=0∧p.1+1<ts.length:=by
 unfold A2 at h
 rw [d2Z,d3F] at h
 exact ⟨h.1,hE _ hp (by rw [F0 h.2];decide)⟩
theorem j8 {ts:List Tok} {s:ByteArray} {p:PE} (hE:o5 ts) (hp:p.1<ts.length):(j0 ts s p).1<ts.length∧p.1≤(j0 ts s p).1∧((j0 ts s p).2=0→p.2=0∧(j0 ts s p).1=p.1+1):=by
 unfold j0
 by_cases h0:p.2≠0
 ·rw [d2S h0]
  exact ⟨hp,d3b _,fun h=>absurd h h0⟩
 ·rw [d2T h0]
  by_cases h1:L7 (j6 ts p.1) s=true
  ·rw [d2S h1]
   exact ⟨hE _ hp (by rw [F0 h1];decide),Nat.le_succ _,fun _=>⟨d4E.1 h0,rfl⟩⟩
  ·rw [d2T h1]
   exact ⟨hp,d3b _,fun h=>absurd (show (5:Int)=0 from h) (by decide)⟩
theorem G2 (c:Int) (hc:c≠0) (p:PE):(E7 c p).1=p.1∧(E7 c p).2≠0:=by
 unfold E7
 by_cases h0:p.2≠0
 ·rw [d2S h0];exact ⟨rfl,h0⟩
 ·rw [d2T h0];exact ⟨rfl,hc⟩
end Go.Proofs.YtahpnackkmbmgaaGreat.Vm
end
section
namespace Go.Proofs.YtahpnackkmbmgaaGreat
open Go.RowKit
set_option maxRecDepth 100000
set_option maxHeartbeats 4000000
inductive Ty where
 | mk (op:Int) (name:ByteArray) (n:Int) (kids:List Ty)
def Ty.op:Ty→Int|.mk op _ _ _=>op
def Ty.name:Ty→ByteArray|.mk _ nm _ _=>nm
def Ty.n:Ty→Int|.mk _ _ n _=>n
def Ty.kids:Ty→List Ty|.mk _ _ _ ks=>ks
def r7:Ty:=.mk 0 ⟨#[]⟩ 0 []
theorem Ty.sizeOf_kid {t x:Ty} (h:x∈t.kids):SizeOf.sizeOf x<SizeOf.sizeOf t:=by
 obtain ⟨op,nm,n,ks⟩:=t
 have:=List.sizeOf_lt_of_mem h
 simp only [Ty.kids] at this
 simp only [Ty.mk.sizeOf_spec]
 omega
theorem Ty.ind {P:Ty→Prop} (h:∀t,(∀x∈t.kids,P x)→P t) (t:Ty):P t:=h t fun x _hx=>Ty.ind h x
termination_by SizeOf.sizeOf t
decreasing_by exact Ty.sizeOf_kid _hx
mutual
def Ty.parts:Ty→List Ty
 | .mk op nm n ks=>.mk op nm n ks::a0B ks
def a0B:List Ty→List Ty
 | []=>[]
 | t::ts=>t.parts++a0B ts
end
theorem a0e (t:Ty):t.parts=t::a0B t.kids:=by
 obtain ⟨op,nm,n,ks⟩:=t
 rw [Ty.parts]
 rfl
theorem a7N:∀ts:List Ty,a0B ts=ts.flatMap Ty.parts
 | []=>by rw [a0B];rfl
 | t::ts=>by rw [a0B,a7N ts];rfl
theorem C4 (t:Ty):t.parts=t::t.kids.flatMap Ty.parts:=by rw [a0e,a7N]
theorem H5 (t:Ty):1≤t.parts.length:=by rw [a0e];simp
theorem a5l:∀(ts:List Ty),ts.length≤(ts.flatMap Ty.parts).length∧∀x∈ts,x.parts.length≤(ts.flatMap Ty.parts).length
 | []=>by simp
 | u::us=>by
  have ih:=a5l us
  have:=H5 u
  simp only [d3j,d2R,d2X]
  refine ⟨by omega,fun x hx=>?_⟩
  rcases d3d.1 hx with rfl|hx
  ·omega
  ·have:=ih.2 x hx;omega
theorem T5 (t:Ty):t.kids.length<t.parts.length∧∀x∈t.kids,x.parts.length<t.parts.length:=by
 rw [C4,d2X]
 have:=a5l t.kids
 exact ⟨by omega,fun x hx=>by have:=this.2 x hx;omega⟩
def Z6 (op:Int):Option (List Int) :=
 if op=1∨op=2∨op=3∨op=7∨op=8∨op=9∨op=10 then some [] else if op=4 then some [116,116] else if op=5∨op=6 then some [114] else if op=11 then some [116,114] else none
def a65 (isWord:ByteArray→Bool) (t:Ty) (s:Int):Bool :=
 match Z6 t.op with
 | none=>false
 | some k=>(decide (8≤t.op) == (s == 114)) && (decide (t.kids.length=k.length) && ((if t.op=11 then isWord t.name else decide (t.name.toList=[])) && (decide (0≤t.n) && (decide (t.op=7∨t.op=10) || decide (t.n=0)))))
mutual
def I9 (isWord:ByteArray→Bool):Ty→Int→Bool
 | .mk op nm n ks,s=>a65 isWord (.mk op nm n ks) s && J0 isWord ks ((Z6 op).getD [])
def J0 (isWord:ByteArray→Bool):List Ty→List Int→Bool
 | [],_=>true
 | t::ts,k::ks=>I9 isWord t k && J0 isWord ts ks
 | _::_,[]=>false
end
theorem a9F (iw:ByteArray→Bool) (t:Ty) (s:Int):I9 iw t s=(a65 iw t s && J0 iw t.kids ((Z6 t.op).getD [])):=by
 obtain ⟨op,nm,n,ks⟩:=t
 rw [I9]
 rfl
mutual
def a32:Ty→Ty→Bool
 | .mk o m n ks,.mk o' m' n' ks'=>(o == o') && ((m.toList == m'.toList) && ((n == n') && N7 ks ks'))
def N7:List Ty→List Ty→Bool
 | [],[]=>true
 | t::ts,u::us=>a32 t u && N7 ts us
 | _,_=>false
end
theorem b2F {a b:ByteArray}:a.toList=b.toList↔a=b:=by
 constructor
 ·intro h
  rw [ByteArray.toList_eq,ByteArray.toList_eq] at h
  apply d5z
  exact Array.toList_inj.1 h
 ·rintro rfl;rfl
mutual
theorem b10:∀a b:Ty,a32 a b=true↔a=b
 | .mk o m n ks,.mk o' m' n' ks'=>by
  rw [a32]
  simp only [d2Z,d3F,Ty.mk.injEq,a9G ks ks',b2F]
theorem a9G:∀a b:List Ty,N7 a b=true↔a=b
 | [],[]=>by rw [N7];simp
 | t::ts,u::us=>by
  rw [N7]
  simp only [d2Z,List.cons.injEq,b10 t u,a9G ts us]
 | [],_::_=>by simp [N7]
 | _::_,[]=>by simp [N7]
end
def a7w (x y:Ty):Bool:=(x.op == 7) && ((y.op == 10) && (x.n == y.n))
def a7O (t:Ty):Bool:=t.parts.all fun x=>t.parts.all fun y=>!a7w x y
end Go.Proofs.YtahpnackkmbmgaaGreat
end
section
namespace Go.Proofs.YtahpnackkmbmgaaGreat.Vm
open Go.RowKit
set_option maxRecDepth 100000
set_option maxHeartbeats 4000000
mutual
def cT:Ty→List D
 | .mk op nm n ks=>[.sc (.int .u8 op),.sc (.string nm),.sc (.int .i64 n),.sl 4 (rT ks)]
def rT:List Ty→List (List D)
 | []=>[]
 | t::ts=>cT t::rT ts
end
theorem a9H:∀ts:List Ty,rT ts=ts.map cT
 | []=>by rw [rT];rfl
 | t::ts=>by rw [rT,a9H ts];rfl
theorem a0m (ts:List Ty):(rT ts).length=ts.length:=by rw [a9H,d3o]
theorem a5F {ts:List Ty} {k:Nat} {t:Ty} (h:ts[k]?=some t):(rT ts)[k]?=some (cT t):=by rw [a9H,d3u,h];rfl
def rF (fs:List (ByteArray×Ty)):List (List D):=fs.map fun f=>.sc (.string f.1)::cT f.2
theorem a1G (fs:List (ByteArray×Ty)):(rF fs).length=fs.length:=by rw [rF,d3o]
theorem b2G {fs:List (ByteArray×Ty)} {k:Nat} {x:ByteArray×Ty} (h:fs[k]?=some x):(rF fs)[k]?=some (.sc (.string x.1)::cT x.2):=by rw [rF,d3u,h];rfl
theorem l8 (t:Ty):∃c0 c1 c2 c3,cT t=[c0,c1,c2,c3]:=by obtain ⟨op,nm,n,ks⟩:=t;exact ⟨_,_,_,_,by rw [cT]⟩
end Go.Proofs.YtahpnackkmbmgaaGreat.Vm
end
section
namespace Go.Proofs.YtahpnackkmbmgaaGreat
open Go.RowKit
set_option maxRecDepth 100000
set_option maxHeartbeats 4000000
section
section
variable {α:Type}
structure Swo (lt:α→α→Bool):Prop where
 irr:∀x,lt x x=false
 tra:∀x y z,lt x y=true→lt y z=true→lt x z=true
 neg:∀x y z,lt x y=false→lt y z=false→lt x z=false
variable {lt:α→α→Bool}
def eqv (lt:α→α→Bool) (x y:α):Bool:=!lt x y && !lt y x
def Srt (lt:α→α→Bool) (l:List α):Prop:=l.Pairwise fun x y=>lt y x=false
def Sta (lt:α→α→Bool) (l m:List α):Prop:=∀x,l.filter (eqv lt x)=m.filter (eqv lt x)
theorem Sta.refl (l:List α):Sta lt l l:=fun _=>rfl
theorem Sta.symm {l m:List α} (h:Sta lt l m):Sta lt m l:=fun x=>(h x).symm
theorem Sta.trans {l m n:List α} (h:Sta lt l m) (k:Sta lt m n):Sta lt l n:=fun x=>(h x).trans (k x)
theorem Sta.append {l m l' m':List α} (h:Sta lt l l') (k:Sta lt m m'):Sta lt (l++m) (l'++m'):=fun x=>by rw [d4U,d4U,h x,k x]
theorem b4q (h:Swo lt) (x:α):eqv lt x x=true:=by unfold eqv;rw [h.irr];rfl
theorem Sta.mem (h:Swo lt) {l m:List α} (s:Sta lt l m) {x:α} (hx:x∈l):x∈m:=by
 have:x∈l.filter (eqv lt x):=d41.2 ⟨hx,b4q h x⟩
 rw [s x] at this
 exact (d41.1 this).1
theorem Sta.swap (h:Swo lt) {u v:List α} (huv:∀x∈u,∀y∈v,lt y x=true):Sta lt (u++v) (v++u):=fun z=>by
 rw [d4U,d4U]
 by_cases hu:u.filter (eqv lt z)=[]
 ·rw [hu];simp
 ·by_cases hv:v.filter (eqv lt z)=[]
  ·rw [hv];simp
  ·exfalso
   obtain ⟨x,hx⟩:=List.exists_mem_of_ne_nil _ hu
   obtain ⟨y,hy⟩:=List.exists_mem_of_ne_nil _ hv
   obtain ⟨hx1,hx2⟩:=d41.1 hx
   obtain ⟨hy1,hy2⟩:=d41.1 hy
   have h1:=huv x hx1 y hy1
   unfold eqv at hx2 hy2
   simp only [d2Z,d42] at hx2 hy2
   have:=h.neg y z x hy2.2 hx2.1
   rw [h1] at this
   cases this
theorem a9I (h:Swo lt):∀ {l m:List α},Srt lt l→Srt lt m→Sta lt l m→l=m
 | [],m,_,_,s=>by
  cases m with
  | nil=>rfl
  | cons y m=>exact absurd (s.symm.mem h (d2V ..)) (by simp)
 | x::l,[],_,_,s=>absurd (s.mem h (d2V ..)) (by simp)
 | x::l,y::m,hl,hm,s=>by
  have hxm:=s.mem h (d2V (a:=x) (l:=l))
  have hyl:=s.symm.mem h (d2V (a:=y) (l:=m))
  have hlx:∀z∈x::l,lt z x=false:=fun z hz=>by
   rcases d3d.1 hz with rfl|hz
   ·exact h.irr _
   ·exact (d3G.1 hl).1 z hz
  have hmy:∀z∈y::m,lt z y=false:=fun z hz=>by
   rcases d3d.1 hz with rfl|hz
   ·exact h.irr _
   ·exact (d3G.1 hm).1 z hz
  have e1:eqv lt x y=true:=by unfold eqv;rw [hmy x hxm,hlx y hyl];rfl
  have s1:=s x
  rw [d4J,d4J,b4q h x,e1] at s1
  simp only [d4S] at s1
  injection s1 with s1 s2
  subst s1
  congr 1
  refine a9I h (d3G.1 hl).2 (d3G.1 hm).2 fun z=>?_
  have sz:=s z
  rw [d4J,d4J] at sz
  by_cases hz:eqv lt z x=true
  ·rw [d2S hz,d2S hz] at sz
   injection sz
  ·rw [d2T hz,d2T hz] at sz
   exact sz
def a0f (lt:α→α→Bool) (x:α):List α→List α
 | []=>[x]
 | y::l=>if lt x y=true then x::y::l else y::a0f lt x l
def n7 (lt:α→α→Bool) (l:List α):List α:=l.foldl (fun acc x=>a0f lt x acc) []
theorem b7y (h:Swo lt) (x:α):∀l:List α,Srt lt l→Sta lt (a0f lt x l) (l++[x])
 | [],_=>.refl _
 | y::l,hl=>by
  unfold a0f
  by_cases hx:lt x y=true
  ·rw [d2S hx]
   have:Sta lt ([x]++(y::l)) ((y::l)++[x]):=(Sta.swap h (u:=y::l) (v:=[x]) fun z hz w hw=>by
    simp at hw
    subst hw
    rcases d3d.1 hz with rfl|hz
    ·exact hx
    ·have h1:=(d3G.1 hl).1 z hz
     cases hwz:lt w z
     ·have:=h.neg w z y hwz h1
      rw [hx] at this
      cases this
     ·rfl).symm
   exact this
  ·rw [d2T hx]
   exact Sta.append (.refl [y]) (b7y h x l (d3G.1 hl).2)
theorem b2H (x:α):∀(l:List α) (z:α),z∈a0f lt x l→z=x∨z∈l
 | [],z,hz=>by simp [a0f] at hz;exact .inl hz
 | y::l,z,hz=>by
  unfold a0f at hz
  split at hz
  ·rcases d3d.1 hz with h|h
   ·exact .inl h
   ·exact .inr h
  ·rcases d3d.1 hz with h|h
   ·exact .inr (by rw [h];exact d2V ..)
   ·rcases b2H x l z h with h|h
    ·exact .inl h
    ·exact .inr (d2W _ h)
theorem b7z (h:Swo lt) (x:α):∀l:List α,Srt lt l→Srt lt (a0f lt x l)
 | [],_=>by unfold a0f Srt;simp
 | y::l,hl=>by
  obtain ⟨h1,h2⟩:=d3G.1 hl
  unfold a0f
  by_cases hx:lt x y=true
  ·rw [d2S hx]
   refine d3G.2 ⟨fun z hz=>?_,hl⟩
   have hyx:lt y x=false:=by
    cases hyx:lt y x
    ·rfl
    ·have:=h.tra x y x hx hyx
     rw [h.irr] at this
     cases this
   rcases d3d.1 hz with rfl|hz
   ·exact hyx
   ·exact h.neg z y x (h1 z hz) hyx
  ·rw [d2T hx]
   refine d3G.2 ⟨fun z hz=>?_,b7z h x l h2⟩
   rcases b2H x l z hz with rfl|hz
   ·simpa using hx
   ·exact h1 z hz
theorem b2I (h:Swo lt):∀(l acc:List α),Srt lt acc→Srt lt (l.foldl (fun acc x=>a0f lt x acc) acc)∧Sta lt (l.foldl (fun acc x=>a0f lt x acc) acc) (acc++l)
 | [],acc,ha=>⟨ha,by rw [d3f];exact .refl _⟩
 | x::l,acc,ha=>by
  obtain ⟨h1,h2⟩:=b2I h l (a0f lt x acc) (b7z h x acc ha)
  refine ⟨h1,h2.trans ?_⟩
  have:=Sta.append (b7y h x acc ha) (.refl (lt:=lt) l)
  rwa [d37] at this
theorem a14 (h:Swo lt) (l:List α):Srt lt (n7 lt l):=(b2I h l [] List.Pairwise.nil).1
theorem a15 (h:Swo lt) (l:List α):Sta lt (n7 lt l) l:=(b2I h l [] List.Pairwise.nil).2
theorem b70 (h:Swo lt) {l m:List α} (hs:Srt lt m) (ht:Sta lt m l):m=n7 lt l:=a9I h hs (a14 h l) (ht.trans (a15 h l).symm)
theorem H8 {l m:List α}:Srt lt (l++m)↔Srt lt l∧Srt lt m∧∀x∈l,∀y∈m,lt y x=false:=d5m
theorem a9J (h:Swo lt) {x y:α} (hxy:lt x y=true):lt y x=false:=by
 cases hyx:lt y x
 ·rfl
 ·have:=h.tra x y x hxy hyx
  rw [h.irr] at this
  cases this
theorem a4j (h:Swo lt) {x y z:α} (hxy:lt x y=true) (hyz:lt z y=false):lt x z=true:=by
 cases hxz:lt x z
 ·have:=h.neg x z y hxz hyz
  rw [hxy] at this
  cases this
 ·rfl
theorem a4k (h:Swo lt) {x y z:α} (hxy:lt y x=false) (hyz:lt y z=true):lt x z=true:=by
 cases hxz:lt x z
 ·have:=h.neg y x z hxy hxz
  rw [hyz] at this
  cases this
 ·rfl
theorem b2J (h:Swo lt) {x:α} {v1 v2:List α} (hs:Srt lt (v1++v2)) (h1:∀y∈v1,lt y x=true) (h2:∀y∈v2,lt y x=false) :
  Srt lt (v1++(x::v2))∧Sta lt (v1++(x::v2)) (x::(v1++v2)):=by
 obtain ⟨s1,s2,s3⟩:=H8.1 hs
 refine ⟨H8.2 ⟨s1,d3G.2 ⟨h2,s2⟩,fun y hy z hz=>?_⟩,?_⟩
 ·rcases d3d.1 hz with rfl|hz
  ·exact a9J h (h1 y hy)
  ·exact s3 y hy z hz
 ·have:=Sta.append (Sta.swap h (u:=[x]) (v:=v1) fun z hz y hy=>by simp at hz;subst hz;exact h1 y hy) (.refl (lt:=lt) v2)
  simpa using this.symm
theorem a5m (h:Swo lt) {x:α} {u1 u2:List α} (hs:Srt lt (u1++u2)) (h1:∀y∈u1,lt x y=false) (h2:∀y∈u2,lt x y=true) :
  Srt lt (u1++(x::u2))∧Sta lt (u1++(x::u2)) ((u1++u2)++[x]):=by
 obtain ⟨s1,s2,s3⟩:=H8.1 hs
 refine ⟨H8.2 ⟨s1,d3G.2 ⟨fun y hy=>a9J h (h2 y hy),s2⟩,fun y hy z hz=>?_⟩,?_⟩
 ·rcases d3d.1 hz with rfl|hz
  ·exact h1 y hy
  ·exact s3 y hy z hz
 ·have:=Sta.append (.refl (lt:=lt) u1) (Sta.swap h (u:=u2) (v:=[x]) fun z hz y hy=>by simp at hy;subst hy;exact h2 z hz)
  simpa using this.symm
theorem b2K (h:Swo lt) {L1 L2 u v P R:List α} (hl:Srt lt (L1++u)) (hr:Srt lt (v++L2)) (huv:∀x∈u,∀y∈v,lt y x=true) (hL:∀x∈L1,∀y∈L2,lt y x=false)
  (hP:Srt lt P) (sP:Sta lt P (L1++v)) (hR:Srt lt R) (sR:Sta lt R (u++L2)):Srt lt (P++R)∧Sta lt (P++R) ((L1++u)++(v++L2)):=by
 obtain ⟨a1,a2,a3⟩:=H8.1 hl
 obtain ⟨b1,b2,b3⟩:=H8.1 hr
 refine ⟨H8.2 ⟨hP,hR,fun x hx y hy=>?_⟩,?_⟩
 ·have hx':=sP.mem h hx
  have hy':=sR.mem h hy
  rcases d38.1 hx' with hx'|hx' <;> rcases d38.1 hy' with hy'|hy'
  ·exact a3 x hx' y hy'
  ·exact hL x hx' y hy'
  ·exact a9J h (huv y hy' x hx')
  ·exact b3 x hx' y hy'
 ·have s1:=(sP.append sR)
  have s2:Sta lt ((L1++v)++(u++L2)) ((L1++u)++(v++L2)):=by
   have:=Sta.append (Sta.append (.refl (lt:=lt) L1) (Sta.swap h huv).symm) (.refl (lt:=lt) L2)
   simpa using this
  exact s1.trans s2
end
end
end Go.Proofs.YtahpnackkmbmgaaGreat
end
section
namespace Go.Proofs.YtahpnackkmbmgaaGreat.Vm
open Go.RowKit
set_option maxRecDepth 100000
set_option maxHeartbeats 4000000
def a0y (fs:List (ByteArray×Ty)) (tail:Ty):Ty:=fs.foldr (fun f r=>.mk 11 f.1 0 [f.2,r]) tail
def a0N:Ty→Prop
 | .mk op _ _ [_,r]=>op=11→a0N r
 | .mk op _ _ _=>op≠11
def y7:Ty→List (ByteArray×Ty)
 | .mk op nm _ [x,r]=>if op=11 then (nm,x)::y7 r else []
 | _=>[]
def P5:Ty→Ty
 | .mk op nm n [x,r]=>if op=11 then P5 r else .mk op nm n [x,r]
 | t=>t
theorem a5G:∀ {t:Ty},t.op≠11→y7 t=[]∧P5 t=t
 | .mk op nm n [],_=>⟨rfl,rfl⟩
 | .mk op nm n [x],_=>⟨rfl,rfl⟩
 | .mk op nm n [x,r],h=>by
  have h':op≠11:=h
  unfold y7 P5
  rw [d2T h',d2T h']
  exact ⟨rfl,rfl⟩
 | .mk op nm n (x::y::z::l),_=>⟨rfl,rfl⟩
theorem a4l:∀ {t:Ty},a0N t→t.op=11→∃a b,t.kids=[a,b]∧a0N b∧y7 t=(t.name,a)::y7 b∧P5 t=P5 b
 | .mk op nm n [],h,h'=>absurd h' h
 | .mk op nm n [x],h,h'=>absurd h' h
 | .mk op nm n [x,r],h,h'=>by
  have e:op=11:=h'
  subst e
  refine ⟨x,r,rfl,h rfl,?_,?_⟩
  ·conv=>lhs;unfold y7
   rw [d2S rfl];rfl
  ·conv=>lhs;unfold P5
   rw [d2S rfl]
 | .mk op nm n (x::y::z::l),h,h'=>absurd h' h
def ltF (a b:ByteArray×Ty):Bool:=Op.bytesLess a.1.toList b.1.toList
theorem b8E (ds:List (ByteArray×Ty)) (d:ByteArray×Ty):n7 ltF (ds++[d])=a0f ltF d (n7 ltF ds):=by
 unfold n7
 rw [List.foldl_append]
 rfl
theorem b71 {α:Type} {lt:α→α→Bool} (x:α):∀l:List α,(a0f lt x l).length=l.length+1
 | []=>rfl
 | y::l=>by
  unfold a0f
  split
  ·rfl
  ·simp [b71 x l]
def a4m:Nat→Ty→Ty
 | 0,t=>t
 | m+1,t=>if t.op=11 then a0y ((n7 ltF (y7 t)).map fun f=>(f.1,a4m m f.2)) (P5 t) else .mk t.op t.name t.n (t.kids.map (a4m m))
def y9 (t:Ty):Ty:=a4m t.parts.length t
theorem a16:∀(n:Nat) (t:Ty),t.parts.length≤n→∀f∈y7 t,f.2.parts.length<t.parts.length:=by
 intro n
 induction n with
 | zero=>intro t h;have:=H5 t;omega
 | succ n ih =>
  intro t h f hf
  obtain ⟨op,nm,k,ks⟩:=t
  match ks,hf with
  | [],hf=>simp [y7] at hf
  | [x],hf=>simp [y7] at hf
  | x::y::z::l,hf=>simp [y7] at hf
  | [x,r],hf =>
   have hk:=T5 (.mk op nm k [x,r])
   have hx:=hk.2 x (by simp [Ty.kids])
   have hr:=hk.2 r (by simp [Ty.kids])
   unfold y7 at hf
   by_cases h11:op=11
   ·rw [d2S h11] at hf
    rcases d3d.1 hf with rfl|hf
    ·exact hx
    ·have:=ih r (by omega) f hf
     omega
   ·rw [d2T h11] at hf;simp at hf
theorem b4r {α:Type} {lt:α→α→Bool}:∀(l acc:List α) (z:α),z∈l.foldl (fun acc x=>a0f lt x acc) acc→z∈acc∨z∈l
 | [],acc,z,h=>.inl h
 | x::l,acc,z,h=>by
  rcases b4r l (a0f lt x acc) z h with h|h
  ·rcases b2H x acc z h with rfl|h
   ·exact .inr (d2V ..)
   ·exact .inl h
  ·exact .inr (d2W _ h)
theorem a0u {α:Type} {lt:α→α→Bool} {l:List α} {z:α} (h:z∈n7 lt l):z∈l:=by
 rcases b4r l [] z h with h|h
 ·simp at h
 ·exact h
theorem a9K:∀(n m:Nat) (t:Ty),t.parts.length≤n→t.parts.length≤m→a4m n t=a4m m t:=by
 intro n
 induction n with
 | zero=>intro m t h;have:=H5 t;omega
 | succ n ih =>
  intro m t h h'
  obtain ⟨m,rfl⟩:∃k,m=k+1:=⟨m - 1,by have:=H5 t;omega⟩
  unfold a4m
  by_cases h11:t.op=11
  ·rw [d2S h11,d2S h11]
   congr 1
   apply d4x
   intro f hf
   have:=a16 _ t (d3b _) f (a0u hf)
   rw [ih m f.2 (by omega) (by omega)]
  ·rw [d2T h11,d2T h11]
   congr 1
   apply d4x
   intro x hx
   have:=(T5 t).2 x hx
   exact ih m x (by omega) (by omega)
theorem a7x {t:Ty} (h:t.op=11):y9 t=a0y ((n7 ltF (y7 t)).map fun f=>(f.1,y9 f.2)) (P5 t):=by
 unfold y9
 obtain ⟨m,hm⟩:∃m,t.parts.length=m+1:=⟨t.parts.length - 1,by have:=H5 t;omega⟩
 rw [hm]
 conv=>lhs;unfold a4m
 rw [d2S h]
 congr 1
 apply d4x
 intro f hf
 have:=a16 _ t (d3b _) f (a0u hf)
 rw [a9K m f.2.parts.length f.2 (by omega) (d3b _)]
theorem a5H {t:Ty} (h:t.op≠11):y9 t=.mk t.op t.name t.n (t.kids.map y9):=by
 unfold y9
 obtain ⟨m,hm⟩:∃m,t.parts.length=m+1:=⟨t.parts.length - 1,by have:=H5 t;omega⟩
 rw [hm]
 conv=>lhs;unfold a4m
 rw [d2T h]
 congr 1
 apply d4x
 intro x hx
 have:=(T5 t).2 x hx
 exact a9K m x.parts.length x (by omega) (d3b _)
theorem a5I:∀(n:Nat) (t:Ty),t.parts.length≤n→∀f∈y7 t,f.2∈t.parts:=by
 intro n
 induction n with
 | zero=>intro t h;have:=H5 t;omega
 | succ n ih =>
  intro t h f hf
  obtain ⟨op,nm,k,ks⟩:=t
  match ks,hf with
  | [],hf=>simp [y7] at hf
  | [x],hf=>simp [y7] at hf
  | x::y::z::l,hf=>simp [y7] at hf
  | [x,r],hf =>
   have hk:=T5 (.mk op nm k [x,r])
   have hr:=hk.2 r (by simp [Ty.kids])
   unfold y7 at hf
   by_cases h11:op=11
   ·rw [d2S h11] at hf
    rw [C4]
    simp only [Ty.kids,d3j,d3m,d3f]
    rcases d3d.1 hf with rfl|hf
    ·refine d2W _ (d5l _ ?_)
     rw [a0e];exact d2V ..
    ·exact d2W _ (d4C _ (ih r (by omega) f hf))
   ·rw [d2T h11] at hf;simp at hf
theorem a4n {t x y:Ty}:y∈x.parts→x∈t.parts→y∈t.parts:=by
 intro hy
 induction t using Ty.ind with
 | h t ih =>
  intro hx
  rw [C4] at hx ⊢
  rcases d3d.1 hx with rfl|hx
  ·rwa [C4] at hy
  ·obtain ⟨k,hk,hx⟩:=d3K.1 hx
   exact d2W _ (d3K.2 ⟨k,hk,ih k hk hx⟩)
theorem b4s {α:Type} {lt:α→α→Bool}:∀(l acc:List α),(l.foldl (fun acc x=>a0f lt x acc) acc).length=acc.length+l.length
 | [],acc=>rfl
 | x::l,acc=>by
  rw [d4m,b4s l]
  simp only [b71,d2X]
  omega
theorem a3i {α:Type} {lt:α→α→Bool} (l:List α):(n7 lt l).length=l.length:=by
 unfold n7
 rw [b4s]
 simp
def c4B (op n:Int):Bool:=decide (0≤n) && (decide (op=7∨op=10) || decide (n=0))
theorem a9L {iw:ByteArray→Bool} {t:Ty} {s:Int} (h:Z6 t.op=none):I9 iw t s=false:=by
 rw [a9F];unfold a65;rw [h];rfl
def c3B (iw:ByteArray→Bool) (op:Int) (nm:ByteArray):Bool:=if op=11 then iw nm else decide (nm.toList=[])
theorem a0X {iw:ByteArray→Bool} {op:Int} {nm:ByteArray} {n:Int} {kids:List Ty} {s:Int} {k:List Int} (h:Z6 op=some k) :
  I9 iw (.mk op nm n kids) s=(((decide (8≤op) == (s == 114)) && (decide (kids.length=k.length) && (c3B iw op nm && c4B op n))) && J0 iw kids k):=by
 rw [a9F];unfold a65 c4B c3B;simp only [Ty.op,Ty.name,Ty.n,Ty.kids];rw [h];rfl
theorem b4t {α:Type} {lt:α→α→Bool} (x:α):∀l:List α,(a0f lt x l).Perm (x::l)
 | []=>.refl _
 | y::l=>by
  unfold a0f
  split
  ·exact .refl _
  ·exact ((b4t x l).cons y).trans (.swap x y l)
theorem b11 {α:Type} {lt:α→α→Bool}:∀(l acc:List α),(l.foldl (fun acc x=>a0f lt x acc) acc).Perm (acc++l)
 | [],acc=>by simp
 | x::l,acc=>by
  rw [d4m]
  refine (b11 l _).trans ?_
  have h1:(a0f lt x acc++l).Perm ((x::acc)++l):=(b4t x acc).append_right l
  exact h1.trans List.perm_middle.symm
theorem b5L {α:Type} (lt:α→α→Bool) (l:List α):(n7 lt l).Perm l:=by
 have:=b11 (lt:=lt) l []
 simpa [n7] using this
def A5 (fs:List (ByteArray×Ty)):Nat:=(fs.map fun f=>1+f.2.parts.length).sum
theorem b0D {a b:List (ByteArray×Ty)} (h:a.Perm b):A5 a=A5 b:=(h.map _).sum_nat
theorem a5J (tl:Ty):∀fs:List (ByteArray×Ty),(a0y fs tl).parts.length=A5 fs+tl.parts.length
 | []=>by simp [a0y,A5]
 | f::fs=>by
  have ih:=a5J tl fs
  unfold a0y at ih ⊢
  rw [List.foldr_cons,C4]
  simp only [Ty.kids,d2X,d3j,d3m,d3f,d2R,ih,A5,d3c,d49]
  omega
theorem a7P:∀(n:Nat) (t:Ty),t.parts.length≤n→a0N t→t.parts.length=A5 (y7 t)+(P5 t).parts.length:=by
 intro n
 induction n with
 | zero=>intro t h;have:=H5 t;omega
 | succ n ih =>
  intro t hn hsp
  by_cases h11:t.op=11
  ·obtain ⟨a,b,hk,hsb,hf,ht⟩:=a4l hsp h11
   have hb:=(T5 t).2 b (by rw [hk];simp)
   have:=ih b (by omega) hsb
   rw [hf,ht,C4,hk]
   simp only [d2X,d3j,d3m,d3f,d2R,this,A5,d3c,d49]
   omega
  ·obtain ⟨h1,h2⟩:=a5G h11
   rw [h1,h2]
   simp [A5]
theorem a2H {α:Type} {f g:α→Nat}:∀ {l:List α},(∀x∈l,f x=g x)→(l.map f).sum=(l.map g).sum
 | [],_=>rfl
 | x::l,h=>by
  rw [d3c,d3c,d49,d49,h x (d2V ..),a2H fun y hy=>h y (d2W _ hy)]
theorem b12:∀(n:Nat) (t:Ty),t.parts.length≤n→(∀x∈t.parts,a0N x)→(y9 t).parts.length=t.parts.length:=by
 intro n
 induction n with
 | zero=>intro t h;have:=H5 t;omega
 | succ n ih =>
  intro t hn hsp
  have ht:a0N t:=hsp t (by rw [a0e];exact d2V ..)
  by_cases h11:t.op=11
  ·rw [a7x h11,a5J,a7P _ t (d3b _) ht]
   congr 1
   rw [←b0D (b5L ltF (y7 t))]
   unfold A5
   rw [d4X]
   refine a2H fun f hf=>?_
   have h1:=a16 _ t (d3b _) f (a0u hf)
   have h2:=a5I _ t (d3b _) f (a0u hf)
   simp only [Function.comp]
   rw [ih f.2 (by omega) fun x hx=>hsp x (a4n hx h2)]
  ·rw [a5H h11,C4,C4 t]
   simp only [Ty.kids,d2X,List.length_flatMap,d4X]
   congr 1
   refine a2H fun x hx=>?_
   have h1:=(T5 t).2 x hx
   simp only [Function.comp]
   exact ih x (by omega) fun y hy=>hsp y (by rw [C4];exact d2W _ (d3K.2 ⟨x,hx,hy⟩))
def F3 (t:Ty):Prop:=∀x∈t.parts,a0N x
theorem F3.self {t:Ty} (h:F3 t):a0N t:=h t (by rw [a0e];exact d2V ..)
theorem F3.mk {t:Ty} (h:a0N t) (hk:∀x∈t.kids,F3 x):F3 t:=fun y hy=>by
 rw [C4] at hy
 rcases d3d.1 hy with rfl|hy
 ·exact h
 ·obtain ⟨x,hx,hy⟩:=d3K.1 hy
  exact hk x hx y hy
theorem a5K (f:ByteArray×Ty) (fs:List (ByteArray×Ty)) (tl:Ty):a0y (f::fs) tl=.mk 11 f.1 0 [f.2,a0y fs tl]:=rfl
theorem a5L {tl:Ty} (ht:F3 tl):∀ {fs:List (ByteArray×Ty)},(∀f∈fs,F3 f.2)→F3 (a0y fs tl)
 | [],_=>ht
 | f::fs,h=>by
  have ih:=a5L ht (fs:=fs) fun g hg=>h g (d2W _ hg)
  rw [a5K]
  refine .mk (fun _=>ih.self) fun x hx=>?_
  simp only [Ty.kids,d3d,d4p,d5x] at hx
  rcases hx with rfl|rfl
  ·exact h f (d2V ..)
  ·exact ih
theorem a7y {t:Ty} (h:t.op≠11):a0N t:=by
 obtain ⟨op,nm,n,ks⟩:=t
 match ks with
 | []=>exact h
 | [a]=>exact h
 | [a,b]=>exact fun e=>absurd e h
 | a::b::c::l=>exact h
theorem a33 (iw:ByteArray→Bool):∀(ts:List Ty) (ks:List Int),J0 iw ts ks=true→∀x∈ts,∃c,I9 iw x c=true
 | [],_,_,x,hx=>by simp at hx
 | t::ts,[],h,x,hx=>by rw [J0] at h;cases h
 | t::ts,k::ks,h,x,hx=>by
  rw [J0,d2Z] at h
  rcases d3d.1 hx with rfl|hx
  ·exact ⟨k,h.1⟩
  ·exact a33 iw ts ks h.2 x hx
theorem b4u (iw:ByteArray→Bool) (t:Ty):∀s,I9 iw t s=true→∀x∈t.parts,a0N x:=by
 induction t using Ty.ind with
 | h t ih =>
  intro s hs x hx
  cases hko:Z6 t.op with
  | none=>rw [a9L hko] at hs;cases hs
  | some k =>
   obtain ⟨op,nm,n,kids⟩:=t
   rw [a0X (k:=k) (by exact hko)] at hs
   simp only [d2Z,d4d] at hs
   obtain ⟨⟨_,hlen,_⟩,hss⟩:=hs
   rw [C4] at hx
   rcases d3d.1 hx with rfl|hx
   ·simp only [Ty.op] at hko
    by_cases h11:op=11
    ·subst h11
     have hk:k.length=2:=by
      have:Z6 11=some [116,114]:=by decide
      rw [this] at hko
      injection hko with hko
      rw [←hko];rfl
     rw [hk] at hlen
     match kids,hlen,ih,hss with
     | [a,b],_,ih,hss =>
      obtain ⟨c,hc⟩:=a33 iw _ _ hss b (by simp)
      exact fun _=>ih b (by simp [Ty.kids]) c hc b (by rw [a0e];exact d2V ..)
    ·match kids with
     | []=>exact h11
     | [a]=>exact h11
     | [a,b]=>exact fun h=>absurd h h11
     | a::b::c::l=>exact h11
   ·obtain ⟨y,hy,hx⟩:=d3K.1 hx
    obtain ⟨c,hc⟩:=a33 iw _ _ hss y hy
    exact ih y hy c hc x hx
def a0C (d:ByteArray×Ty) (p:Bool×List (ByteArray×Ty)) (y:ByteArray×Ty):Bool×List (ByteArray×Ty) :=
 match p.1 with
 | true=>(true,p.2++[y])
 | false=>match ltF d y with|true=>(true,p.2++[d]++[y])|false=>(false,p.2++[y])
theorem a9M (d:ByteArray×Ty):∀(l acc:List (ByteArray×Ty)),l.foldl (a0C d) (true,acc)=(true,acc++l)
 | [],acc=>by simp
 | y::l,acc=>by rw [d4m,show a0C d (true,acc) y=(true,acc++[y]) from rfl,a9M d l];simp
theorem b13 (d:ByteArray×Ty):∀(l acc:List (ByteArray×Ty)),(l.foldl (a0C d) (false,acc)).2++(if (l.foldl (a0C d) (false,acc)).1=true then [] else [d])=acc++a0f ltF d l
 | [],acc=>by simp [a0f]
 | y::l,acc=>by
  rw [d4m,a0f]
  cases h:ltF d y with
  | true =>
   rw [show a0C d (false,acc) y=(true,acc++[d]++[y]) by unfold a0C;rw [h],a9M]
   simp
  | false =>
   rw [show a0C d (false,acc) y=(false,acc++[y]) by unfold a0C;rw [h],b13 d l]
   simp
theorem b72 (d:ByteArray×Ty) (l:List (ByteArray×Ty)):∀(p:Bool×List (ByteArray×Ty)),(l.foldl (a0C d) p).2.length≤p.2.length+l.length+1:=by
 have h1:∀(l:List (ByteArray×Ty)) (acc:List (ByteArray×Ty)),(l.foldl (a0C d) (true,acc)).2.length=acc.length+l.length:=fun l acc=>by rw [a9M];simp
 induction l with
 | nil=>intro p;simp
 | cons y l ih =>
  intro p
  obtain ⟨b,acc⟩:=p
  rw [d4m]
  cases b with
  | true=>rw [show a0C d (true,acc) y=(true,acc++[y]) from rfl,h1];simp;omega
  | false =>
   cases h:ltF d y with
   | true=>rw [show a0C d (false,acc) y=(true,acc++[d]++[y]) by unfold a0C;rw [h],h1];simp;omega
   | false =>
    rw [show a0C d (false,acc) y=(false,acc++[y]) by unfold a0C;rw [h]]
    have:=ih (false,acc++[y])
    simp at this ⊢
    omega
theorem c14 (d:ByteArray×Ty) (l:List (ByteArray×Ty)) {k:Nat} {y:ByteArray×Ty} (h:l[k]?=some y) (p:Bool×List (ByteArray×Ty)):(l.take (k+1)).foldl (a0C d) p=a0C d ((l.take k).foldl (a0C d) p) y:=by
 rw [List.take_add_one,h,List.foldl_append]
 rfl
theorem a9N (a b:List (ByteArray×Ty)):rF (a++b)=rF a++rF b:=by unfold rF;rw [d3Q]
theorem a9O (x:ByteArray×Ty):rF [x]=[.sc (.string x.1)::cT x.2]:=rfl
theorem b8F (t:Ty) (hs:a0N t) (hN:t.parts.length≤1048576):v8 115 [.ag (A7 (cT t))] [] (fun res os'=>res=[.own 0,.ag (A7 (cT (P5 t)))]∧os'=[.row false 164 (rF (n7 ltF (y7 t)))]):=by
 obtain ⟨Q,hQ⟩:∃Q,Q=rF (n7 ltF (y7 t)):=⟨_,rfl⟩
 rw [←hQ]
 obtain ⟨q0,q1,q2,q3,hq⟩:=l8 (P5 t)
 rw [hq]
 obtain ⟨op,nm,n,ks⟩:=t
 generalize ht:Ty.mk op nm n ks=t at *
 have hc:cT t=[.sc (.int .u8 op),.sc (.string nm),.sc (.int .i64 n),.sl 4 (rT ks)]:=by rw [←ht,cT]
 obtain ⟨K0,hK0⟩:∃K,K=rT ks:=⟨_,rfl⟩
 rw [hc,←hK0]
 refine Z5 Tryz.func115 rfl ?_;intro qa qb _ _ _ _ _ qi _ qk _ _ qo qp _ _ _ _ _ _ _ _ va vc _ ve;intros;rename_i hA
 cbv
 repeat (with_reducible apply f8 hA;cbv)
 obtain ⟨e1,e2,e3,e4,e5,e6,e7,e8,e9⟩:=j7 hA
 obtain ⟨s1,s2,s3,s4,s5,s6,-⟩:=G1 hA
 obtain ⟨r1,r2,r3,r4⟩:=A8 hA
 refine c0X hA (γ:=Ty×Int×ByteArray×Int×List (List D)×List (List D)) (fun x=>[(4,.own 2)]) (fun x=>[(0,.box [.d (.sc (.int .u8 x.2.1)),.d (.sc (.string x.2.2.1)),.d (.sc (.int .i64 x.2.2.2.1)),.d (.sl 4 x.2.2.2.2.1)])]) (fun x=>[.row false 164 x.2.2.2.2.2])
  (fun x=>∃ks fs,x.1=.mk x.2.1 x.2.2.1 x.2.2.2.1 ks∧x.2.2.2.2.1=rT ks∧a0N x.1∧x.2.2.2.2.2=rF (n7 ltF fs)∧fs++y7 x.1=y7 t∧P5 x.1=P5 t∧fs.length+x.1.parts.length≤1048576) (fun x=>x.1.parts.length) (t,op,nm,n,K0,[]) ?_ ?_ ?_
 ·exact ⟨ks,[],ht.symm,hK0,hs,rfl,rfl,rfl,by simpa using hN⟩
 ·refine a3u.of (P0.own _ 4 164 false rfl) ?_ (by exact d4f rfl)
  cbv
 ·intro x hinv
  obtain ⟨r,op,nm,n,K,L⟩:=x
  cbv;refine gn ?_
  obtain ⟨ks,fs,hr,hK,hsr,hL,hfs,htl,hlen⟩:=hinv
  replace hr:r=.mk op nm n ks:=hr
  replace hK:K=rT ks:=hK
  replace hsr:a0N r:=hsr
  replace hL:L=rF (n7 ltF fs):=hL
  replace hfs:fs++y7 r=y7 t:=hfs
  replace htl:P5 r=P5 t:=htl
  replace hlen:fs.length+r.parts.length≤1048576:=hlen
  have h11:qk op 11=decide (op=11):=e9 _ _
  by_cases hop:op=11
  ·rw [d3a hop] at h11
   obtain ⟨a,b,hk,hsb,hfb,htb⟩:=a4l hsr (by rw [hr];exact hop)
   have hnmr:r.name=nm:=by rw [hr];rfl
   rw [hnmr] at hfb
   have hks:ks=[a,b]:=by rw [←hk,hr];rfl
   obtain ⟨a0,a1,a2,a3,ha⟩:=l8 a
   obtain ⟨op',nm',n',ks'⟩:=b
   generalize hb:Ty.mk op' nm' n' ks'=b at *
   have hcb:cT b=[.sc (.int .u8 op'),.sc (.string nm'),.sc (.int .i64 n'),.sl 4 (rT ks')]:=by rw [←hb,cT]
   obtain ⟨K',hK'⟩:∃K,K=rT ks':=⟨_,rfl⟩
   rw [←hK'] at hcb
   have g0:vc K 0=some [a0,a1,a2,a3]:=by rw [r2,d2S (by omega),hK,hks];exact congrArg some ha
   have g1:vc K 1=some [.sc (.int .u8 op'),.sc (.string nm'),.sc (.int .i64 n'),.sl 4 K']:=by rw [r2,d2S (by omega),hK,hks];exact congrArg some hcb
   rw [h11]
   cbv;refine gn ?_
   rw [g0]
   cbv
   repeat (first|(refine a2j hA 6 164 false rfl ?_;cbv)|(with_reducible apply f8 hA;cbv))
   refine j9 hA (γ:=Int×Bool×List (List D)) (fun x=>[(8,vi .i64 x.1),(7,vb x.2.1),(6,.own 4)]) (fun x=>[(4,.row false 164 x.2.2)])
    (fun x=>∃k:Nat,x.1=(k:Int)∧k≤(n7 ltF fs).length∧x.2.1=(((n7 ltF fs).take k).foldl (a0C (nm,a)) (false,[])).1∧x.2.2=rF (((n7 ltF fs).take k).foldl (a0C (nm,a)) (false,[])).2) (fun x=>(n7 ltF fs).length - x.1.toNat) (0,false,[]) ?_ ?_ ?_
   ·exact ⟨0,rfl,d3t _,rfl,rfl⟩
   ·cbv
   ·intro x hinv
    obtain ⟨z,inn,M⟩:=x
    cbv;refine gn ?_
    obtain ⟨k,hz,hk2,hin,hM⟩:=hinv
    replace hz:z=(k:Int):=hz
    replace hin:inn=(((n7 ltF fs).take k).foldl (a0C (nm,a)) (false,[])).1:=hin
    replace hM:M=rF (((n7 ltF fs).take k).foldl (a0C (nm,a)) (false,[])).2:=hM
    have hsn:(n7 ltF fs).length=fs.length:=a3i fs
    have hll:va L=(((n7 ltF fs).length:Nat):Int):=by rw [r1,hL,a1G]
    have hlt:qi z (va L)=decide (k<(n7 ltF fs).length):=by rw [e7,hll,hz];exact d3l.2 (by omega)
    by_cases h9:k<(n7 ltF fs).length
    ·rw [d3a h9] at hlt
     obtain ⟨x,hx⟩:∃x,(n7 ltF fs)[k]?=some x:=⟨_,d2P h9⟩
     have hpt:=c14 (nm,a) (n7 ltF fs) hx (false,[])
     generalize hPk:((n7 ltF fs).take k).foldl (a0C (nm,a)) (false,[])=P at *
     obtain ⟨xn,xt⟩:=x
     obtain ⟨x0,x1,x2,x3,hxx⟩:=l8 xt
     have gx:vc L z=some [.sc (.string xn),x0,x1,x2,x3]:=by rw [r2,hz,d2S (by omega),hL,show ((k:Int)).toNat=k by omega,b2G hx,hxx]
     have hsl:qo (qp nm) (qp xn)=ltF (nm,a) (xn,xt):=by rw [s2,s3,s3];rfl
     rw [hlt]
     obtain ⟨Pb,Pl⟩:=P
     simp only at hin hM
     subst hin
     have hz1:qa .i64 (qb z 1)=((k+1:Nat):Int):=by rw [e1,e2,hz,IntWalk.i64_in _ (by omega)];omega
     have hmu:(n7 ltF fs).length - (qa .i64 (qb z 1)).toNat<(n7 ltF fs).length - z.toNat:=by rw [hz1,hz];omega
     have hMl:M.length≤1048577:=by
      have h:=b72 (nm,a) ((n7 ltF fs).take k) (false,[])
      rw [hPk,d3v] at h
      rw [hM,a1G]
      simp only [d3g] at h
      omega
     cases inn
     ·cases hlx:ltF (nm,a) (xn,xt)
      ·have hput:a0C (nm,a) (false,Pl) (xn,xt)=(false,Pl++[(xn,xt)]):=by unfold a0C;rw [hlx]
       rw [hlx] at hsl
       rw [hput] at hpt
       cbv;repeat (first|(with_reducible apply f8 hA;cbv)|(rw [gx];cbv)|(rw [hsl];cbv)|(refine A6 hA true ?_;cbv)|(refine B3 hA (by simp only [r4,d2R,d2X,d3g];omega) ?_;cbv))
       refine ⟨(qa .i64 (qb z 1),false,ve M [[.sc (.string xn),x0,x1,x2,x3]]),⟨k+1,hz1,h9,by rw [hpt],by rw [hpt];show ve M _=rF (Pl++[(xn,xt)]);rw [r4,hM,a9N,a9O,hxx]⟩,hmu,?_⟩
       cbv
      ·have hput:a0C (nm,a) (false,Pl) (xn,xt)=(true,Pl++[(nm,a)]++[(xn,xt)]):=by unfold a0C;rw [hlx]
       rw [hlx] at hsl
       rw [hput] at hpt
       cbv;repeat (first|(with_reducible apply f8 hA;cbv)|(rw [gx];cbv)|(rw [hsl];cbv)|(refine A6 hA true ?_;cbv)|(refine B3 hA (by simp only [r4,d2R,d2X,d3g];omega) ?_;cbv))
       refine ⟨(qa .i64 (qb z 1),true,ve (ve M [[.sc (.string nm),a0,a1,a2,a3]]) [[.sc (.string xn),x0,x1,x2,x3]]),⟨k+1,hz1,h9,by rw [hpt],by rw [hpt];show ve (ve M _) _=rF (Pl++[(nm,a)]++[(xn,xt)]);rw [r4,r4,hM,a9N,a9N,a9O,a9O,hxx,ha]⟩,hmu,?_⟩
       cbv
     ·have hput:a0C (nm,a) (true,Pl) (xn,xt)=(true,Pl++[(xn,xt)]):=rfl
      rw [hput] at hpt
      cbv;repeat (first|(with_reducible apply f8 hA;cbv)|(rw [gx];cbv)|(rw [hsl];cbv)|(refine A6 hA true ?_;cbv)|(refine B3 hA (by simp only [r4,d2R,d2X,d3g];omega) ?_;cbv))
      refine ⟨(qa .i64 (qb z 1),true,ve M [[.sc (.string xn),x0,x1,x2,x3]]),⟨k+1,hz1,h9,by rw [hpt],by rw [hpt];show ve M _=rF (Pl++[(xn,xt)]);rw [r4,hM,a9N,a9O,hxx]⟩,hmu,?_⟩
      cbv
    ·rw [d2U h9] at hlt
     have hins:=b13 (nm,a) (n7 ltF fs) []
     rw [d31 (by omega)] at hin hM
     have hMl:M.length≤1048577:=by
      have h:=b72 (nm,a) (n7 ltF fs) (false,[])
      rw [hM,a1G]
      simp only [d3g] at h
      omega
     generalize hPk:(n7 ltF fs).foldl (a0C (nm,a)) (false,[])=P at *
     obtain ⟨Pb,Pl⟩:=P
     simp only at hin hM hins
     subst hin
     rw [d3L,←b8E] at hins
     have hbl:b.parts.length<r.parts.length:=(T5 r).2 b (by rw [hk];simp)
     have hfs2:(fs++[(nm,a)])++y7 b=y7 t:=by rw [d37,←hfs,hfb];rfl
     rw [hlt]
     cases inn
     ·cbv;repeat (first|(with_reducible apply f8 hA;cbv)|(rw [g1];cbv)|(refine A6 hA true ?_;cbv)|(refine B3 hA (by simp only [r4,d2R,d2X,d3g];omega) ?_;cbv))
      have hnew:ve M [[.sc (.string nm),a0,a1,a2,a3]]=rF (n7 ltF (fs++[(nm,a)])):=by rw [←hins,d2T (by decide),r4,hM,a9N,a9O,ha]
      refine ⟨(b,op',nm',n',K',ve M [[.sc (.string nm),a0,a1,a2,a3]]),⟨ks',fs++[(nm,a)],hb.symm,hK',hsb,hnew,hfs2,by rw [←htl,htb],by rw [d2R];show fs.length+1+b.parts.length≤_;omega⟩,hbl,a3u.of (P0.move _ 4 2 4 rfl rfl rfl rfl) ?_ (by exact d4f rfl)⟩
      cbv
     ·cbv;repeat (first|(with_reducible apply f8 hA;cbv)|(rw [g1];cbv)|(refine A6 hA true ?_;cbv)|(refine B3 hA (by simp only [r4,d2R,d2X,d3g];omega) ?_;cbv))
      have hnew:M=rF (n7 ltF (fs++[(nm,a)])):=by rw [←hins,d2S rfl,d3f,hM]
      refine ⟨(b,op',nm',n',K',M),⟨ks',fs++[(nm,a)],hb.symm,hK',hsb,hnew,hfs2,by rw [←htl,htb],by rw [d2R];show fs.length+1+b.parts.length≤_;omega⟩,hbl,a3u.of (P0.move _ 4 2 4 rfl rfl rfl rfl) ?_ (by exact d4f rfl)⟩
      cbv
  ·rw [d2U hop] at h11
   obtain ⟨hf0,ht0⟩:=a5G (t:=r) (by rw [hr];exact hop)
   rw [hf0,d3f] at hfs
   have hLQ:L=Q:=by rw [hL,hfs,hQ]
   rw [ht0,hr] at htl
   rw [←htl,cT,←hK] at hq
   rw [h11,hLQ]
   cases hq
   cbv;refine gn ?_
   exact m9 hA [2] ⟨rfl,rfl,rfl,rfl,rfl,rfl,rfl,rfl⟩ ⟨rfl,rfl⟩
section
def a17 {α:Type} (a b:Nat):Nat→List α→List α
 | 0,l=>l
 | k+1,l=>match (a17 a b k l)[a+k]?,(a17 a b k l)[b+k]? with
  | some x,some y=>((a17 a b k l).set (a+k) y).set (b+k) x
  | _,_=>a17 a b k l
theorem a4O {α:Type} (a b:Nat):∀(k:Nat) (l:List α),(a17 a b k l).length=l.length
 | 0,l=>rfl
 | k+1,l=>by
  unfold a17
  split
  ·rw [d3s,d3s,a4O]
  ·exact a4O a b k l
theorem b14 {α:Type} (a b:Nat):∀(k:Nat) (l:List α),a+k≤b→b+k≤l.length→∀i,(a17 a b k l)[i]?=if a≤i∧i<a+k then l[i - a+b]? else if b≤i∧i<b+k then l[i - b+a]? else l[i]?
 | 0,l,_,_,i=>by
  rw [d2T (by omega),d2T (by omega)]
  rfl
 | k+1,l,h1,h2,i=>by
  have ih:=b14 a b k l (by omega) (by omega)
  have ea:=ih (a+k)
  have eb:=ih (b+k)
  rw [d2T (by omega),d2T (by omega)] at ea eb
  have hla:a+k<l.length:=by omega
  have hlb:b+k<l.length:=by omega
  rw [d2P hla] at ea
  rw [d2P hlb] at eb
  unfold a17
  rw [ea,eb]
  simp only
  have hsl:=a4O a b k l
  by_cases e1:i=b+k
  ·subst e1
   rw [d30 (by rw [d3s,hsl];omega),d2T (by omega),d2S (by omega),show b+k - b+a=a+k by omega,d2P hla]
  ·rw [d3p (by omega)]
   by_cases e2:i=a+k
   ·subst e2
    rw [d30 (by rw [hsl];omega),d2S (by omega),show a+k - a+b=b+k by omega,d2P hlb]
   ·rw [d3p (by omega),ih i]
    by_cases c1:a≤i∧i<a+k
    ·rw [d2S c1,d2S (by omega)]
    ·rw [d2T c1]
     by_cases c2:b≤i∧i<b+k
     ·rw [d2S c2,d2T (by omega),d2S (by omega)]
     ·rw [d2T c2,d2T (by omega),d2T (by omega)]
theorem a4o {α:Type} (P X M Y S:List α) (h:X.length=Y.length):a17 P.length (P.length+X.length+M.length) X.length (P++(X++(M++(Y++S))))=P++(Y++(M++(X++S))):=by
 apply d4c
 intro i
 rw [b14 _ _ _ _ (by omega) (by simp only [d2R];omega)]
 simp only [List.getElem?_append]
 repeat' split
 all_goals first
  | rfl
  | omega
  | (congr 1;omega)
theorem a2l {α:Type} {l:List α} {n:Nat} (h:n≤l.length):∃a b,l=a++b∧a.length=n:=⟨l.take n,l.drop n,(d3X n l).symm,by simp;omega⟩
theorem a9P {α:Type} {xs:List α} {k:Nat} {y:α} (h:xs[k]?=some y):xs.take (k+1)=xs.take k++[y]:=by
 obtain ⟨hi,e⟩:=d2Q.1 h
 rw [d3T hi,e]
theorem b15:∀l:List UInt8,Op.bytesLess l l=false
 | []=>rfl
 | a::l=>by simp [Op.bytesLess,b15 l]
theorem b16:∀x y z:List UInt8,Op.bytesLess x y=true→Op.bytesLess y z=true→Op.bytesLess x z=true
 | x,[],_,h,_=>by cases x <;> simp [Op.bytesLess] at h
 | _,_::_,[],_,h=>by simp [Op.bytesLess] at h
 | [],_::_,_::_,_,_=>by simp [Op.bytesLess]
 | a::x,b::y,c::z,h1,h2=>by
  simp only [Op.bytesLess,d36,d4d,d2Z,d3F] at h1 h2 ⊢
  rcases h1 with h1|⟨rfl,h1⟩
  ·rcases h2 with h2|⟨rfl,h2⟩
   ·exact .inl (UInt8.lt_trans h1 h2)
   ·exact .inl h1
  ·rcases h2 with h2|⟨rfl,h2⟩
   ·exact .inl h2
   ·exact .inr ⟨rfl,b16 x y z h1 h2⟩
theorem b17:∀x y z:List UInt8,Op.bytesLess x y=false→Op.bytesLess y z=false→Op.bytesLess x z=false
 | x,_,[],_,_=>by cases x <;> simp [Op.bytesLess]
 | _,[],_::_,_,h=>by simp [Op.bytesLess] at h
 | [],_::_,_,h,_=>by simp [Op.bytesLess] at h
 | a::x,b::y,c::z,h1,h2=>by
  simp only [Op.bytesLess,d4G,d4W,Bool.and_eq_false_iff,d34,ne_eq] at h1 h2 ⊢
  obtain ⟨h1,h1'⟩:=h1
  obtain ⟨h2,h2'⟩:=h2
  have h3:¬a<c:=fun h=>by
   rw [d4D] at h h1 h2
   omega
  refine ⟨h3,?_⟩
  by_cases hac:a=c
  ·subst hac
   right
   have hab:a=b:=by
    rw [d4D] at h1 h2
    exact d48.1 (by omega)
   subst hab
   exact b17 x y z (by simpa using h1') (by simpa using h2')
  ·exact .inl hac
abbrev Rw:=List D
def c9l:Rw→List UInt8
 | .sc (.string a)::_=>a.toList
 | _=>[]
def F6 (x y:Rw):Bool:=Op.bytesLess (c9l x) (c9l y)
theorem Y8:Swo F6:=⟨fun _=>b15 _,fun _ _ _=>b16 _ _ _,fun _ _ _=>b17 _ _ _⟩
theorem b4v {α β:Type} {f:α→β} {lt:α→α→Bool} {lt2:β→β→Bool} (h:∀x y,lt2 (f x) (f y)=lt x y) (x:α):∀l:List α,a0f lt2 (f x) (l.map f)=(a0f lt x l).map f
 | []=>rfl
 | y::l=>by
  rw [d3c,a0f,a0f,h]
  split
  ·rfl
  ·rw [d3c,b4v h x l]
theorem b8G {α β:Type} {f:α→β} {lt:α→α→Bool} {lt2:β→β→Bool} (h:∀x y,lt2 (f x) (f y)=lt x y) (l:List α):n7 lt2 (l.map f)=(n7 lt l).map f:=by
 have key:∀(l acc:List α),(l.map f).foldl (fun acc x=>a0f lt2 x acc) (acc.map f)=(l.foldl (fun acc x=>a0f lt x acc) acc).map f:=by
  intro l
  induction l with
  | nil=>intro acc;rfl
  | cons x l ih=>intro acc;rw [d3c,d4m,d4m,b4v h,ih]
 exact key l []
theorem c6W {x:Rw} {L:List Rw} {y:Rw} (hs:Srt F6 (L++[y])) (h:F6 x y=false):∀z∈L++[y],F6 x z=false:=by
 intro z hz
 rcases d38.1 hz with hz|hz
 ·exact Y8.neg x y z h ((H8.1 hs).2.2 z hz y (by simp))
 ·simp at hz;subst hz;exact h
theorem b4w {α:Type} (A R:List α) (x y:α) {k:Nat} (h:A.length=k):((A++y::x::R).set (k+1) y).set k x=A++x::y::R:=by
 subst h
 rw [d4n _ _ (by omega),show A.length+1 - A.length=1 by omega,d4n _ _ (d3b _),d4k]
 rfl
theorem a81 {V:List Rw} {h:Nat} {y:Rw} (hs:Srt F6 V) (hy:V[h]?=some y):(∀z∈V.take h,F6 y z=false)∧∀z∈V.drop (h+1),F6 z y=false:=by
 obtain ⟨hh,e⟩:=d2Q.1 hy
 have hsp:V=V.take h++y::V.drop (h+1):=by
  conv=>lhs;rw [←d3X h V,d3r hh,e]
 rw [hsp] at hs
 obtain ⟨_,h2,h3⟩:=H8.1 hs
 exact ⟨fun z hz=>h3 z hz y (d2V ..),fun z hz=>(d3G.1 h2).1 z hz⟩
theorem b8H {V:List Rw} {h:Nat} {y u:Rw} (hs:Srt F6 V) (hy:V[h]?=some y) (hl:F6 y u=true):∀z∈V.take (h+1),F6 z u=true:=by
 intro z hz
 rw [a9P hy] at hz
 rcases d38.1 hz with hz|hz
 ·exact a4k Y8 ((a81 hs hy).1 z hz) hl
 ·simp at hz;subst hz;exact hl
theorem b4x {V:List Rw} {h:Nat} {y u:Rw} (hs:Srt F6 V) (hy:V[h]?=some y) (hl:F6 y u=false):∀z∈V.drop h,F6 z u=false:=by
 intro z hz
 obtain ⟨hh,e⟩:=d2Q.1 hy
 rw [d3r hh,e] at hz
 rcases d3d.1 hz with rfl|hz
 ·exact hl
 ·exact Y8.neg z y u ((a81 hs hy).2 z hz) hl
theorem b8I {α:Type} (A R:List α) (x y:α) {k:Nat} (h:A.length=k):((A++x::y::R).set k y).set (k+1) x=A++y::x::R:=by
 subst h
 rw [d4n _ _ (d3b _),d4k,List.set_cons_zero,d4n _ _ (by omega),show A.length+1 - A.length=1 by omega]
 rfl
theorem b5M {V:List Rw} {h:Nat} {y u:Rw} (hs:Srt F6 V) (hy:V[h]?=some y) (hl:F6 u y=false):∀z∈V.take (h+1),F6 u z=false:=by
 intro z hz
 rw [a9P hy] at hz
 rcases d38.1 hz with hz|hz
 ·exact Y8.neg u y z hl ((a81 hs hy).1 z hz)
 ·simp at hz;subst hz;exact hl
theorem b2L {V:List Rw} {h:Nat} {y u:Rw} (hs:Srt F6 V) (hy:V[h]?=some y) (hl:F6 u y=true):∀z∈V.drop h,F6 u z=true:=by
 intro z hz
 obtain ⟨hh,e⟩:=d2Q.1 hy
 rw [d3r hh,e] at hz
 rcases d3d.1 hz with rfl|hz
 ·exact hl
 ·exact a4j Y8 hl ((a81 hs hy).2 z hz)
theorem a4p {l:List Rw} (h:Srt F6 l) {i j:Nat} {x y:Rw} (hij:i≤j) (hx:l[i]?=some x) (hy:l[j]?=some y):F6 y x=false:=by
 rcases d3M i j with hlt|hge
 ·obtain ⟨hi,ei⟩:=d2Q.1 hx
  obtain ⟨hj,ej⟩:=d2Q.1 hy
  have:=List.pairwise_iff_getElem.1 h i j hi hj hlt
  rw [ei,ej] at this
  exact this
 ·obtain rfl:i=j:=by omega
  rw [hx] at hy
  injection hy with hy
  subst hy
  exact Y8.irr x
def a5M (a m b mid s0 r0:Nat):Prop:=(m≤mid∧s0=a∧r0=m)∨(mid<m∧s0+b=mid+m∧r0=mid)
def c15 (U V:List Rw) (a m p s0 s:Nat):Prop:=∀c x y,s0≤c→c<s→U[c - a]?=some x→V[p - c - m]?=some y→F6 y x=false
def b4y (U V:List Rw) (a m p r r0:Nat):Prop:=∀c x y,r≤c→c<r0→U[c - a]?=some x→V[p - c - m]?=some y→F6 y x=true
section
variable {U V:List Rw} {a m b mid p s0 r0:Nat}
theorem M8 (hw:a5M a m b mid s0 r0) (hmid:mid=(a+b) / 2) (ham:a<m) (hmb:m<b) {s:Nat} (h1:s0≤s) (h2:s≤r0):a≤s∧s≤m∧s≤mid∧m≤mid+m - s∧mid+m - s≤b∧mid≤mid+m - s:=by
 rcases hw with ⟨h,rfl,rfl⟩|⟨h,h3,rfl⟩ <;> omega
theorem c4f (hU:Srt F6 U) (hV:Srt F6 V) (hw:a5M a m b mid s0 r0) (hmid:mid=(a+b) / 2) (ham:a<m) (hmb:m<b) (hp:p+1=mid+m) {c:Nat} {x y:Rw} (hc0:s0≤c) (hc:c<r0) (hx:U[c - a]?=some x) (hy:V[p - c - m]?=some y) (hl:F6 y x=false) :
  c15 U V a m p s0 (c+1):=by
 intro d x' y' hd hdc hx' hy'
 have b1:=M8 hw hmid ham hmb hc0 (d4K hc)
 have b2:=M8 hw hmid ham hmb hd (by omega)
 have h1:=a4p hU (show d - a≤c - a by omega) hx' hx
 have h2:=a4p hV (show p - c - m≤p - d - m by omega) hy hy'
 exact Y8.neg _ _ _ (Y8.neg _ _ _ h2 hl) h1
theorem b5N (hU:Srt F6 U) (hV:Srt F6 V) (hw:a5M a m b mid s0 r0) (hmid:mid=(a+b) / 2) (ham:a<m) (hmb:m<b) (hp:p+1=mid+m) {c:Nat} {x y:Rw} (hc0:s0≤c) (hc:c<r0) (hx:U[c - a]?=some x) (hy:V[p - c - m]?=some y) (hl:F6 y x=true) :
  b4y U V a m p c r0:=by
 intro d x' y' hd hdr hx' hy'
 have b1:=M8 hw hmid ham hmb hc0 (d4K hc)
 have h1:=a4p hU (show c - a≤d - a by omega) hx hx'
 have h2:=a4p hV (show p - d - m≤p - c - m by omega) hy' hy
 exact a4j Y8 (a4k Y8 h2 hl) h1
theorem c6X (hU:Srt F6 U) (hV:Srt F6 V) (hUl:U.length=m - a) (hVl:V.length=b - m) (hw:a5M a m b mid s0 r0) (hmid:mid=(a+b) / 2) (ham:a<m) (hmb:m<b) (hp:p+1=mid+m) {s:Nat} (h1:s0≤s) (h2:s≤r0) (hlo:c15 U V a m p s0 s) (hhi:b4y U V a m p s r0) :
  (∀x∈U.drop (s - a),∀y∈V.take (mid+m - s - m),F6 y x=true)∧∀x∈U.take (s - a),∀y∈V.drop (mid+m - s - m),F6 y x=false:=by
 have b0:=M8 hw hmid ham hmb h1 h2
 constructor
 ·intro x hx y hy
  obtain ⟨i,hi⟩:=d39.1 hx
  obtain ⟨j,hj⟩:=d39.1 hy
  rw [d3y] at hi
  have hj2:j<mid+m - s - m∧V[j]?=some y:=by
   rw [d32] at hj
   split at hj
   ·exact ⟨by omega,hj⟩
   ·cases hj
  have hiu:s - a+i<U.length:=(d2Q.1 hi).1
  by_cases hs:s<r0
  ·obtain ⟨x0,hx0⟩:∃x0,U[s - a]?=some x0:=⟨_,d2P (by omega)⟩
   obtain ⟨y0,hy0⟩:∃y0,V[p - s - m]?=some y0:=⟨_,d2P (by omega)⟩
   have h:=hhi s x0 y0 (d3b _) hs hx0 hy0
   exact a4j Y8 (a4k Y8 (a4p hV (show j≤p - s - m by omega) hj2.2 hy0) h) (a4p hU (show s - a≤s - a+i by omega) hx0 hi)
  ·rcases hw with ⟨h,rfl,rfl⟩|⟨h,h3,rfl⟩ <;> omega
 ·intro x hx y hy
  obtain ⟨i,hi⟩:=d39.1 hx
  obtain ⟨j,hj⟩:=d39.1 hy
  rw [d3y] at hj
  have hi2:i<s - a∧U[i]?=some x:=by
   rw [d32] at hi
   split at hi
   ·exact ⟨by omega,hi⟩
   ·cases hi
  have hjv:mid+m - s - m+j<V.length:=(d2Q.1 hj).1
  by_cases hs:s0<s
  ·have b1:=M8 hw hmid ham hmb (s:=s - 1) (by omega) (by omega)
   obtain ⟨x0,hx0⟩:∃x0,U[s - 1 - a]?=some x0:=⟨_,d2P (by omega)⟩
   obtain ⟨y0,hy0⟩:∃y0,V[p - (s - 1) - m]?=some y0:=⟨_,d2P (by omega)⟩
   have h:=hlo (s - 1) x0 y0 (by omega) (by omega) hx0 hy0
   exact Y8.neg _ _ _ (Y8.neg _ _ _ (a4p hV (show p - (s - 1) - m≤mid+m - s - m+j by omega) hy0 hj) h) (a4p hU (show i≤s - 1 - a by omega) hi2.2 hx0)
  ·rcases hw with ⟨h,rfl,rfl⟩|⟨h,h3,rfl⟩ <;> omega
end
def a4q (bs:Nat) (bl:List (List Rw)):Prop:=∀x∈bl,x.length=bs∧Srt F6 x
theorem a9Q {bs:Nat}:∀ {bl:List (List Rw)},a4q bs bl→bl.flatten.length=bl.length * bs
 | [],_=>by simp
 | x::bl,h=>by
  rw [d3H,d2R,(h x (d2V ..)).1,a9Q fun y hy=>h y (d2W _ hy),d2X,d3U]
  omega
theorem a4q.snoc {bs:Nat} {bl:List (List Rw)} {x:List Rw} (h:a4q bs bl) (hx:x.length=bs∧Srt F6 x):a4q bs (bl++[x]):=fun y hy=>by
 rcases d38.1 hy with hy|hy
 ·exact h y hy
 ·simp at hy;subst hy;exact hx
end
theorem c9m {x:Rw} (h:x.length=5):∃x0 x1 x2 x3 x4,x=[x0,x1,x2,x3,x4]:=by
 match x,h with
 | [x0,x1,x2,x3,x4],_=>exact ⟨x0,x1,x2,x3,x4,rfl⟩
theorem a1Z {α:Type} (a b:Nat):∀(k:Nat) (l:List α),∀x∈a17 a b k l,x∈l
 | 0,l,x,h=>h
 | k+1,l,x,h=>by
  unfold a17 at h
  split at h
  ·rename_i y z h1 h2
   rcases d3O h with h|rfl
   ·rcases d3O h with h|rfl
    ·exact a1Z a b k l x h
    ·exact a1Z a b k l _ (d3e h2)
   ·exact a1Z a b k l _ (d3e h1)
  ·exact a1Z a b k l x h
theorem b5O (rows:List Rw) (h5:∀x∈rows,x.length=5) (a b k fid:Nat) (hN:rows.length≤1048576) (hab:a+k≤b) (hb:b+k≤rows.length) :
  B0 175 [.own 0,vi .i64 a,vi .i64 b,vi .i64 k,.cl fid []] [.row false 164 rows] (fun res os=>res=[]∧os=[.row false 164 (a17 a b k rows)]):=by
 obtain ⟨za,hza⟩:∃z:Int,z=(a:Int):=⟨_,rfl⟩
 obtain ⟨zb,hzb⟩:∃z:Int,z=(b:Int):=⟨_,rfl⟩
 obtain ⟨zk,hzk⟩:∃z:Int,z=(k:Int):=⟨_,rfl⟩
 rw [←hza,←hzb,←hzk]
 obtain ⟨S,hS⟩:∃S,S=a17 a b k rows:=⟨_,rfl⟩
 rw [←hS]
 refine a10 Tryz.func175 rfl (by kernel_rfl) (by kernel_rfl) (by kernel_rfl) rfl rfl (by rintro _ _ ⟨_,rfl⟩;rfl) ?_;intro qa qb _ _ _ _ _ qi _ _ _ _ _ _ _ _ _ _ _ _ _ _ _ vc _ _ vf;intros;rename_i hA K hK
 cbv;refine gn ?_
 obtain ⟨e1,e2,e3,e4,e5,e6,e7,e8,e9⟩:=j7 hA
 obtain ⟨r1,r2,r3,r4⟩:=A8 hA
 obtain ⟨m1,m2,m3,m4⟩:=a0U hA
 replace hza:za=(a:Int):=hza
 replace hzb:zb=(b:Int):=hzb
 replace hzk:zk=(k:Int):=hzk
 refine j9 hA (γ:=Int×List (List D)) (fun x=>[(10,vi .i64 x.1),(29,.jk),(35,.jk)]) (fun x=>[(0,.row false 164 x.2)]) (fun x=>∃j:Nat,x.1=(j:Int)∧j≤k∧x.2=a17 a b j rows) (fun x=>k - x.1.toNat) (0,rows) ?_ ?_ ?_
 ·exact ⟨0,rfl,d3t _,rfl⟩
 ·cbv
 ·intro x hinv
  obtain ⟨z,L⟩:=x
  cbv;refine gn ?_
  obtain ⟨j,hz,hj,hL⟩:=hinv
  replace hz:z=(j:Int):=hz
  replace hza:za=(a:Int):=hza
  replace hzb:zb=(b:Int):=hzb
  replace hzk:zk=(k:Int):=hzk
  replace hL:L=a17 a b j rows:=hL
  have hlt:qi z zk=decide (j<k):=by rw [e7,hz,hzk];exact d3l.2 (by omega)
  by_cases h9:j<k
  ·rw [d3a h9] at hlt
   have hLl:L.length=rows.length:=by rw [hL,a4O]
   obtain ⟨x,hx⟩:∃x,L[a+j]?=some x:=⟨_,d2P (by omega)⟩
   obtain ⟨y,hy⟩:∃y,L[b+j]?=some y:=⟨_,d2P (by omega)⟩
   have hx5:=h5 x (a1Z a b j rows x (by rw [←hL];exact d3e hx))
   have hy5:=h5 y (a1Z a b j rows y (by rw [←hL];exact d3e hy))
   obtain ⟨x0,x1,x2,x3,x4,rfl⟩:=c9m hx5
   obtain ⟨y0,y1,y2,y3,y4,rfl⟩:=c9m hy5
   have wa:qa .i64 (qb za z)=((a+j:Nat):Int):=by rw [e1,e2,hza,hz,IntWalk.i64_in _ (by omega)];omega
   have wb:qa .i64 (qb zb z)=((b+j:Nat):Int):=by rw [e1,e2,hzb,hz,IntWalk.i64_in _ (by omega)];omega
   have g1:vc L (qa .i64 (qb zb z))=some [y0,y1,y2,y3,y4]:=by rw [wb,r2,d2S (by omega),d3q];exact hy
   have g2:vc L (qa .i64 (qb za z))=some [x0,x1,x2,x3,x4]:=by rw [wa,r2,d2S (by omega),d3q];exact hx
   have g3:∀v,vc (vf L (qa .i64 (qb za z)) v) (qa .i64 (qb zb z))=some [y0,y1,y2,y3,y4]:=fun v=>by rw [wb,wa,r2,d2S (by omega),m4,d3q,d3q,d3p (by omega)];exact hy
   have hsw:a17 a b (j+1) rows=(L.set (a+j) [y0,y1,y2,y3,y4]).set (b+j) [x0,x1,x2,x3,x4]:=by
    rw [a17,←hL,hx,hy]
   rw [hlt]
   cbv;refine gn ?_
   repeat (first|(rw [g1];cbv)|(rw [g2];cbv)|(rw [g3];cbv)|(with_reducible apply f8 hA;cbv))
   replace hz:z=(j:Int):=hz
   have hz1:qa .i64 (qb z 1)=((j+1:Nat):Int):=by rw [e1,e2,hz,IntWalk.i64_in _ (by omega)];omega
   refine ⟨(qa .i64 (qb z 1),vf (vf L (qa .i64 (qb za z)) [y0,y1,y2,y3,y4]) (qa .i64 (qb zb z)) [x0,x1,x2,x3,x4]),⟨j+1,hz1,h9,?_⟩,?_,?_⟩
   ·show vf (vf L _ _) _ _=_
    rw [m4,m4,wa,wb,d3q,d3q,hsw]
   ·show k - (qa .i64 (qb z 1)).toNat<k - z.toNat
    rw [hz1,hz]
    omega
   ·cbv
  ·rw [d2U h9] at hlt
   rw [hlt]
   cbv;refine gn ?_
   have hjk:j=k:=by omega
   exact hK [] [.row false 164 L] ⟨rfl,by rw [hS,←hjk,←hL]⟩
theorem c16 (P X Y S:List Rw) (h5:∀x∈P++(X++(Y++S)),x.length=5) (fid:Nat) (hN:(P++(X++(Y++S))).length≤1048576) (hx:0<X.length) (hy:0<Y.length) :
  B0 173 [.own 0,vi .i64 P.length,vi .i64 (P.length+X.length:Nat),vi .i64 (P.length+X.length+Y.length:Nat),.cl fid []] [.row false 164 (P++(X++(Y++S)))] (fun res os=>res=[]∧os=[.row false 164 (P++(Y++(X++S)))]):=by
 obtain ⟨za,hza⟩:∃z:Int,z=(P.length:Int):=⟨_,rfl⟩
 obtain ⟨zm,hzm⟩:∃z:Int,z=((P.length+X.length:Nat):Int):=⟨_,rfl⟩
 obtain ⟨zb,hzb⟩:∃z:Int,z=((P.length+X.length+Y.length:Nat):Int):=⟨_,rfl⟩
 obtain ⟨L,hL⟩:∃L,L=P++(X++(Y++S)):=⟨_,rfl⟩
 obtain ⟨M,hM⟩:∃M,M=P++(Y++(X++S)):=⟨_,rfl⟩
 rw [←hza,←hzm,←hzb,←hM,←hL]
 rw [←hL] at h5 hN
 have hLl:L.length=P.length+X.length+Y.length+S.length:=by rw [hL];simp only [d2R];omega
 refine a10 Tryz.func173 rfl (by kernel_rfl) (by kernel_rfl) (by kernel_rfl) rfl rfl (by rintro _ _ ⟨_,rfl⟩;rfl) ?_;intro qa qb qc _ _ _ _ qi _ qk;intros;rename_i hA K hK
 cbv;refine gn ?_;try simp only [nc] at *
 obtain ⟨e1,e2,e3,e4,e5,e6,e7,e8,e9⟩:=j7 hA
 have wi:qa .i64 (qc zm za)=(X.length:Int):=by rw [e1,e3,hza,hzm,IntWalk.i64_in _ (by omega)];omega
 have wj:qa .i64 (qc zb zm)=(Y.length:Int):=by rw [e1,e3,hzb,hzm,IntWalk.i64_in _ (by omega)];omega
 refine j9 hA (γ:=Int×Int×List (List D)) (fun x=>[(10,vi .i64 x.1),(11,vi .i64 x.2.1)]) (fun x=>[(0,.row false 164 x.2.2)])
  (fun x=>∃P' X' Y' S':List Rw,0<X'.length∧0<Y'.length∧P'.length+X'.length=P.length+X.length∧x.1=(X'.length:Int)∧x.2.1=(Y'.length:Int)∧P'++(Y'++(X'++S'))=M∧x.2.2=P'++(X'++(Y'++S'))∧x.2.2.length=L.length∧∀r∈x.2.2,r.length=5) (fun x=>x.1.toNat+x.2.1.toNat) (qa .i64 (qc zm za),qa .i64 (qc zb zm),L) ?_ ?_ ?_
 ·exact ⟨P,X,Y,S,hx,hy,rfl,wi,wj,hM.symm,hL,rfl,h5⟩
 ·cbv
 ·intro x hinv
  obtain ⟨zi,zj,Q⟩:=x
  cbv;refine gn ?_;try simp only [nc] at *
  obtain ⟨P',X',Y',S',hx',hy',hm,hi,hj,he,hQ,hQl,hQ5⟩:=hinv
  replace hQ:Q=P'++(X'++(Y'++S')):=hQ
  replace hQl:Q.length=L.length:=hQl
  have hQl2:Q.length=P'.length+X'.length+Y'.length+S'.length:=by rw [hQ];simp only [d2R];omega
  have heq:qk zi zj=(zi == zj):=e9 _ _
  have hgt:qi zj zi=decide (Y'.length<X'.length):=by rw [e7,hi,hj];exact d3l.2 (by omega)
  have wp:qa .i64 (qc zm zi)=(P'.length:Int):=by rw [e1,e3,hzm,hi,IntWalk.i64_in _ (by omega)];omega
  by_cases hij:X'.length=Y'.length
  ·have h1:qk zi zj=true:=by rw [heq,hi,hj,hij];exact d3C _
   have hsp:=a4o P' X' [] Y' S' hij
   rw [d3L,d3L,←hQ,he,d3g,d4a] at hsp
   have hsw:=b5O Q hQ5 P'.length (P'.length+X'.length) X'.length fid (by omega) (d3b _) (by omega)
   rw [hsp,←wp,hm,←hzm,←hi] at hsw
   rw [h1]
   cbv;refine gn ?_;try simp only [nc] at *
   refine I4 hA [0] hsw ⟨rfl,rfl,rfl,rfl,rfl,rfl,rfl⟩ ?_
   rintro res os2 ⟨rfl,rfl⟩
   cbv;refine gn ?_;try simp only [nc] at *
   exact hK [] [.row false 164 M] ⟨rfl,rfl⟩
  ·have h1:qk zi zj=false:=by rw [heq,hi,hj,d34];omega
   rw [h1]
   cbv;refine gn ?_;try simp only [nc] at *
   by_cases hlt:Y'.length<X'.length
   ·rw [d3a hlt] at hgt
    obtain ⟨X1,X2,hX,hX1⟩:=a2l (l:=X') (n:=Y'.length) (by omega)
    have hX2:Y'.length+X2.length=X'.length:=by rw [hX,d2R];omega
    have hsp:=a4o P' X1 X2 Y' S' hX1
    have hQ2:P'++(X1++(X2++(Y'++S')))=Q:=by rw [hQ,hX];simp only [d37]
    rw [hQ2,hX1] at hsp
    have hsw:=b5O Q hQ5 P'.length (P'.length+Y'.length+X2.length) Y'.length fid (by omega) (by omega) (by omega)
    rw [hsp,show P'.length+Y'.length+X2.length=P.length+X.length by omega,←wp,←hzm,←hj] at hsw
    rw [hgt]
    cbv;refine gn ?_;try simp only [nc] at *
    refine I4 hA [0] hsw ⟨rfl,rfl,rfl,rfl,rfl,rfl,rfl⟩ ?_
    rintro res os2 ⟨rfl,rfl⟩
    cbv;refine gn ?_;try simp only [nc] at *
    have wz:qa .i64 (qc zi zj)=(X2.length:Int):=by rw [e1,e3,hi,hj,IntWalk.i64_in _ (by omega)];omega
    have hmu:(qa .i64 (qc zi zj)).toNat+zj.toNat<zi.toNat+zj.toNat:=by rw [wz,hi,hj];omega
    refine ⟨(qa .i64 (qc zi zj),zj,P'++(Y'++(X2++(X1++S')))),⟨P'++Y',X2,X1,S',by omega,by omega,by rw [d2R];omega,wz,by rw [hX1];exact hj,?_,by simp only [d37],?_,?_⟩,hmu,?_⟩
    ·rw [←he,hX];simp only [d37]
    ·show (P'++(Y'++(X2++(X1++S')))).length=L.length
     rw [←hQl,←hQ2];simp only [d2R];omega
    ·intro r hr
     refine hQ5 r ?_
     rw [←hQ2]
     simp only [d38] at hr ⊢
     grind
    ·cbv
   ·rw [d2U hlt] at hgt
    obtain ⟨Y1,Y2,hY,hY1⟩:=a2l (l:=Y') (n:=Y'.length - X'.length) (by omega)
    have hY2:Y2.length=X'.length:=by have:=congrArg List.length hY;rw [d2R] at this;omega
    have hsp:=a4o P' X' Y1 Y2 S' hY2.symm
    have hQ2:P'++(X'++(Y1++(Y2++S')))=Q:=by rw [hQ,hY];simp only [d37]
    rw [hQ2] at hsp
    have hsw:=b5O Q hQ5 P'.length (P'.length+X'.length+Y1.length) X'.length fid (by omega) (by omega) (by omega)
    have wq:qa .i64 (qc (qa .i64 (qb zm zj)) zi)=((P'.length+X'.length+Y1.length:Nat):Int):=by
     have h2:qa .i64 (qb zm zj)=((P.length+X.length+Y'.length:Nat):Int):=by rw [e1,e2,hzm,hj,IntWalk.i64_in _ (by omega)];omega
     rw [h2,e1,e3,hi,IntWalk.i64_in _ (by omega)];omega
    rw [hsp,←wp,←wq,←hi] at hsw
    rw [hgt]
    cbv;refine gn ?_;try simp only [nc] at *
    refine I4 hA [0] hsw ⟨rfl,rfl,rfl,rfl,rfl,rfl,rfl⟩ ?_
    rintro res os2 ⟨rfl,rfl⟩
    cbv;refine gn ?_;try simp only [nc] at *
    have wz:qa .i64 (qc zj zi)=(Y1.length:Int):=by rw [e1,e3,hi,hj,IntWalk.i64_in _ (by omega)];omega
    have hmu:zi.toNat+(qa .i64 (qc zj zi)).toNat<zi.toNat+zj.toNat:=by rw [wz,hi,hj];omega
    refine ⟨(zi,qa .i64 (qc zj zi),P'++(Y2++(Y1++(X'++S')))),⟨P',Y2,Y1,X'++S',by omega,by omega,by omega,by rw [hY2];exact hi,wz,?_,rfl,?_,?_⟩,hmu,?_⟩
    ·rw [←he,hY];simp only [d37]
    ·show (P'++(Y2++(Y1++(X'++S')))).length=L.length
     rw [←hQl,←hQ2];simp only [d2R];omega
    ·intro r hr
     refine hQ5 r ?_
     rw [←hQ2]
     simp only [d38] at hr ⊢
     grind
    ·cbv
def a4Y (a b:List UInt8):Int:=if Op.bytesLess a b=true then -1 else if Op.bytesLess b a=true then 1 else 0
theorem a66 (a b:List UInt8):decide (a4Y a b<0)=Op.bytesLess a b:=by
 unfold a4Y
 split
 ·simp_all
 ·split <;> simp_all
def b2M (fid:Nat):Prop:=∀(n m:ByteArray) (x1 x2 x3 x4 y1 y2 y3 y4:D),o9 fid [.ag [.sc (.string n),x1,x2,x3,x4],.ag [.sc (.string m),y1,y2,y3,y4]] [.one (.sc (.int .i64 (a4Y n.toList m.toList)))]
def Ok5 (x:Rw):Prop:=∃n x1 x2 x3 x4,x=[.sc (.string n),x1,x2,x3,x4]
theorem Ok5.len {x:Rw} (h:Ok5 x):x.length=5:=by obtain ⟨n,x1,x2,x3,x4,rfl⟩:=h;rfl
theorem b5P (l:List Rw) (x:Rw) {m:List Rw} (hs:Srt F6 m) (ht:Sta F6 m (n7 F6 l++[x])):m=n7 F6 (l++[x]):=b70 Y8 hs (ht.trans (Sta.append (a15 Y8 l) (.refl _)))
theorem b4z (fid:Nat) (hc:b2M fid) (P D S:List Rw) (h5:∀x∈P++(D++S),Ok5 x) (hN:(P++(D++S)).length≤1048576) :
  B0 168 [.own 0,vi .i64 P.length,vi .i64 (P.length+D.length:Nat),.cl fid []] [.row false 164 (P++(D++S))] (fun res os=>res=[]∧os=[.row false 164 (P++(n7 F6 D++S))]):=by
 obtain ⟨za,hza⟩:∃z:Int,z=(P.length:Int):=⟨_,rfl⟩
 obtain ⟨zb,hzb⟩:∃z:Int,z=((P.length+D.length:Nat):Int):=⟨_,rfl⟩
 obtain ⟨L,hL⟩:∃L,L=P++(D++S):=⟨_,rfl⟩
 obtain ⟨M,hM⟩:∃M,M=P++(n7 F6 D++S):=⟨_,rfl⟩
 rw [←hza,←hzb,←hM,←hL]
 rw [←hL] at h5 hN
 have hLl:L.length=P.length+D.length+S.length:=by rw [hL];simp only [d2R];omega
 refine a10 Tryz.func168 rfl (by kernel_rfl) (by kernel_rfl) (by kernel_rfl) rfl rfl (by rintro _ _ ⟨_,rfl⟩;rfl) ?_;intro qa qb qc _ _ _ _ qi _ _ _ _ _ _ _ _ _ _ _ _ _ _ _ vc _ _ vf;intros;rename_i hA K hK
 cbv;refine gn ?_;try simp only [nc] at *
 obtain ⟨e1,e2,e3,e4,e5,e6,e7,e8,e9⟩:=j7 hA
 obtain ⟨r1,r2,r3,r4⟩:=A8 hA
 obtain ⟨m1,m2,m3,m4⟩:=a0U hA
 have wi:qa .i64 (qb za 1)=((P.length+1+0:Nat):Int):=by rw [e1,e2,hza,IntWalk.i64_in _ (by omega)];omega
 refine j9 hA (γ:=Int×List Rw) (fun x=>[(8,vi .i64 x.1)]) (fun x=>[(0,.row false 164 x.2)])
  (fun x=>∃k:Nat,x.1=((P.length+1+k:Nat):Int)∧(k=0∨k+1≤D.length)∧x.2=P++(n7 F6 (D.take (k+1))++(D.drop (k+1)++S))∧x.2.length=L.length∧∀r∈x.2,r∈L) (fun x=>L.length+1 - x.1.toNat) (qa .i64 (qb za 1),L) ?_ ?_ ?_
 ·refine ⟨0,wi,.inl rfl,?_,rfl,fun r h=>h⟩
  have:n7 F6 (D.take 1)=D.take 1:=by
   cases D with
   | nil=>rfl
   | cons d D=>rfl
  show L=_
  rw [this,hL,←d37 (D.take 1),d3X]
 ·cbv
 ·intro x hinv
  obtain ⟨z,Q⟩:=x
  cbv;refine gn ?_;try simp only [nc] at *
  obtain ⟨k,hz,hk,hQ,hQl,hQm⟩:=hinv
  have hlt:qi z zb=decide (k+1<D.length):=by rw [e7,hz,hzb];exact d3l.2 (by omega)
  by_cases h9:k+1<D.length
  ·rw [d3a h9] at hlt
   obtain ⟨x,hx⟩:∃x,D[k+1]?=some x:=⟨_,d2P h9⟩
   obtain ⟨hxi,hxe⟩:=d2Q.1 hx
   obtain ⟨D1,hD1⟩:∃D1,D1=D.take (k+1):=⟨_,rfl⟩
   obtain ⟨D2,hD2⟩:∃D2,D2=D.drop (k+1+1):=⟨_,rfl⟩
   have hdrop:D.drop (k+1)=x::D2:=by rw [hD2,d3r hxi,hxe]
   have htake:D.take (k+1+1)=D1++[x]:=by rw [hD1];exact a9P hx
   rw [←hD1,hdrop] at hQ
   obtain ⟨E,hE⟩:∃E,E=n7 F6 D1:=⟨_,rfl⟩
   rw [←hE] at hQ
   have hEl:E.length=k+1:=by rw [hE,a3i,hD1,d3v];omega
   have hEs:Srt F6 E:=by rw [hE];exact a14 Y8 D1
   have hxm:x∈L:=hQm x (by rw [hQ];simp)
   obtain ⟨nx,x1,x2,x3,x4,hxx⟩:=h5 x hxm
   rw [hlt]
   cbv;refine gn ?_;try simp only [nc] at *
   refine j9 hA (γ:=Int×List Rw) (fun x=>[(9,vi .i64 x.1)]) (fun x=>[(0,.row false 164 x.2)])
    (fun y=>∃L1 L2:List Rw,y.1=((P.length+L1.length:Nat):Int)∧E=L1++L2∧(∀r∈L2,F6 x r=true)∧y.2=P++(L1++(x::(L2++(D2++S))))∧y.2.length=L.length∧∀r∈y.2,r∈L) (fun y=>y.1.toNat) (z,Q) ?_ ?_ ?_
   ·exact ⟨E,[],by rw [hEl];show z=_;rw [hz];congr 1;omega,by simp,by simp,by rw [hQ];simp,hQl,hQm⟩
   ·cbv
   ·intro y hinv
    obtain ⟨zj,N⟩:=y
    cbv;refine gn ?_;try simp only [nc] at *
    obtain ⟨L1,L2,hj,hEE,hL2,hNN,hNl,hNm⟩:=hinv
    have hLAST:=fun (h1:∀y∈L1,F6 x y=false)=>a5m Y8 (x:=x) (u1:=L1) (u2:=L2) (by rw [←hEE];exact hEs) h1 hL2
    have hNl2:N.length=P.length+L1.length+1+L2.length+D2.length+S.length:=by rw [hNN];simp only [d2R,d2X];omega
    have hz1:qa .i64 (qb z 1)=((P.length+1+(k+1):Nat):Int):=by rw [e1,e2,hz,IntWalk.i64_in _ (by omega)];omega
    have hmz:L.length+1 - (qa .i64 (qb z 1)).toNat<L.length+1 - z.toNat:=by rw [hz1,hz];omega
    have hdone:(∀y∈L1,F6 x y=false)→N=P++(n7 F6 (D.take (k+1+1))++(D.drop (k+1+1)++S)):=fun h=>by
     obtain ⟨h1,h2⟩:=hLAST h
     have h3:L1++x::L2=n7 F6 (D1++[x]):=b5P D1 x h1 (by rw [←hE,hEE];exact h2)
     rw [htake,←hD2,←h3,hNN]
     simp
    rcases (show L1=[]∨∃L y,L1=L++[y] by simpa [List.concat_eq_append] using List.eq_nil_or_concat L1) with hnil|⟨L0,y,hsn⟩
    ·have hlt2:qi za zj=false:=by rw [e7,hza,hj,hnil];simp
     rw [hlt2]
     cbv;refine gn ?_;try simp only [nc] at *
     refine ⟨(qa .i64 (qb z 1),N),⟨k+1,hz1,.inr h9,hdone (by rw [hnil];simp),hNl,hNm⟩,hmz,?_⟩
     cbv
    ·have hl1:L1.length=L0.length+1:=by rw [hsn];simp
     have hlt2:qi za zj=true:=by rw [e7,hza,hj];exact d3a (by omega)
     have hym:y∈L:=hNm y (by rw [hNN,hsn];simp)
     obtain ⟨ny,y1,y2,y3,y4,hyy⟩:=h5 y hym
     have wj:qa .i64 (qc zj 1)=((P.length+L0.length:Nat):Int):=by rw [e1,e3,hj,IntWalk.i64_in _ (by omega)];omega
     have hNP:N=(P++L0)++y::x::(L2++(D2++S)):=by rw [hNN,hsn];simp
     have hpl:(P++L0).length=P.length+L0.length:=d2R
     have gx:vc N zj=some [.sc (.string nx),x1,x2,x3,x4]:=by
      rw [r2,d2S (by omega),hj,d3q,hNP,d3h (by omega),hpl,show P.length+L1.length - (P.length+L0.length)=1 by omega,←hxx]
      rfl
     have gy:vc N (qa .i64 (qc zj 1))=some [.sc (.string ny),y1,y2,y3,y4]:=by
      rw [wj,r2,d2S (by omega),d3q,hNP,d3h (by omega),hpl,d4k,←hyy]
      rfl
     have gy2:∀v,vc (vf N zj v) (qa .i64 (qc zj 1))=some [.sc (.string ny),y1,y2,y3,y4]:=fun v=>by
      rw [←gy,r2,r2,m4,wj,hj,d3q,d3q,d3p (by omega)]
     have hcmp:=hc nx ny x1 x2 x3 x4 y1 y2 y3 y4
     have hneg:qi (a4Y nx.toList ny.toList) 0=F6 x y:=by rw [e7,a66,hxx,hyy];rfl
     generalize a4Y nx.toList ny.toList=cv at *
     rw [hlt2]
     cbv;refine gn ?_;try simp only [nc] at *
     repeat (first|(rw [gx];cbv)|(rw [gy];cbv)|(with_reducible apply f8 hA;cbv))
     refine i7 hA _ hcmp ?_
     cbv
     cases hb:F6 x y
     ·rw [hb] at hneg
      rw [hneg]
      cbv;refine gn ?_;try simp only [nc] at *
      refine ⟨(qa .i64 (qb z 1),N),⟨k+1,hz1,.inr h9,hdone ?_,hNl,hNm⟩,hmz,?_⟩
      ·rw [hsn]
       exact c6W (by rw [←hsn];exact (H8.1 (by rw [←hEE];exact hEs)).1) hb
      ·cbv
     ·rw [hb] at hneg
      rw [hneg]
      cbv;refine gn ?_;try simp only [nc] at *
      repeat (first|(rw [gx];cbv)|(rw [gy];cbv)|(rw [gy2];cbv)|(with_reducible apply f8 hA;cbv))
      try simp only [nc] at *
      refine ⟨(qa .i64 (qc zj 1),vf (vf N zj [.sc (.string ny),y1,y2,y3,y4]) (qa .i64 (qc zj 1)) [.sc (.string nx),x1,x2,x3,x4]),⟨L0,y::L2,wj,by rw [hEE,hsn];simp,?_,?_,?_,?_⟩,?_,?_⟩
      ·intro r hr
       rcases d3d.1 hr with rfl|hr
       ·exact hb
       ·exact hL2 r hr
      ·show vf (vf N zj _) _ _=_
       rw [m4,m4,wj,hj,d3q,d3q,hNP,←hxx,←hyy,show P.length+L1.length=P.length+L0.length+1 by omega,b4w _ _ _ _ hpl]
       simp
      ·show (vf (vf N zj _) _ _).length=_
       rw [m4,m4,d3s,d3s]
       exact hNl
      ·intro r hr
       have hr:r∈vf (vf N zj [.sc (.string ny),y1,y2,y3,y4]) (qa .i64 (qc zj 1)) [.sc (.string nx),x1,x2,x3,x4]:=hr
       rw [m4,m4,←hxx,←hyy] at hr
       rcases d3O hr with hr|rfl
       ·rcases d3O hr with hr|rfl
        ·exact hNm r hr
        ·exact hym
       ·exact hxm
      ·show (qa .i64 (qc zj 1)).toNat<zj.toNat
       rw [wj,hj]
       omega
      ·cbv
  ·rw [d2U h9] at hlt
   rw [hlt]
   cbv;refine gn ?_;try simp only [nc] at *
   have e:Q=M:=by rw [hQ,hM,d31 (by omega),d3A (by omega)];rfl
   rw [e]
   exact hK [] [.row false 164 M] ⟨rfl,rfl⟩
end Go.Proofs.YtahpnackkmbmgaaGreat.Vm
end

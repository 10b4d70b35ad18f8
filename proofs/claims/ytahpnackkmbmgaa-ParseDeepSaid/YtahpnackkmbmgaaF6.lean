/- Part 6 of the proof. Conditions: none. -/
import Derived.Test.YtahpnackkmbmgaaF1
import Derived.Test.YtahpnackkmbmgaaF4
import Derived.Test.YtahpnackkmbmgaaF5
import Derived.IntWalk
import Derived.Test.YtahpnackkmbmgaaF0
set_option linter.all false
set_option linter.unusedVariables false
set_option linter.unusedSimpArgs false
section
namespace Go.Proofs.Ytahpnackkmbmgaa
open Go.RowKit
set_option maxRecDepth 100000
set_option maxHeartbeats 4000000
theorem c1O {l:List Int} {a:Nat} {out:List Tok} (hb:Byt l) (h:a<l.length) (hc:gb l a=10):m9 l a true out=m9 l a false out:=by
 have hn:=Y6 hb h (by omega)
 rw [a8p h (by omega),a4y h (by omega) ((a3C _).2 (by omega)),hn,hc]
 rfl
theorem a9l {l:List Int} {a:Nat} {out:List Tok} (hb:Byt l) (h:a<l.length) (hc:gb l a=35):m9 l a false out=m9 l a true out:=by
 have hn:=Y6 hb h (by omega)
 rw [a8p h (by omega),b63 h (by omega) hc,hn,hc]
 rfl
theorem c1P {l:List Int} {a:Nat} (h:a<l.length):a+B8 (l.drop a)≤l.length:=by
 have:=c1J (l.drop a) (by rw [c9z];omega)
 rw [c9z] at this
 omega
theorem b0U (l:List Int):(strOfNums l).size=l.length:=by
 simp [strOfNums,ByteArray.size]
theorem b0V (p:Int→Bool):∀(n:Nat) (m:List Int),n≤m.length→(∀i,i<n→p (gb m i)=true)→(n=m.length∨p (gb m n)=false)→m.takeWhile p=m.take n:=by
 intro n
 induction n with
 | zero =>
  intro m _ _ h
  cases m with
  | nil=>rfl
  | cons x xs =>
   rcases h with h|h
   ·simp at h
   ·have:p x=false:=by simpa [gb] using h
    simp [this]
 | succ n ih =>
  intro m hn hp h
  cases m with
  | nil=>simp at hn
  | cons x xs =>
   have:p x=true:=by simpa [gb] using hp 0 (by omega)
   rw [List.takeWhile_cons,this,List.take_succ_cons]
   simp only [d0V]
   rw [ih xs (by simpa using hn) (fun i hi=>by simpa [gb] using hp (i+1) (by omega)) (h.imp (fun h=>by simpa using h) (fun h=>by simpa [gb] using h))]
theorem b9k {l:List Int} {a k:Nat} (hak:a≤k) (hk:k≤l.length) (h:∀i,a≤i→i<k→F3 (gb l i)=true) (he:k=l.length∨F3 (gb l k)=false):L5 l a=(l.drop a).take (k - a)∧(L5 l a).length=k - a:=by
 have e:L5 l a=(l.drop a).take (k - a):=by
  unfold L5
  refine b0V F3 (k - a) (l.drop a) (by rw [c9z];omega) (fun i hi=>?_) ?_
  ·rw [a30];exact h _ (by omega) (by omega)
  ·rw [a30,c9z]
   rcases he with he|he
   ·exact .inl (by omega)
   ·right;rw [←he];congr 2;omega
 refine ⟨e,?_⟩
 rw [e,c92,c9z];omega
theorem a8r {c:Int} (h:F3 c=true):M8 c=false∧c≠35∧c<128:=by
 unfold F3 a3k b8X F5 at h
 simp at h
 rw [b2z]
 omega
theorem c4H {l:List Int} {a k:Nat} {S:ByteArray} {rc:Int} {t:Tok} (hb:Byt l) (ha:a<l.length) (hr:F3 (gb l a)=true) (hS:S=strOfNums (L5 l a)) (hlen:(L5 l a).length=k - a) (hak:a<k) (hrc:rc=(a0K S a).2)
  (h0:rc=0) (ht:t=(a0K S a).1) (out:List Tok):m9 l a false out=m9 l k false (out++[t]):=by
 obtain ⟨h1,h2,h3⟩:=a8r hr
 rw [a8q ha (by rw [Y6 hb ha h3];omega) h1 h2 hr,←hS,←hrc,c8Y h0,←ht,hlen,show a+(k - a)=k by omega]
theorem c1Q {l:List Int} {a:Nat} {S:ByteArray} {rc:Int} (hb:Byt l) (ha:a<l.length) (hr:F3 (gb l a)=true) (hS:S=strOfNums (L5 l a)) (hrc:rc=(a0K S a).2)
  (h0:rc≠0) (out:List Tok):m9 l a false out=([],(a:Int),rc):=by
 obtain ⟨h1,h2,h3⟩:=a8r hr
 rw [a8q ha (by rw [Y6 hb ha h3];omega) h1 h2 hr,←hS,←hrc,c8W h0]
end Go.Proofs.Ytahpnackkmbmgaa
end
section
namespace Go.Proofs.Ytahpnackkmbmgaa.Vm
open Go.RowKit
set_option maxRecDepth 100000
set_option maxHeartbeats 4000000
def scB (R:List (List D)) (z:Int):List O:=[.box [.d (.sl 1 R),vi .i64 z]]
def c4I (l:List Int) (a:Nat) (res:List V) (os:List O):Prop :=
 ∃(k:Nat) (ok:Bool),res=[vb ok]∧os=scB (M6 l) (k:Int)∧a≤k∧k≤l.length∧(ok=true→(k=l.length∨gb l k=10)∧∀out,m9 l a true out=m9 l k false out)∧(ok=false→∀out,m9 l a true out=([],(k:Int),3))
theorem b9l {l:List Int} (hb:Byt l) {a:Nat} (ha:a≤l.length) (hl:l.length≤65536):n7 83 [.ptr 0 0] (scB (M6 l) (a:Int)) (c4I l a):=by
 have hget:=fun k (h:k<l.length)=>a2z (l:=l) (k:=k) h
 have hn0:((M6 l).length:Int)=(l.length:Int):=by rw [Y5]
 have hN:=fun k (h:k<l.length)=>c6y hb (a:=k) h (by omega)
 obtain ⟨Q,hQ⟩:∃Q,Q=c4I l a:=⟨_,rfl⟩
 rw [←hQ]
 have hend:∀k ok,a≤k→k≤l.length→(ok=true→(k=l.length∨gb l k=10)∧∀out,m9 l a true out=m9 l k false out)→(ok=false→∀out,m9 l a true out=([],(k:Int),3))→Q [vb ok] (scB (M6 l) (k:Int)):=fun k ok h1 h2 h3 h4=>by
  rw [hQ];exact ⟨k,ok,rfl,rfl,h1,h2,h3,h4⟩
 unfold scB at *
 generalize M6 l=R at *
 obtain ⟨N,hNN⟩:∃N,N=(l.length:Int):=⟨_,rfl⟩
 rw [←hNN] at hn0
 obtain ⟨A,hAA⟩:∃A,A=(a:Int):=⟨_,rfl⟩
 rw [←hAA]
 obtain ⟨inv,hi⟩:∃inv:Int→Prop,inv=fun z=>∃k:Nat,z=(k:Int)∧a≤k∧k≤l.length∧∀out,m9 l a true out=m9 l k true out:=⟨_,rfl⟩
 have hi0:inv A:=by rw [hi];exact ⟨a,hAA,c9c _,ha,fun _=>rfl⟩
 refine N9 Try.func83 rfl ?_;intro qa qb _ _ _ _ _ qi _ qk;intros;rename_i hA
 have q0:=en hA hn0
 try cbv;refine gr ?_;try simp only [nc] at *
 refine o7 hA (γ:=Int) (fun z=>[(29,.jk),(38,.jk)]) (fun z=>[(0,.box [.d (.sl 1 R),vi .i64 z])]) inv (fun z=>l.length - z.toNat) A hi0 ?_ ?_
 ·cbv
 ·intro z hinv
  cbv;refine gn ?_;try simp only [nc] at *
  rw [hi] at hinv
  obtain ⟨k,hz,hak,hk,hE⟩:=hinv
  replace hz:z=(k:Int):=hz
  by_cases h9:k<l.length
  ·have p0:qi z N=true:=el hA (c9j (by omega))
   have g0:=eg hA (hget k h9)
   have c0:=hN k h9
   rw [←hz] at g0 c0
   have hfin:=hend k
   rw [←hz] at hfin
   have hs1:=fun out h=>c1O (out:=out) hb h9 h
   have hs2:=fun out h=>b2x (rem:=true) (out:=out) h9 h
   have hs3:=fun out h=>a8p (out:=out) h9 h
   have hbd:=fun h=>c6u (l:=l) (a:=k) h
   by_cases h10:gb l k=10
   ·have p1:qk 10 10=true:=eb hA rfl
    rw [h10] at g0
    have hF:=hfin true hak hk (fun _=>⟨.inr h10,fun out=>(hE out).trans (hs1 out h10)⟩) (fun h=>by cases h)
    try cbv;refine gr ?_;try simp only [nc] at *
    exact j9 hA [0] ⟨rfl,rfl,rfl,rfl,rfl,rfl,rfl,rfl⟩ hF
   ·have p1:qk (gb l k) 10=false:=eb hA (c9f h10)
    by_cases h0:nx l k=0
    ·have hF:=hfin false hak hk (fun h=>by cases h) (fun _ out=>(hE out).trans (by rw [hs2 out h0,hz]))
     rw [c8Y h0,c8Y h0] at c0
     generalize gb l k=c at *
     generalize ((nx l k:Nat):Int)=n at *
     have p2:qk 3 0=false:=eb hA rfl
     try cbv;refine gr ?_;try simp only [nc] at *
     exact j9 hA [0] ⟨rfl,rfl,rfl,rfl,rfl,rfl,rfl,rfl⟩ hF
    ·rw [c8W h0,c8W h0] at c0
     have hb2:=hbd h0
     have hb3:=hb2.2.2 h9
     have hE2:∀out,m9 l a true out=m9 l (k+nx l k) true out:=fun out=>(hE out).trans (by rw [hs3 out h0,show (gb l k != 10)=true from bne_iff_ne.2 h10])
     generalize gb l k=c at *
     generalize rn l k=r at *
     have hi2:inv ((k+nx l k:Nat):Int):=by rw [hi];exact ⟨_,rfl,by omega,hb3,hE2⟩
     have p3:qa .i64 (qb z ((nx l k:Nat):Int))=((k+nx l k:Nat):Int):=ew hA (by rw [IntWalk.i64_in _ (by omega)];omega)
     have hm:l.length - ((k+nx l k:Nat):Int).toNat<l.length - z.toNat:=by omega
     generalize ((k+nx l k:Nat):Int)=z1 at *
     generalize ((nx l k:Nat):Int)=n at *
     have p2:qk 0 0=true:=eb hA rfl
     try cbv;refine gr ?_;try simp only [nc] at *
     refine ⟨z1,hi2,hm,?_⟩
     cbv
  ·have p0:qi z N=false:=el hA (c9d (by omega))
   have hF:=hend k true hak hk (fun _=>⟨.inl (by omega),fun out=>(hE out).trans (by rw [a5k (by omega),a5k (by omega)])⟩) (fun h=>by cases h)
   rw [←hz] at hF
   try cbv;refine gr ?_;try simp only [nc] at *
   exact j9 hA [0] ⟨rfl,rfl,rfl,rfl,rfl,rfl,rfl,rfl⟩ hF
def c4J (l:List Int) (a:Nat) (res:List V) (os:List O):Prop :=
 ∃(k:Nat) (ok:Bool),res=[vb ok]∧os=scB (M6 l) (k:Int)∧a≤k∧k≤l.length∧(ok=true→(k<l.length→M8 (gb l k)=false∧gb l k≠35)∧∀out,m9 l a false out=m9 l k false out)∧(ok=false→∀out,m9 l a false out=([],(k:Int),3))
theorem b9m {l:List Int} (hb:Byt l) {a:Nat} (ha:a≤l.length) (hl:l.length≤65536):n7 56 [.ptr 0 0] (scB (M6 l) (a:Int)) (c4J l a):=by
 have hget:=fun k (h:k<l.length)=>a2z (l:=l) (k:=k) h
 have hn0:((M6 l).length:Int)=(l.length:Int):=by rw [Y5]
 have hR:=fun k (h:k≤l.length)=>b9l hb (a:=k) h hl
 unfold c4I at hR
 obtain ⟨Q,hQ⟩:∃Q,Q=c4J l a:=⟨_,rfl⟩
 rw [←hQ]
 have hend:∀k ok,a≤k→k≤l.length→(ok=true→(k<l.length→M8 (gb l k)=false∧gb l k≠35)∧∀out,m9 l a false out=m9 l k false out)→(ok=false→∀out,m9 l a false out=([],(k:Int),3))→Q [vb ok] (scB (M6 l) (k:Int)):=fun k ok h1 h2 h3 h4=>by
  rw [hQ];exact ⟨k,ok,rfl,rfl,h1,h2,h3,h4⟩
 unfold scB at *
 generalize M6 l=R at *
 obtain ⟨N,hNN⟩:∃N,N=(l.length:Int):=⟨_,rfl⟩
 rw [←hNN] at hn0
 obtain ⟨A,hAA⟩:∃A,A=(a:Int):=⟨_,rfl⟩
 rw [←hAA]
 obtain ⟨inv,hi⟩:∃inv:Int→Prop,inv=fun z=>∃k:Nat,z=(k:Int)∧a≤k∧k≤l.length∧∀out,m9 l a false out=m9 l k false out:=⟨_,rfl⟩
 have hi0:inv A:=by rw [hi];exact ⟨a,hAA,c9c _,ha,fun _=>rfl⟩
 refine N9 Try.func56 rfl ?_;intro qa qb _ _ _ _ _ qi _ qk;intros;rename_i hA
 have q0:=en hA hn0
 try cbv;refine gr ?_;try simp only [nc] at *
 refine o7 hA (γ:=Int) (fun z=>[]) (fun z=>[(0,.box [.d (.sl 1 R),vi .i64 z])]) inv (fun z=>l.length - z.toNat) A hi0 ?_ ?_
 ·cbv
 ·intro z hinv
  cbv;refine gn ?_;try simp only [nc] at *
  rw [hi] at hinv
  obtain ⟨k,hz,hak,hk,hE⟩:=hinv
  replace hz:z=(k:Int):=hz
  by_cases h9:k<l.length
  ·have p0:qi z N=true:=el hA (c9j (by omega))
   have g0:=eg hA (hget k h9)
   rw [←hz] at g0
   have hc0:=Y3 hb k
   have hs1:=fun out h=>a4y (out:=out) h9 (by rw [Y6 hb h9 (by have:=(a3C _).1 h;omega)];decide) h
   have hs2:=fun out h=>a9l (out:=out) hb h9 h
   by_cases hbl:M8 (gb l k)=true
   ·have hE2:∀out,m9 l a false out=m9 l (k+1) false out:=fun out=>(hE out).trans (hs1 out hbl)
    have hi2:inv ((k+1:Nat):Int):=by rw [hi];exact ⟨_,rfl,by omega,h9,hE2⟩
    have p3:qa .i64 (qb z 1)=((k+1:Nat):Int):=ew hA (by rw [IntWalk.i64_in _ (by omega)];omega)
    have hm:l.length - ((k+1:Nat):Int).toNat<l.length - z.toNat:=by omega
    have hq:=(a3C _).1 hbl
    obtain ⟨e1,e2,e3,e4,e5,e6,e7,e8,e9⟩:=m6 hA
    clear hs1 hs2 hbl
    generalize ((k+1:Nat):Int)=z1 at *
    generalize gb l k=c at *
    rcases hq with rfl|rfl|rfl|rfl
    all_goals
     iterate 2 (try cbv;repeat ((first|with_reducible apply f8 hA|rw [q0]|rw [p0]|rw [g0]|rw [e9]|rw [p3]);cbv))
     try simp (maxSteps:=4000000) only [nc] at *
     refine ⟨z1,hi2,hm,?_⟩
     cbv
   ·have hbl':M8 (gb l k)=false:=by simpa using hbl
    have hq:=(b2z _).1 hbl'
    have f0:qk (gb l k) 32=false:=eb hA (c9f (by omega))
    have f1:qk (gb l k) 9=false:=eb hA (c9f (by omega))
    have f2:qk (gb l k) 13=false:=eb hA (c9f (by omega))
    have f3:qk (gb l k) 10=false:=eb hA (c9f (by omega))
    by_cases h35:gb l k=35
    ·have hr:=hR k hk
     have f4:qk 35 35=true:=eb hA rfl
     rw [←hz] at hr
     have hE2:∀out,m9 l a false out=m9 l k true out:=fun out=>(hE out).trans (hs2 out h35)
     rw [h35] at g0 f0 f1 f2 f3
     iterate 2 (try cbv;repeat ((first|with_reducible apply f8 hA|rw [q0]|rw [p0]|rw [g0]|rw [f0]|rw [f1]|rw [f2]|rw [f3]|rw [f4]);cbv))
     try simp (maxSteps:=4000000) only [nc] at *
     refine o6 hA [0] hr ⟨rfl,rfl,rfl,rfl,rfl,rfl,rfl⟩ ?_
     rintro _ _ ⟨j,ok,rfl,rfl,h1,h2,h3,h4⟩
     have hfin:=hend j
     have hiv:(∀out,m9 l a false out=m9 l j false out)→inv (j:Int):=fun h=>by rw [hi];exact ⟨j,rfl,by omega,h2,h⟩
     have hlt:ok=true→k<j:=fun h=>by
      have:=(h3 h).1
      rcases c9N k j with h'|h'
      ·exact h'
      ·have e:j=k:=by omega
       rw [e] at this
       omega
     have hjj:l.length - ((j:Nat):Int).toNat=l.length - j:=by omega
     have hzz:l.length - z.toNat=l.length - k:=by omega
     generalize ((j:Nat):Int)=y at *
     cases ok
     ·have hF:=hfin false (by omega) h2 (fun h=>by cases h) (fun _ out=>(hE2 out).trans (h4 rfl out))
      try cbv;refine gr ?_;try simp only [nc] at *
      exact j9 hA [0] ⟨rfl,rfl,rfl,rfl,rfl,rfl,rfl,rfl⟩ hF
     ·have hi2:=hiv fun out=>(hE2 out).trans ((h3 rfl).2 out)
      have hm:l.length - y.toNat<l.length - z.toNat:=by have:=hlt rfl;omega
      try cbv;refine gr ?_;try simp only [nc] at *
      refine ⟨y,hi2,hm,?_⟩
      cbv
    ·have f4:qk (gb l k) 35=false:=eb hA (c9f h35)
     have hF:=hend k true hak hk (fun _=>⟨fun _=>⟨hbl',h35⟩,hE⟩) (fun h=>by cases h)
     rw [←hz] at hF
     clear hs1 hs2 hbl hbl' hq h35
     generalize gb l k=c at *
     iterate 2 (try cbv;repeat ((first|with_reducible apply f8 hA|rw [q0]|rw [p0]|rw [g0]|rw [f0]|rw [f1]|rw [f2]|rw [f3]|rw [f4]);cbv))
     try simp (maxSteps:=4000000) only [nc] at *
     exact j9 hA [0] ⟨rfl,rfl,rfl,rfl,rfl,rfl,rfl,rfl⟩ hF
  ·have p0:qi z N=false:=el hA (c9d (by omega))
   have hF:=hend k true hak hk (fun _=>⟨fun h=>absurd h h9,hE⟩) (fun h=>by cases h)
   rw [←hz] at hF
   try cbv;refine gr ?_;try simp only [nc] at *
   exact j9 hA [0] ⟨rfl,rfl,rfl,rfl,rfl,rfl,rfl,rfl⟩ hF
def tkV (t:Tok):List V:=[vi .u8 t.kind,vs t.text,vi .i64 t.n,vi .i64 t.at_]
def c4K (l:List Int) (a:Nat) (res:List V) (os:List O):Prop :=
 ∃(t:Tok) (c:Int) (k:Nat),res=[.ag (tkV t),vi .u8 c]∧os=scB (M6 l) (k:Int)∧k≤l.length∧(c=0→a<k∧∀out,m9 l a false out=m9 l k false (out++[t]))∧(c≠0→∀out,m9 l a false out=([],(k:Int),c))
theorem c4L {T:ByteArray} (h:T.size≠0):(T.toList == [])=false:=by
 refine c9f fun e=>h ?_
 rw [ByteArray.toList_eq] at e
 rw [←ByteArray.size_data,←d0q,e]
 rfl
theorem c1R {l:List Int} (hb:Byt l) {a:Nat} (ha:a<l.length) (hl:l.length≤65536) (hbl:M8 (gb l a)=false) (h35:gb l a≠35):n7 57 [.ptr 0 0] (scB (M6 l) (a:Int)) (c4K l a):=by
 have hget:=fun k (h:k<l.length)=>a2z (l:=l) (k:=k) h
 have n0:((M6 l).length:Int)=(l.length:Int):=by rw [Y5]
 have hlb:∀d:List Int,((M6 d).length:Int)=(d.length:Int):=fun d=>by rw [Y5]
 have g0:=hget a ha
 have c0:=b9j (gb l a)
 obtain ⟨Q,hQ⟩:∃Q,Q=c4K l a:=⟨_,rfl⟩
 rw [←hQ]
 have hend:∀(kd n at_ c:Int) (tx:ByteArray) (k:Nat),k≤l.length→(c=0→a<k∧∀out,m9 l a false out=m9 l k false (out++[⟨kd,tx,n,at_⟩]))→(c≠0→∀out,m9 l a false out=([],(k:Int),c))→Q [.ag [vi .u8 kd,vs tx,vi .i64 n,vi .i64 at_],vi .u8 c] (scB (M6 l) (k:Int)):=fun kd n at_ c tx k h1 h2 h3=>by
  rw [hQ];exact ⟨⟨kd,tx,n,at_⟩,c,k,rfl,rfl,h1,h2,h3⟩
 have y0:f7.sub2 (M6 l) (a:Int) (l.length:Int)=some (M6 (l.drop a)):=by
  rw [a20 (d0I ha) (c9c _),c9J (by rw [c9z];omega)]
 have yk:=fun k (h:a≤k) (h2:k≤l.length)=>a20 (l:=l) (a:=a) (b:=k) h h2
 have c1:=c1N (a8m hb a) (by rw [c9z];omega) (by rw [c9z];omega)
 have c2:=c6y hb (a:=a) ha (by omega)
 unfold scB at *
 obtain ⟨N,hN⟩:∃N,N=(l.length:Int):=⟨_,rfl⟩
 rw [←hN] at n0 y0
 obtain ⟨A,hAA⟩:∃A,A=(a:Int):=⟨_,rfl⟩
 have hendA:=fun kd n at_ c tx=>hend kd n at_ c tx a
 rw [←hAA] at g0 y0 hendA c2 yk ⊢
 cases hr:F3 (gb l a)
 ·rw [hr] at c0
  have hs2:=fun out=>b2y (out:=out) ha
  have hs3:=fun out=>b2x (rem:=false) (out:=out) ha
  have hs4:=fun out=>a9S (out:=out) ha
  by_cases hs:B8 (l.drop a)=0
  ·rw [hs,show strOfNums ((l.drop a).take 0)=⟨⟨[]⟩⟩ from rfl] at c1
   have hF:=fun c (h:c≠0) hE=>hendA 0 0 0 c ⟨⟨[]⟩⟩ (d0I ha) (fun h'=>absurd h' h) (fun _=>hE)
   by_cases h0:nx l a=0
   ·rw [c8Y h0,c8Y h0] at c2
    replace hF:=hF 3 (by decide) fun out=>by rw [hs3 out h0,hAA]
    generalize ((nx l a:Nat):Int)=n1 at *
    generalize M6 (l.drop a)=R2 at *
    generalize M6 l=R at *
    generalize gb l a=c at *
    refine N9 Try.func57 rfl fun qa qb qc qd qe qg qh qi qj qk ql qm qo qp qq qt qu qv qw qx qy qz va vc vd ve vf vg vh vj vk vl vm vn vo vp vq vr vt vu vv vw vx hA=>?_
    obtain ⟨s1,s2,s3,s4,s5,s6,-⟩:=I3 hA
    have q0:=en hA n0
    have q1:=eg hA g0
    have q2:=esb hA y0
    have q3:qm (qp ⟨⟨[]⟩⟩) (qp ⟨⟨[]⟩⟩)=true:=by rw [s1];exact c9T _
    have q4:qk 3 0=false:=eb hA rfl
    try cbv;refine gr ?_;try simp only [nc] at *
    exact j9 hA [0] ⟨rfl,rfl,rfl,rfl,rfl,rfl,rfl,rfl⟩ hF
   ·rw [c8W h0,c8W h0] at c2
    replace hF:=hF 4 (by decide) fun out=>by rw [hs2 out h0 hbl h35 hr hs,hAA]
    generalize ((nx l a:Nat):Int)=n1 at *
    generalize rn l a=r1 at *
    generalize M6 (l.drop a)=R2 at *
    generalize M6 l=R at *
    generalize gb l a=c at *
    refine N9 Try.func57 rfl fun qa qb qc qd qe qg qh qi qj qk ql qm qo qp qq qt qu qv qw qx qy qz va vc vd ve vf vg vh vj vk vl vm vn vo vp vq vr vt vu vv vw vx hA=>?_
    obtain ⟨s1,s2,s3,s4,s5,s6,-⟩:=I3 hA
    have q0:=en hA n0
    have q1:=eg hA g0
    have q2:=esb hA y0
    have q3:qm (qp ⟨⟨[]⟩⟩) (qp ⟨⟨[]⟩⟩)=true:=by rw [s1];exact c9T _
    have q4:qk 0 0=true:=eb hA rfl
    try cbv;refine gr ?_;try simp only [nc] at *
    exact j9 hA [0] ⟨rfl,rfl,rfl,rfl,rfl,rfl,rfl,rfl⟩ hF
  ·have hsl:=c1P ha
   have hsz:(strOfNums ((l.drop a).take (B8 (l.drop a)))).size=B8 (l.drop a):=by
    rw [b0U,c92,c9z];omega
   have hn0:nx l a≠0:=by
    have hd:gb l a<128:=by
     unfold B8 at hs
     split at hs
     ·rename_i h
      have:=h.2
      rw [a30] at this
      simp [b2w] at this
      omega
     ·split at hs
      ·rename_i h
       have:=b64 h
       rw [a30] at this
       simp at this
       omega
      ·exact absurd rfl hs
    rw [Y6 hb ha hd];omega
   have hE:=fun out=>hs4 out hn0 hbl h35 hr hs
   have x0:=c4L (T:=strOfNums ((l.drop a).take (B8 (l.drop a)))) (by rw [hsz];exact hs)
   have hF:=hend 3 0 A 0 (strOfNums ((l.drop a).take (B8 (l.drop a)))) (a+B8 (l.drop a)) hsl (fun _=>⟨by omega,fun out=>by rw [hE out,hAA]⟩) (fun h=>absurd rfl h)
   obtain ⟨n1,hn1⟩:∃n1,n1=((B8 (l.drop a):Nat):Int):=⟨_,rfl⟩
   obtain ⟨z1,hz1⟩:∃z1,z1=((a+B8 (l.drop a):Nat):Int):=⟨_,rfl⟩
   have w0:IntKind.i64.wrap (A+n1)=z1:=by rw [IntWalk.i64_in _ (by omega)];omega
   have hsz2:((strOfNums ((l.drop a).take (B8 (l.drop a)))).size:Int)=n1:=by rw [hsz];exact hn1.symm
   rw [←hz1] at hF
   clear hE hs2 hs3 hs4 hsz
   generalize strOfNums ((l.drop a).take (B8 (l.drop a)))=T at *
   generalize M6 (l.drop a)=R2 at *
   generalize M6 l=R at *
   generalize gb l a=c at *
   refine N9 Try.func57 rfl fun qa qb qc qd qe qg qh qi qj qk ql qm qo qp qq qt qu qv qw qx qy qz va vc vd ve vf vg vh vj vk vl vm vn vo vp vq vr vt vu vv vw vx hA=>?_
   obtain ⟨s1,s2,s3,s4,s5,s6,-⟩:=I3 hA
   have q0:=en hA n0
   have q1:=eg hA g0
   have q2:=esb hA y0
   have q3:qm (qp T) (qp ⟨⟨[]⟩⟩)=false:=by rw [s1,s3,s3,ByteArray.toList_eq ⟨⟨[]⟩⟩];exact x0
   have q4:qu T=n1:=by rw [s5];exact hsz2
   have q5:=ew hA w0
   try cbv;refine gr ?_;try simp only [nc] at *
   exact j9 hA [0] ⟨rfl,rfl,rfl,rfl,rfl,rfl,rfl,rfl⟩ hF
 ·rw [hr] at c0
  have hrs:=fun k=>b9j (gb l k)
  have hru:=fun k=>b9k (l:=l) (a:=a) (k:=k)
  have htx:=fun k (h:a≤k) (h2:k≤l.length)=>b3K ((l.drop a).take (k - a))
  have hlen:∀k,k≤l.length→((l.drop a).take (k - a)).length=k - a:=fun k h=>by rw [c92,c9z];omega
  have hrun:=fun k (h:a<k) (h2:k≤l.length)=>c6z (strOfNums ((l.drop a).take (k - a))) A (by rw [b0U,hlen k h2];omega) (by rw [b0U,hlen k h2];omega)
  have hok:=fun k (h:a<k) S (hS:S=strOfNums (L5 l a)) hl=>c4H (rc:=(a0K S (a:Int)).2) (t:=(a0K S (a:Int)).1) hb ha hr hS (k:=k) hl h rfl
  have hbad:=fun S (hS:S=strOfNums (L5 l a))=>c1Q (rc:=(a0K S (a:Int)).2) hb ha hr hS rfl
  unfold b9f at hrun
  clear yk hlb c1 c2 y0
  have yk:=fun k (h:a≤k) (h2:k≤l.length)=>a20 (l:=l) (a:=a) (b:=k) h h2
  rw [←hAA] at yk hok hbad
  generalize M6 l=R at *
  obtain ⟨inv,hi⟩:∃inv:Int→Prop,inv=fun z=>∃k:Nat,z=(k:Int)∧a≤k∧k≤l.length∧∀i,a≤i→i<k→F3 (gb l i)=true:=⟨_,rfl⟩
  have hi0:inv A:=by rw [hi];exact ⟨a,hAA,c9c _,d0I ha,fun i h1 h2=>by omega⟩
  obtain ⟨ca,hca⟩:∃ca,ca=gb l a:=⟨_,rfl⟩
  rw [←hca] at g0 c0
  refine N9 Try.func57 rfl fun qa qb qc qd qe qg qh qi qj qk ql qm qo qp qq qt qu qv qw qx qy qz va vc vd ve vf vg vh vj vk vl vm vn vo vp vq vr vt vu vv vw vx hA=>?_
  obtain ⟨s1,s2,s3,s4,s5,s6,-⟩:=I3 hA
  obtain ⟨f1,-⟩:=b0N hA
  have q0:=en hA n0
  have q1:=eg hA g0
  try cbv;refine gr ?_;try simp only [nc] at *
  refine o7 hA (γ:=Int) (fun z=>[(44,.jk)]) (fun z=>[(0,.box [.d (.sl 1 R),vi .i64 z])]) inv (fun z=>l.length - z.toNat) A hi0 ?_ ?_
  ·cbv
  ·intro z hinv
   cbv;refine gn ?_;try simp only [nc] at *
   rw [hi] at hinv
   obtain ⟨k,hz,hak,hk,hE⟩:=hinv
   replace hz:z=(k:Int):=hz
   have key:(k<l.length∧F3 (gb l k)=true)∨(k=l.length∧qi z N=false)∨(k<l.length∧qi z N=true∧F3 (gb l k)=false):=by
    by_cases h9:k<l.length
    ·have p0:qi z N=true:=el hA (c9j (by omega))
     cases h:F3 (gb l k)
     ·exact .inr (.inr ⟨h9,p0,rfl⟩)
     ·exact .inl ⟨h9,rfl⟩
    ·exact .inr (.inl ⟨by omega,el hA (c9d (by omega))⟩)
   rcases key with ⟨h9,h⟩|⟨h9,p0⟩|⟨h9,p0,h⟩
   ·have p0:qi z N=true:=el hA (c9j (by omega))
    have g1:=eg hA (hget k h9)
    rw [←hz] at g1
    have c1:=hrs k
    rw [h] at c1
    have hi2:inv ((k+1:Nat):Int):=by
     rw [hi]
     refine ⟨_,rfl,by omega,h9,fun i h1 h2=>?_⟩
     by_cases e:i=k
     ·rw [e];exact h
     ·exact hE i h1 (by omega)
    have p3:qa .i64 (qb z 1)=((k+1:Nat):Int):=ew hA (by rw [IntWalk.i64_in _ (by omega)];omega)
    have hm:l.length - ((k+1:Nat):Int).toNat<l.length - z.toNat:=by omega
    generalize ((k+1:Nat):Int)=z1 at *
    generalize gb l k=c at *
    try cbv;refine gr ?_;try simp only [nc] at *
    refine ⟨z1,hi2,hm,?_⟩
    cbv
   case' inr.inl =>
    obtain ⟨hE1,hE2⟩:=hru k hak hk hE (.inl h9)
    have hlt:a<k:=by omega
    iterate 2 (try cbv;repeat ((first|with_reducible apply f8 hA|rw [q0]|rw [p0]);cbv))
   case' inr.inr =>
    obtain ⟨hE1,hE2⟩:=hru k hak hk hE (.inr h)
    have hlt:a<k:=by
     by_cases e:k=a
     ·rw [e,hr] at h;cases h
     ·omega
    have g1:=eg hA (hget k h9)
    rw [←hz] at g1
    have c1:=hrs k
    rw [h] at c1
    generalize gb l k=c at *
    iterate 2 (try cbv;repeat ((first|with_reducible apply f8 hA|rw [q0]|rw [p0]|rw [g1]|refine i9 hA _ c1 rfl ?_|refine j5 hA _ c1 ?_);cbv))
   all_goals
    have y1:=yk k hak hk
    have x1:=htx k hak hk
    have d0:=hrun k hlt hk
    have e0:=hok k hlt _ rfl hE2
    have e1:=hbad _ rfl
    rw [←hE1] at y1 x1 d0
    rw [←hz] at y1
    have hF:=fun kd n at_ c tx=>hend kd n at_ c tx k hk
    rw [←hz] at hF
    generalize strOfNums (L5 l a)=S at *
    generalize M6 (L5 l a)=R1 at *
    have q2:=esb hA y1
    have q3:qx R1=some S:=(f1 _).trans x1
    generalize a0K S A=rs at *
    obtain ⟨⟨kd,tx,n,at_⟩,rc⟩:=rs
    refine c47 hA (n:=19) rfl [0,1,2,4,5,6,7,10,11] (by kernel_rfl) _ (by
     intro K hk
     iterate 2 (all_goals try cbv;repeat' (first|(with_reducible apply f8 hA;exact hk)|((first|with_reducible apply f8 hA|rw [q2]|rw [q3]|refine i9 hA _ d0 rfl ?_|refine j5 hA _ d0 ?_);cbv)|with_reducible apply And.intro))) ?_
    cbv
    by_cases h0:rc=0
    ·have q5:qk rc 0=true:=eb hA (by rw [h0];rfl)
     have hG:=hF kd n at_ rc tx (fun _=>⟨hlt,e0 h0 trivial⟩) (fun h=>absurd h0 h)
     try cbv;refine gr ?_;try simp only [nc] at *
     exact j9 hA [0] ⟨rfl,rfl,rfl,rfl,rfl,rfl,rfl,rfl⟩ hG
    ·have q5:qk rc 0=false:=eb hA (c9f h0)
     have hG:=hendA kd n at_ rc tx (d0I ha) (fun h=>absurd h h0) (fun _=>e1 h0)
     try cbv;refine gr ?_;try simp only [nc] at *
     exact j9 hA [0] ⟨rfl,rfl,rfl,rfl,rfl,rfl,rfl,rfl⟩ hG
def rTo (ts:List Tok):List (List D):=ts.map b9f
theorem b5n (ts:List Tok):(rTo ts).length=ts.length:=by unfold rTo;rw [c9r]
theorem b5o (ts:List Tok) (t:Tok):rTo (ts++[t])=rTo ts++[b9f t]:=by unfold rTo;rw [c9Y];rfl
theorem c4M {l:List Int} (hb:Byt l) (hl:l.length≤65536):A0 35 [.one (.sl 1 (M6 l))] [.one (.sl 4 (rTo (m9 l 0 false []).1)),.one (.sc (.int .i64 (m9 l 0 false []).2.1)),.one (.sc (.int .u8 (m9 l 0 false []).2.2))]:=by
 have n0:((M6 l).length:Int)=(l.length:Int):=by rw [Y5]
 have hB:=fun k (h:k≤l.length)=>b9m hb (a:=k) h hl
 have hT:=fun k (h:k<l.length)=>c1R hb (a:=k) h hl
 unfold c4J scB at hB
 unfold c4K scB tkV at hT
 generalize M6 l=R at *
 obtain ⟨N,hN⟩:∃N,N=(l.length:Int):=⟨_,rfl⟩
 rw [←hN] at n0
 obtain ⟨X,P,C,hX⟩:∃X P C,∀r,m9 l 0 false []=r→X=rTo r.1∧P=r.2.1∧C=r.2.2:=⟨_,_,_,fun r h=>by rw [←h];exact ⟨rfl,rfl,rfl⟩⟩
 obtain ⟨h1,h2,h3⟩:=hX _ rfl
 rw [←h1,←h2,←h3]
 clear h1 h2 h3
 obtain ⟨inv,hi⟩:∃inv:Int×List (List D)→Prop,inv=fun x=>∃(k:Nat) (ts:List Tok),x.1=(k:Int)∧x.2=rTo ts∧k≤l.length∧ts.length≤k∧m9 l 0 false []=m9 l k false ts:=⟨_,rfl⟩
 have hi0:inv (0,[]):=by rw [hi];exact ⟨0,[],rfl,rfl,c95 _,c9c _,rfl⟩
 obtain ⟨mu,hmu⟩:∃mu:Int×List (List D)→Nat,mu=fun x=>l.length - x.1.toNat:=⟨_,rfl⟩
 refine sp9 Try.func35 rfl ?_;intro _ _ _ _ _ _ _ qi _ qk _ _ _ _ _ _ _ _ _ _ _ _ _ _ _ ve;intros;rename_i hA
 obtain ⟨r1,r2,r3,r4⟩:=C7 hA
 have q0:=en hA n0
 have q1:qi 65536 N=false:=el hA (c9d (by omega))
 iterate 2 (try cbv;repeat ((first|refine b3E hA 2 4 [] rfl rfl ?_|refine a3j hA 6 88 true rfl ?_|with_reducible apply f8 hA|rw [q0]|rw [q1]|refine a2x hA true ?_);cbv))
 try simp (maxSteps:=4000000) only [nc] at *
 refine o7 hA (γ:=Int×List (List D)) (fun x=>[(6,.own 1),(7,.jk),(14,.jk),(29,.jk),(30,.jk)]) (fun x=>[(0,.box [.d (.sl 1 R),vi .i64 x.1]),(1,.row true 88 x.2)]) inv mu (0,[]) hi0 ?_ ?_
 ·cbv
 ·intro x hinv
  obtain ⟨z,L⟩:=x
  cbv;refine gn ?_;try simp only [nc] at *
  rw [hi] at hinv
  obtain ⟨k,ts,hz,hL,hk,htl,hE⟩:=hinv
  replace hz:z=(k:Int):=hz
  replace hL:L=rTo ts:=hL
  have b0:=hB k hk
  rw [←hz] at b0
  refine o6 hA [0] b0 ⟨rfl,rfl,rfl,rfl,rfl,rfl,rfl⟩ ?_
  rintro _ _ ⟨j,ok,rfl,rfl,h1,h2,h3,h4⟩
  have hv:=fun p (h:∀out,m9 l k false out=([],p,3))=>hX _ (hE.trans (h ts))
  cases ok
  ·obtain ⟨rfl,rfl,rfl⟩:=hv _ (h4 rfl)
   iterate 2 (try cbv;repeat ((first|refine b3E hA 2 4 [] rfl rfl ?_|with_reducible apply f8 hA);cbv))
  ·obtain ⟨h5,h6⟩:=h3 rfl
   have hE2:=hE.trans (h6 ts)
   clear hv h3 h4 h6 hE
   by_cases h9:j<l.length
   ·have p0:qk ((j:Nat):Int) N=false:=eb hA (c9f (by omega))
    have t0:=hT j h9 (h5 h9).1 (h5 h9).2
    have hjz:z≤(j:Int):=by omega
    have hmz:mu (z,L)=l.length - z.toNat:=by rw [hmu]
    have hmj:l.length - z.toNat=l.length - k:=by omega
    clear h5
    obtain ⟨y,hy⟩:∃y,y=((j:Nat):Int):=⟨_,rfl⟩
    rw [←hy] at p0 t0 ⊢
    try cbv;refine gr ?_;try simp only [nc] at *
    refine o6 hA [0] t0 ⟨rfl,rfl,rfl,rfl,rfl,rfl,rfl⟩ ?_
    rintro _ _ ⟨⟨kd,tx,n,at_⟩,c,i,rfl,rfl,g1,g2,g3⟩
    by_cases hc:c=0
    ·obtain ⟨g4,g5⟩:=g2 hc
     have p1:qk c 0=true:=eb hA (by rw [hc];rfl)
     have hi2:inv (((i:Nat):Int),L++[[.sc (.int .u8 kd),.sc (.string tx),.sc (.int .i64 n),.sc (.int .i64 at_)]]):=by
      rw [hi]
      exact ⟨i,ts++[⟨kd,tx,n,at_⟩],rfl,by rw [b5o,hL];rfl,g1,by rw [c8U];simp;omega,hE2.trans (g5 ts)⟩
     have hm:mu (((i:Nat):Int),L++[[.sc (.int .u8 kd),.sc (.string tx),.sc (.int .i64 n),.sc (.int .i64 at_)]])<mu (z,L):=by
      rw [hmz,hmj,hmu]
      show l.length - ((i:Nat):Int).toNat<_
      omega
     have p2:ve L [[.sc (.int .u8 kd),.sc (.string tx),.sc (.int .i64 n),.sc (.int .i64 at_)]]=L++[[.sc (.int .u8 kd),.sc (.string tx),.sc (.int .i64 n),.sc (.int .i64 at_)]]:=by rw [r4]
     have hLl:L.length≤65536:=by rw [hL,b5n];omega
     generalize L++[[.sc (.int .u8 kd),.sc (.string tx),.sc (.int .i64 n),.sc (.int .i64 at_)]]=L2 at *
     generalize ((i:Nat):Int)=y2 at *
     iterate 2 (try cbv;repeat ((first|with_reducible apply f8 hA|rw [p1]|rw [p2]|refine C2 hA true ?_|(refine E2 hA (by simp only [c9a,c9n];omega) ?_));cbv))
     try simp (maxSteps:=4000000) only [nc] at *
     refine ⟨(y2,L2),hi2,hm,?_⟩
     cbv
    ·have p1:qk c 0=false:=eb hA (c9f hc)
     obtain ⟨rfl,rfl,rfl⟩:=hX _ (hE2.trans (g3 hc ts))
     iterate 2 (try cbv;repeat ((first|refine b3E hA 2 4 [] rfl rfl ?_|with_reducible apply f8 hA|rw [p1]);cbv))
   ·have p0:qk ((j:Nat):Int) N=true:=eb hA (by rw [d0c];omega)
    obtain ⟨hX1,rfl,rfl⟩:=hX _ (hE2.trans (a5k (by omega)))
    have hj:((l.length:Nat):Int)=((j:Nat):Int):=by omega
    have hX2:X=L++[[.sc (.int .u8 4),.sc (.string ⟨⟨[]⟩⟩),.sc (.int .i64 0),.sc (.int .i64 ((j:Nat):Int))]]:=by rw [hX1,b5o,hL,←hj];rfl
    generalize ((j:Nat):Int)=y at *
    have p2:ve L [[.sc (.int .u8 4),.sc (.string ⟨⟨[]⟩⟩),.sc (.int .i64 0),.sc (.int .i64 y)]]=X:=by rw [r4,hX2]
    have hLl:L.length≤65536:=by rw [hL,b5n];omega
    clear hX1 hX2
    try cbv;exact fr
def tkD (t:Tok):List D:=[.sc (.int .u8 t.kind),.sc (.string t.text),.sc (.int .i64 t.n),.sc (.int .i64 t.at_)]
def H8 (ts:List Tok):List (List D):=ts.map tkD
def A5 (l:List UInt8):List Int:=l.map fun c=>(c.toNat:Int)
theorem a7e (ts:List Tok):(H8 ts).length=ts.length:=by unfold H8;rw [c9r]
theorem c1T {ts:List Tok} {k:Nat} {t:Tok} (h:ts[k]?=some t):(H8 ts)[k]?=some (tkD t):=by unfold H8;rw [c9v,h];rfl
theorem c1U (l:List UInt8) (i:Nat) (c:UInt8) (h:l[i]?=some c):gb (A5 l) i=(c.toNat:Int):=by
 unfold gb A5
 rw [c9k,c9v,h]
 rfl
theorem a5l (l:List UInt8):Byt (A5 l):=fun x hx=>by
 unfold A5 at hx
 obtain ⟨c,_,rfl⟩:=d0o.1 hx
 have:=c.toNat_lt
 omega
theorem c60 (l:List UInt8):rU l=M6 (A5 l):=by unfold rU M6 A5;rw [d0W];rfl
theorem b9n (l:List UInt8) (hl:l.length≤65536):A0 35 [.one (.sl 1 (rU l))] [.one (.sl 4 (H8 (m9 (A5 l) 0 false []).1)),.one (.sc (.int .i64 (m9 (A5 l) 0 false []).2.1)),.one (.sc (.int .u8 (m9 (A5 l) 0 false []).2.2))]:=by
 have h:=c4M (a5l l) (by unfold A5;rw [c9r];exact hl)
 rw [c60]
 exact h
def rdB (T:List (List D)) (a:Int):List O:=[.box [.d (.sl 4 T),.d (.sc (.int .i64 a))]]
def T4 (e p:Int) (T:List (List D)) (a:Int):List O:=[.box [.ptr 1 0,.d (.sc (.int .u8 e)),.d (.sc (.int .i64 p))],.box [.d (.sl 4 T),.d (.sc (.int .i64 a))]]
def Z7 (t:Tok) (s:ByteArray):Bool:=(t.kind == 3) && (t.text.toList == s.toList)
theorem c1V (T:List (List D)) (hne:T≠[]) (hl:T.length≤1048576):A0 58 [.one (.sl 4 T)] [.one (.sl 4 T)]:=by
 refine sp9 Try.func58 rfl ?_;intro _ _ _ _ _ _ _ _ _ _ _ _ _ _ _ _ _ _ _ _ _ _ va _ _ ve;intros;rename_i hA
 obtain ⟨r1,r2,r3,r4⟩:=C7 hA
 have q:va T≠0:=by
  rw [r1]
  cases T with
  | nil=>exact absurd rfl hne
  | cons x T=>simp;omega
 have q4:ve [] T=T:=by rw [r4];rfl
 iterate 2 (try cbv;repeat ((first|with_reducible apply f8 hA|rw [q4]|refine b2k hA q ?_|refine a2x hA true ?_|(refine E2 hA (by simp only [c9n];omega) ?_));cbv))
theorem b21 (T:List (List D)) (hne:T≠[]) (hl:T.length≤1048576):n7 36 [.d (.sl 4 T)] [] (fun res os=>res=[.ptr 0 0]∧os=rdB T 0):=by
 have h1:=c1V T hne hl
 unfold rdB
 refine N9 Try.func36 rfl ?_;intros;rename_i hA
 try cbv;refine gr ?_;try simp only [nc] at *
 exact j9 hA [0] (res':=[.ptr 0 0]) ⟨rfl,rfl,rfl,rfl,rfl,rfl,rfl,rfl⟩ ⟨rfl,rfl⟩
theorem a3l (ts:List Tok) (t:Tok) (a:Nat) (ht:ts[a]?=some t) (hl:ts.length≤1048576):A4 39 [.ptr 0 0] (rdB (H8 ts) (a:Int)) (fun res os=>res=[.ag (y5 (tkD t))]∧os=rdB (H8 ts) (a:Int)):=by
 have hg:=c1T ht
 have hlt:=(c8S.1 ht).1
 have hln:=a7e ts
 unfold tkD at hg ⊢
 unfold rdB
 generalize H8 ts=T at *
 generalize t.kind=tk at *
 generalize t.text=tx at *
 generalize t.n=tn at *
 generalize t.at_=ta at *
 obtain ⟨z,hz⟩:∃z,z=(a:Int):=⟨_,rfl⟩
 rw [←hz]
 refine a1p Try.func39 rfl (by kernel_rfl) (by kernel_rfl) (by kernel_rfl) rfl ?_;intro _ _ _ _ _ _ _ qi _ qk _ _ _ _ _ _ _ _ _ _ _ _ va vc _ _ _ _ _ _ _ _ _ _ _ _ _ _ _ _ _ vw;intros;rename_i hA K hK
 obtain ⟨e1,e2,e3,e4,e5,e6,e7,e8,e9⟩:=m6 hA
 obtain ⟨r1,r2,r3,r4⟩:=C7 hA
 have q1:qk (va T) 0=false:=by rw [e9,r1,hln];simp;intro h;rw [h] at hlt;simp at hlt
 have q2:qi z (va T)=true:=by rw [e7,r1,hln,hz];exact c9j (by omega)
 have g:vc T z=some [.sc (.int .u8 tk),.sc (.string tx),.sc (.int .i64 tn),.sc (.int .i64 ta)]:=by rw [r2,hz,c8Y (by omega),show ((a:Int)).toNat=a by omega];exact hg
 have q0:=g;exact T1
theorem c61 (ts:List Tok) (t:Tok) (a:Nat) (ht:ts[a]?=some t) (hl:ts.length≤1048576) (s:ByteArray):A4 105 [.ptr 0 0,vs s] (rdB (H8 ts) (a:Int)) (fun res os=>res=[vb (Z7 t s)]∧os=rdB (H8 ts) (a:Int)):=by
 have hp:=a3l ts t a ht hl
 unfold Z7
 unfold tkD rdB at hp
 unfold rdB
 generalize H8 ts=T at *
 generalize t.kind=tk at *
 generalize t.text=tx at *
 generalize t.n=tn at *
 generalize t.at_=ta at *
 obtain ⟨z,hz⟩:∃z,z=(a:Int):=⟨_,rfl⟩
 rw [←hz] at hp ⊢
 obtain ⟨b,hb⟩:∃b,b=(tx.toList == s.toList):=⟨_,rfl⟩
 obtain ⟨c,hc⟩:∃c,c=(tk == 3):=⟨_,rfl⟩
 rw [←hb,←hc]
 refine a1p Try.func105 rfl (by kernel_rfl) (by kernel_rfl) (by kernel_rfl) rfl ?_;intro _ _ _ _ _ _ _ _ _ qk _ qm _ qp;intros;rename_i hA K hK
 obtain ⟨e1,e2,e3,e4,e5,e6,e7,e8,e9⟩:=m6 hA
 obtain ⟨s1,s2,s3,s4,s5,s6,s7⟩:=I3 hA
 have q1:qk tk 3=c:=by rw [e9,hc]
 have q2:qm (qp tx) (qp s)=b:=by rw [s1,s3,s3,hb]
 cases c
 ·iterate 2 (try cbv;repeat ((first|with_reducible apply f8 hA|rw [q1]|refine rdx hA [0] hp ?_);cbv))
  try simp (maxSteps:=4000000) only [nc] at *
  exact hK _ rfl
 ·iterate 2 (try cbv;repeat ((first|with_reducible apply f8 hA|rw [q1]|rw [q2]|refine rdx hA [0] hp ?_);cbv))
  try simp (maxSteps:=4000000) only [nc] at *
  exact hK _ rfl
theorem b0W (ts:List Tok) (t:Tok) (a:Nat) (ht:ts[a]?=some t) (hl:ts.length≤1048576):n7 91 [.ptr 0 0] (rdB (H8 ts) (a:Int)) (fun res os=>res=[.ag (y5 (tkD t))]∧os=rdB (H8 ts) ((a+1:Nat):Int)):=by
 have hp:=a3l ts t a ht hl
 have hlt:=(c8S.1 ht).1
 have hln:=a7e ts
 unfold tkD rdB at hp
 unfold tkD rdB
 generalize H8 ts=T at *
 generalize t.kind=tk at *
 generalize t.text=tx at *
 generalize t.n=tn at *
 generalize t.at_=ta at *
 obtain ⟨z,hz⟩:∃z,z=(a:Int):=⟨_,rfl⟩
 obtain ⟨y,hy⟩:∃y,y=((a+1:Nat):Int):=⟨_,rfl⟩
 rw [←hz] at hp ⊢
 rw [←hy]
 refine N9 Try.func91 rfl ?_;intro qa qb _ _ _ _ _ qi _ _ _ _ _ _ _ _ _ _ _ _ _ _ va;intros;rename_i hA
 obtain ⟨e1,e2,e3,e4,e5,e6,e7,e8,e9⟩:=m6 hA
 obtain ⟨r1,r2,r3,r4⟩:=C7 hA
 have q2:qi z (va T)=true:=by rw [e7,r1,hln,hz];exact c9j (by omega)
 have q3:qa .i64 (qb z 1)=y:=by rw [e1,e2,hz,hy,IntWalk.i64_in _ (by omega)];omega
 iterate 2 (try cbv;repeat ((first|with_reducible apply f8 hA|rw [q2]|rw [q3]|refine rdx hA [0] hp ?_);cbv))
 try simp (maxSteps:=4000000) only [nc] at *
 exact j9 hA [0] ⟨rfl,rfl,rfl,rfl,rfl,rfl,rfl,rfl⟩ ⟨rfl,rfl⟩
theorem b0X (ts:List Tok) (t:Tok) (a:Nat) (ht:ts[a]?=some t) (hl:ts.length≤1048576) (s:ByteArray):n7 88 [.ptr 0 0,vs s] (rdB (H8 ts) (a:Int)) (fun res os=>res=[vb (Z7 t s)]∧os=rdB (H8 ts) ((if Z7 t s=true then a+1 else a:Nat):Int)):=by
 have hp:=c61 ts t a ht hl s
 have hq:=b0W ts t a ht hl
 unfold tkD rdB at hq
 unfold rdB at hp
 unfold rdB
 generalize H8 ts=T at *
 generalize t.kind=tk at *
 generalize t.text=tx at *
 generalize t.n=tn at *
 generalize t.at_=ta at *
 generalize Z7 t s=b at *
 cases b
 ·rw [c8W (by decide)]
  generalize ((a:Nat):Int)=z at *
  refine N9 Try.func88 rfl fun qa qb qc qd qe qg qh qi qj qk ql qm qo qp qq qt qu qv qw qx qy qz va vc vd ve vf vg vh vj vk vl vm vn vo vp vq vr vt vu vv vw vx hA=>?_
  iterate 2 (try cbv;repeat ((first|with_reducible apply f8 hA|refine rdx hA [0] hp ?_);cbv))
  try simp (maxSteps:=4000000) only [nc] at *
  exact j9 hA [0] ⟨rfl,rfl,rfl,rfl,rfl,rfl,rfl,rfl⟩ ⟨rfl,rfl⟩
 ·rw [c8Y rfl]
  generalize ((a:Nat):Int)=z at *
  generalize ((a+1:Nat):Int)=y at *
  refine N9 Try.func88 rfl fun qa qb qc qd qe qg qh qi qj qk ql qm qo qp qq qt qu qv qw qx qy qz va vc vd ve vf vg vh vj vk vl vm vn vo vp vq vr vt vu vv vw vx hA=>?_
  iterate 2 (try cbv;repeat ((first|with_reducible apply f8 hA|refine rdx hA [0] hp ?_|refine v7 hA [0] hq ?_);cbv))
  try simp (maxSteps:=4000000) only [nc] at *
  exact j9 hA [0] ⟨rfl,rfl,rfl,rfl,rfl,rfl,rfl,rfl⟩ ⟨rfl,rfl⟩
abbrev N5:ByteArray:=⟨#[]⟩
abbrev PE:=Nat×Int
def tk0:Tok:=⟨4,N5,0,0⟩
def l9 (ts:List Tok) (a:Nat):Tok:=(ts[a]?).getD tk0
def B3 (ts:List Tok) (s:ByteArray) (p:PE):Bool:=(p.2 == 0) && Z7 (l9 ts p.1) s
def skP (ts:List Tok) (s:ByteArray) (p:PE):PE:=if B3 ts s p=true then (p.1+1,0) else p
def j0 (ts:List Tok) (s:ByteArray) (p:PE):PE:=if p.2≠0 then p else if Z7 (l9 ts p.1) s=true then (p.1+1,0) else (p.1,5)
def C5 (c:Int) (p:PE):PE:=if p.2≠0 then p else (p.1,c)
abbrev a8s:ByteArray:=⟨#[73,110,116]⟩
abbrev a4a:ByteArray:=⟨#[66,111,111,108]⟩
abbrev a5m:ByteArray:=⟨#[63]⟩
abbrev a61:ByteArray:=⟨#[40]⟩
abbrev a8t:ByteArray:=⟨#[41]⟩
abbrev b3L:ByteArray:=⟨#[123]⟩
abbrev b9o:ByteArray:=⟨#[125]⟩
abbrev b69:ByteArray:=⟨#[60]⟩
abbrev b9p:ByteArray:=⟨#[62]⟩
abbrev gTo:ByteArray:=⟨#[45,62]⟩
abbrev a6d:ByteArray:=⟨#[44]⟩
abbrev a4z:ByteArray:=⟨#[58]⟩
abbrev b6A:ByteArray:=⟨#[124]⟩
def m8 (ts:List Tok):Prop:=∀a,a<ts.length→(l9 ts a).kind≠4→a+1<ts.length
theorem M9 {ts:List Tok} {a:Nat} (h:a<ts.length):ts[a]?=some (l9 ts a):=by
 unfold l9
 rw [c8T h]
 rfl
theorem b22 {t:Tok} {s:ByteArray} (h:Z7 t s=true):t.kind=3:=by
 unfold Z7 at h
 rw [c8Z,d0c] at h
 exact h.1
theorem I4 {ts:List Tok} {s:ByteArray} {p:PE} (hE:m8 ts) (hp:p.1<ts.length) (h:B3 ts s p=true):p.2=0∧p.1+1<ts.length:=by
 unfold B3 at h
 rw [c8Z,d0c] at h
 exact ⟨h.1,hE _ hp (by rw [b22 h.2];decide)⟩
theorem j7 {ts:List Tok} {s:ByteArray} {p:PE} (hE:m8 ts) (hp:p.1<ts.length):(j0 ts s p).1<ts.length∧p.1≤(j0 ts s p).1∧((j0 ts s p).2=0→p.2=0∧(j0 ts s p).1=p.1+1):=by
 unfold j0
 by_cases h0:p.2≠0
 ·rw [c8Y h0]
  exact ⟨hp,c9c _,fun h=>absurd h h0⟩
 ·rw [c8W h0]
  by_cases h1:Z7 (l9 ts p.1) s=true
  ·rw [c8Y h1]
   exact ⟨hE _ hp (by rw [b22 h1];decide),Nat.le_succ _,fun _=>⟨d0E.1 h0,rfl⟩⟩
  ·rw [c8W h1]
   exact ⟨hp,c9c _,fun h=>absurd (show (5:Int)=0 from h) (by decide)⟩
theorem C8 (c:Int) (hc:c≠0) (p:PE):(C5 c p).1=p.1∧(C5 c p).2≠0:=by
 unfold C5
 by_cases h0:p.2≠0
 ·rw [c8Y h0];exact ⟨rfl,h0⟩
 ·rw [c8W h0];exact ⟨rfl,hc⟩
theorem b5p:∀(l:List UInt8) (f:Bool),(∀(i:Nat) (c:UInt8),l[i]?=some c→okB (f && (i == 0)) (c.toNat:Int)=true)→okL f l=true
 | [],f,h=>rfl
 | c::l,f,h=>by
  rw [okL,b5p l false fun i x hx=>by
   have:=h (i+1) x (by simpa using hx)
   simpa using this]
  have:=h 0 c rfl
  simp at this
  rw [this]
  rfl
theorem c62 (s:ByteArray) (i:Nat) (c:UInt8) (h:(btl s)[i]?=some c):gb (r8 s) i=(c.toNat:Int):=by
 unfold btl at h
 unfold gb r8
 rw [c9k,c9v,h]
 rfl
theorem c1W (s:ByteArray) (h1:a5j s=false) (h2:a0T (r8 s)=true) (h3:(r8 s).length≤32):B2 s=true:=by
 rw [P5] at h3
 unfold a0T at h2
 rw [c8Z,decide_eq_true_iff,c9s,P5] at h2
 obtain ⟨h4,h5⟩:=h2
 unfold B2 a19
 rw [h1,c9j h3,c9j h4,b5p _ _ fun i c hc=>by
  have hi:i<s.size:=by
   have:=(c8S.1 hc).1
   unfold btl at this
   rwa [d0q] at this
  have h6:=h5 i (d0Y.2 hi)
  unfold b8Y at h6
  rw [c62 s i c hc] at h6
  unfold okB
  by_cases hz:i=0
  ·subst hz
   simpa using h6
  ·rw [c9j (by omega:0<i)] at h6
   rw [show (i == 0)=false from c9f hz]
   simpa using h6]
 rfl
def b6B (t:Tok):Prop:=t.kind≠4∧(t.kind=1→B2 t.text=true)
theorem b9q (s:ByteArray) (a:Int) (h:(a0K s a).2=0):b6B (a0K s a).1:=by
 unfold a0K at h ⊢
 by_cases h1:F5 (gb (r8 s) 0)=true
 ·rw [c8Y h1] at h ⊢
  exact ⟨show (2:Int)≠4 by decide,fun h=>absurd (show (2:Int)=1 from h) (by decide)⟩
 rw [c8W h1] at h ⊢
 by_cases h2:a5j s=true
 ·rw [c8Y h2] at h ⊢
  exact ⟨show (3:Int)≠4 by decide,fun h=>absurd (show (3:Int)=1 from h) (by decide)⟩
 rw [c8W h2] at h ⊢
 by_cases h3:a0T (r8 s)=false
 ·rw [c8Y h3] at h
  exact absurd (show (4:Int)=0 from h) (by decide)
 rw [c8W h3] at h ⊢
 by_cases h4:32<(r8 s).length
 ·rw [c8Y h4] at h
  exact absurd (show (7:Int)=0 from h) (by decide)
 rw [c8W h4]
 exact ⟨show (1:Int)≠4 by decide,fun _=>c1W s (Bool.eq_false_iff.2 h2) (by simpa using h3) (by omega)⟩
def b9r (l:List Int) (r:List Tok×Int×Int) (n:Nat):Prop:=r.2.2=0→∃pre,r.1=pre++[⟨4,⟨#[]⟩,0,(l.length:Int)⟩]∧(∀t∈pre,b6B t)∧pre.length≤n
theorem b5q (l:List Int):∀(m a:Nat) (rem:Bool) (out:List Tok) (n:Nat),l.length - a≤m→(∀t∈out,b6B t)→out.length+(l.length - a)≤n→b9r l (m9 l a rem out) n
 | m,a,rem,out,n,hm,ho,hn=>by
  rw [a0V]
  unfold body
  by_cases ha:a<l.length
  ·rw [c8Y ha]
   have go:∀(a':Nat) (rem:Bool) (out':List Tok),a<a'→(∀t∈out',b6B t)→out'.length≤out.length+1→b9r l (m9 l a' rem out') n:=fun a' rem' out' h1 h2 h3=>by
    match m,hm with
    | 0,hm=>omega
    | m+1,hm=>exact b5q l m a' rem' out' n (by omega) h2 (by omega)
   have bad:∀(p c:Int),c≠0→b9r l ([],p,c) n:=fun p c hc h=>absurd h hc
   have snoc:∀t,b6B t→∀x∈out++[t],b6B x:=fun t ht x hx=>by
    rcases c99.1 hx with hx|hx
    ·exact ho x hx
    ·cases c97.1 hx;exact ht
   by_cases h0:nx l a=0
   ·rw [c8Y h0];exact bad _ _ (by decide)
   rw [c8W h0]
   by_cases h1:rem=true
   ·rw [c8Y h1];exact go _ _ _ (by omega) ho (by omega)
   rw [c8W h1]
   by_cases h2:M8 (gb l a)=true
   ·rw [c8Y h2];exact go _ _ _ (by omega) ho (by omega)
   rw [c8W h2]
   by_cases h3:gb l a=35
   ·rw [c8Y h3];exact go _ _ _ (by omega) ho (by omega)
   rw [c8W h3]
   by_cases h4:F3 (gb l a)=true
   ·rw [c8Y h4]
    by_cases h5:(a0K (strOfNums (L5 l a)) a).2=0
    ·rw [c8Y h5]
     have:=b5k ha h4
     exact go _ _ _ (by omega) (snoc _ (b9q _ _ h5)) (by simp)
    ·rw [c8W h5];exact bad _ _ h5
   rw [c8W h4]
   by_cases h6:B8 (l.drop a)=0
   ·rw [c8Y h6];exact bad _ _ (by decide)
   rw [c8W h6]
   exact go _ _ _ (by omega) (snoc _ ⟨show (3:Int)≠4 by decide,fun h=>absurd (show (3:Int)=1 from h) (by decide)⟩) (by simp)
  ·rw [c8W ha]
   exact fun _=>⟨out,rfl,ho,by omega⟩
def T5 (ts:List Tok):Prop:=∀a,a<ts.length→(l9 ts a).kind=1→B2 (l9 ts a).text=true
theorem b5r (l:List Int) (h:(m9 l 0 false []).2.2=0):m8 (m9 l 0 false []).1∧T5 (m9 l 0 false []).1∧0<(m9 l 0 false []).1.length∧(m9 l 0 false []).1.length≤l.length+1:=by
 obtain ⟨pre,h1,h2,h3⟩:=b5q l l.length 0 false [] l.length (by omega) (fun t ht=>by cases ht) (by simp) h
 rw [h1]
 have hin:∀a,a<(pre++[(⟨4,⟨#[]⟩,0,(l.length:Int)⟩:Tok)]).length→(l9 (pre++[⟨4,⟨#[]⟩,0,(l.length:Int)⟩]) a)∈pre∧a<pre.length∨(l9 (pre++[⟨4,⟨#[]⟩,0,(l.length:Int)⟩]) a).kind=4:=fun a ha=>by
  rw [c8U,d00] at ha
  unfold l9
  by_cases hp:a<pre.length
  ·left
   rw [c9l hp,c8T hp]
   exact ⟨List.getElem_mem hp,hp⟩
  ·right
   have:a=pre.length:=by omega
   subst this
   rw [c9b (c9c _),d0h]
   rfl
 refine ⟨fun a ha hk=>?_,fun a ha hk=>?_,by simp,by simp;omega⟩
 ·rcases hin a ha with ⟨_,hp⟩|h4
  ·simp;omega
  ·exact absurd h4 hk
 ·rcases hin a ha with ⟨hm,_⟩|h4
  ·exact (h2 _ hm).2 hk
  ·rw [h4] at hk;exact absurd hk (by decide)
def c1X:Int→List Tok→Prop
 | _,[]=>True
 | b,t::ts=>b≤t.at_∧c1X (t.at_+1) ts
theorem c1X.mono:∀ {ts:List Tok} {b c:Int},c≤b→c1X b ts→c1X c ts
 | [],_,_,_,_=>trivial
 | t::ts,b,c,h,⟨h1,h2⟩=>⟨by omega,h2⟩
structure AtsT (n:Nat) (ts:List Tok):Prop where
 lo:∀i,i<ts.length→0≤(l9 ts i).at_∧(l9 ts i).at_≤n
 up:∀i j,i<j→j<ts.length→(l9 ts i).at_+1≤(l9 ts j).at_
theorem b5s (T:List (List D)) (p z:Int):A4 38 [.ptr 0 0] (T4 0 p T z) (fun res os=>res=[vb true]∧os=T4 0 p T z):=by
 unfold T4
 refine a1p Try.func38 rfl (by kernel_rfl) (by kernel_rfl) (by kernel_rfl) rfl ?_;intro _ _ _ _ _ _ _ _ _ qk _ _ _ _ _ _ _ _ _ _ _ _ _ _ _ _ _ _ _ _ _ _ _ _ _ _ _ _ _ _ _ vw;intros;rename_i hA K hK
 obtain ⟨e1,e2,e3,e4,e5,e6,e7,e8,e9⟩:=m6 hA
 have q1:qk 0 0=true:=by rw [e9];rfl
 exact T1
theorem b5t (T:List (List D)) (e p z:Int) (he:e≠0):A4 38 [.ptr 0 0] (T4 e p T z) (fun res os=>res=[vb false]∧os=T4 e p T z):=by
 unfold T4
 refine a1p Try.func38 rfl (by kernel_rfl) (by kernel_rfl) (by kernel_rfl) rfl ?_;intro _ _ _ _ _ _ _ _ _ qk _ _ _ _ _ _ _ _ _ _ _ _ _ _ _ _ _ _ _ _ _ _ _ _ _ _ _ _ _ _ _ vw;intros;rename_i hA K hK
 obtain ⟨e1,e2,e3,e4,e5,e6,e7,e8,e9⟩:=m6 hA
 have q1:qk e 0=false:=by rw [e9];exact c9d he
 exact T1
theorem b9s (ts:List Tok) (t:Tok) (a:Nat) (ht:ts[a]?=some t) (hl:ts.length≤1048576) (e p:Int):A4 60 [.ptr 0 0] (T4 e p (H8 ts) (a:Int)) (fun res os=>res=[vi .i64 t.at_]∧os=T4 e p (H8 ts) (a:Int)):=by
 have hp:=a3l ts t a ht hl
 unfold tkD rdB at hp
 unfold T4
 generalize H8 ts=T at *
 generalize t.kind=tk at *
 generalize t.text=tx at *
 generalize t.n=tn at *
 generalize t.at_=ta at *
 generalize ((a:Nat):Int)=z at *
 refine a1p Try.func60 rfl (by kernel_rfl) (by kernel_rfl) (by kernel_rfl) rfl ?_;intro _ _ _ _ _ _ _ _ _ _ _ _ _ _ _ _ _ _ _ _ _ _ _ _ _ _ _ _ _ _ _ _ _ _ _ _ _ _ _ _ _ vw;intros;rename_i hA K hK
 have r0:=hp;exact T1
def pz0:List V:=[vi .u8 0,vs ⟨#[]⟩,vs ⟨#[]⟩,vi .i64 0,vb false,vi .u8 0,vs ⟨#[]⟩,vi .i64 0,.em,.em,.em]
theorem a8u (ts:List Tok) (t:Tok) (a:Nat) (ht:ts[a]?=some t) (hl:ts.length≤1048576) (c:Int):n7 40 [.ptr 0 0,vi .u8 c] (T4 0 0 (H8 ts) (a:Int)) (fun res os=>res=[.ag pz0]∧os=T4 c t.at_ (H8 ts) (a:Int)):=by
 have h1:=b5s (H8 ts) 0 (a:Int)
 have h2:=b9s ts t a ht hl 0 0
 unfold T4 at *
 unfold pz0
 generalize H8 ts=T at *
 generalize t.at_=ta at *
 generalize ((a:Nat):Int)=z at *
 refine N9 Try.func40 rfl ?_;intros;rename_i hA
 iterate 2 (try cbv;repeat ((first|with_reducible apply f8 hA|refine rdx hA [0,1] h1 ?_|refine rdx hA [0,1] h2 ?_);cbv))
 try simp (maxSteps:=4000000) only [nc] at *
 exact j9 hA [0,1] ⟨rfl,rfl,rfl,rfl,rfl,rfl,rfl,rfl⟩ ⟨rfl,rfl⟩
theorem a9V (T:List (List D)) (e p z c:Int) (he:e≠0):n7 40 [.ptr 0 0,vi .u8 c] (T4 e p T z) (fun res os=>res=[.ag pz0]∧os=T4 e p T z):=by
 have h1:=b5t T e p z he
 unfold T4 at *
 unfold pz0
 refine N9 Try.func40 rfl ?_;intros;rename_i hA
 iterate 2 (try cbv;repeat ((first|with_reducible apply f8 hA|refine rdx hA [0,1] h1 ?_);cbv))
 try simp (maxSteps:=4000000) only [nc] at *
 exact j9 hA [0,1] ⟨rfl,rfl,rfl,rfl,rfl,rfl,rfl,rfl⟩ ⟨rfl,rfl⟩
theorem b23 (ts:List Tok) (t:Tok) (a:Nat) (ht:ts[a]?=some t) (hl:ts.length≤1048576) (s:ByteArray):n7 64 [.ptr 0 0,vs s] (T4 0 0 (H8 ts) (a:Int)) (fun res os=>res=[]∧os=if Z7 t s=true then T4 0 0 (H8 ts) ((a+1:Nat):Int) else T4 5 t.at_ (H8 ts) (a:Int)):=by
 have h1:=b5s (H8 ts) 0 (a:Int)
 have hq:=b0X ts t a ht hl s
 have hf:=a8u ts t a ht hl 5
 unfold rdB at hq
 unfold T4 at *
 unfold pz0 at hf
 generalize H8 ts=T at *
 generalize t.at_=ta at *
 cases hb:Z7 t s
 ·rw [hb,c8W (by decide)] at hq
  rw [c8W (by decide)]
  generalize ((a:Nat):Int)=z at *
  refine N9 Try.func64 rfl fun qa qb qc qd qe qg qh qi qj qk ql qm qo qp qq qt qu qv qw qx qy qz va vc vd ve vf vg vh vj vk vl vm vn vo vp vq vr vt vu vv vw vx hA=>?_
  iterate 2 (try cbv;repeat ((first|with_reducible apply f8 hA|refine rdx hA [0,1] h1 ?_|refine v7 hA [1] hq ?_|refine v7 hA [0,1] hf ?_);cbv))
  try simp (maxSteps:=4000000) only [nc] at *
  exact j9 hA [0,1] ⟨rfl,rfl,rfl,rfl,rfl,rfl,rfl,rfl⟩ ⟨rfl,rfl⟩
 ·rw [hb,c8Y rfl] at hq
  rw [c8Y rfl]
  generalize ((a:Nat):Int)=z at *
  generalize ((a+1:Nat):Int)=y at *
  refine N9 Try.func64 rfl fun qa qb qc qd qe qg qh qi qj qk ql qm qo qp qq qt qu qv qw qx qy qz va vc vd ve vf vg vh vj vk vl vm vn vo vp vq vr vt vu vv vw vx hA=>?_
  iterate 2 (try cbv;repeat ((first|with_reducible apply f8 hA|refine rdx hA [0,1] h1 ?_|refine v7 hA [1] hq ?_);cbv))
  try simp (maxSteps:=4000000) only [nc] at *
  exact j9 hA [0,1] ⟨rfl,rfl,rfl,rfl,rfl,rfl,rfl,rfl⟩ ⟨rfl,rfl⟩
theorem b6C (T:List (List D)) (e p z:Int) (he:e≠0) (s:ByteArray):n7 64 [.ptr 0 0,vs s] (T4 e p T z) (fun res os=>res=[]∧os=T4 e p T z):=by
 have h1:=b5t T e p z he
 unfold T4 at *
 refine N9 Try.func64 rfl ?_;intros;rename_i hA
 iterate 2 (try cbv;repeat ((first|with_reducible apply f8 hA|refine rdx hA [0,1] h1 ?_);cbv))
 try simp (maxSteps:=4000000) only [nc] at *
 exact j9 hA [0,1] ⟨rfl,rfl,rfl,rfl,rfl,rfl,rfl,rfl⟩ ⟨rfl,rfl⟩
theorem b24 (ts:List Tok) (t:Tok) (a:Nat) (ht:ts[a]?=some t) (hl:ts.length≤1048576):n7 63 [.ptr 0 0] (T4 0 0 (H8 ts) (a:Int)) (fun res os=>res=[vs (if t.kind=1 then t.text else ⟨#[]⟩)]∧os=if t.kind=1 then T4 0 0 (H8 ts) ((a+1:Nat):Int) else T4 5 t.at_ (H8 ts) (a:Int)):=by
 have h1:=b5s (H8 ts) 0 (a:Int)
 have hp:=a3l ts t a ht hl
 have hq:=b0W ts t a ht hl
 have hf:=a8u ts t a ht hl 5
 unfold tkD rdB at hp hq
 unfold T4 at *
 unfold pz0 at hf
 generalize H8 ts=T at *
 generalize t.kind=tk at *
 generalize t.text=tx at *
 generalize t.n=tn at *
 generalize t.at_=ta at *
 by_cases hb:tk=1
 ·rw [c8Y hb,c8Y hb]
  generalize ((a:Nat):Int)=z at *
  generalize ((a+1:Nat):Int)=y at *
  refine N9 Try.func63 rfl fun qa qb qc qd qe qg qh qi qj qk ql qm qo qp qq qt qu qv qw qx qy qz va vc vd ve vf vg vh vj vk vl vm vn vo vp vq vr vt vu vv vw vx hA=>?_
  obtain ⟨e1,e2,e3,e4,e5,e6,e7,e8,e9⟩:=m6 hA
  have q1:qk tk 1=true:=by rw [e9];exact c9j hb
  clear hb
  iterate 2 (try cbv;repeat ((first|with_reducible apply f8 hA|rw [q1]|refine rdx hA [0,1] h1 ?_|refine rdx hA [1] hp ?_|refine v7 hA [1] hq ?_);cbv))
  try simp (maxSteps:=4000000) only [nc] at *
  exact j9 hA [0,1] ⟨rfl,rfl,rfl,rfl,rfl,rfl,rfl,rfl⟩ ⟨rfl,rfl⟩
 ·rw [c8W hb,c8W hb]
  generalize ((a:Nat):Int)=z at *
  refine N9 Try.func63 rfl fun qa qb qc qd qe qg qh qi qj qk ql qm qo qp qq qt qu qv qw qx qy qz va vc vd ve vf vg vh vj vk vl vm vn vo vp vq vr vt vu vv vw vx hA=>?_
  obtain ⟨e1,e2,e3,e4,e5,e6,e7,e8,e9⟩:=m6 hA
  have q1:qk tk 1=false:=by rw [e9];exact c9d hb
  clear hb
  iterate 2 (try cbv;repeat ((first|with_reducible apply f8 hA|rw [q1]|refine rdx hA [0,1] h1 ?_|refine rdx hA [1] hp ?_|refine v7 hA [0,1] hf ?_);cbv))
  try simp (maxSteps:=4000000) only [nc] at *
  exact j9 hA [0,1] ⟨rfl,rfl,rfl,rfl,rfl,rfl,rfl,rfl⟩ ⟨rfl,rfl⟩
theorem b6D (T:List (List D)) (e p z:Int) (he:e≠0):n7 63 [.ptr 0 0] (T4 e p T z) (fun res os=>res=[vs ⟨#[]⟩]∧os=T4 e p T z):=by
 have h1:=b5t T e p z he
 have hf:=a9V T e p z 5 he
 unfold T4 at *
 unfold pz0 at hf
 refine N9 Try.func63 rfl ?_;intros;rename_i hA
 iterate 2 (try cbv;repeat ((first|with_reducible apply f8 hA|refine rdx hA [0,1] h1 ?_|refine v7 hA [0,1] hf ?_);cbv))
 try simp (maxSteps:=4000000) only [nc] at *
 exact j9 hA [0,1] ⟨rfl,rfl,rfl,rfl,rfl,rfl,rfl,rfl⟩ ⟨rfl,rfl⟩

section
abbrev PkN (T:List (List D)) (a k n p:Int) (s:ByteArray):Prop:=A4 39 [.ptr 0 0] [.box [.d (.sl 4 T),vi .i64 a]] (fun res os=>res=[.ag [vi .u8 k,vs s,vi .i64 n,vi .i64 p]]∧os=[.box [.d (.sl 4 T),vi .i64 a]])
abbrev IsN (T:List (List D)) (a:Int) (s:ByteArray) (b:Bool):Prop:=A4 105 [.ptr 0 0,vs s] [.box [.d (.sl 4 T),vi .i64 a]] (fun res os=>res=[vb b]∧os=[.box [.d (.sl 4 T),vi .i64 a]])
abbrev TaN (T:List (List D)) (a k n p a1:Int) (s:ByteArray):Prop:=n7 91 [.ptr 0 0] [.box [.d (.sl 4 T),vi .i64 a]] (fun res os=>res=[.ag [vi .u8 k,vs s,vi .i64 n,vi .i64 p]]∧os=[.box [.d (.sl 4 T),vi .i64 a1]])
abbrev eyZ (e p:Int) (T:List (List D)) (a:Int):List O:=[.box [.ptr 1 0,vi .u8 e,vi .i64 p],.box [.d (.sl 4 T),vi .i64 a]]
abbrev WtN (T:List (List D)) (s:ByteArray) (e p a e1 p1 a1:Int):Prop:=n7 64 [.ptr 0 0,vs s] (eyZ e p T a) (fun res os=>res=[]∧os=eyZ e1 p1 T a1)
abbrev WoN (T:List (List D)) (s:ByteArray) (e p a e1 p1 a1:Int):Prop:=n7 63 [.ptr 0 0] (eyZ e p T a) (fun res os=>res=[vs s]∧os=eyZ e1 p1 T a1)
abbrev HeN (T:List (List D)) (e p a q:Int):Prop:=A4 60 [.ptr 0 0] (eyZ e p T a) (fun res os=>res=[vi .i64 q]∧os=eyZ e p T a)
abbrev OkN (T:List (List D)) (e p a:Int) (b:Bool):Prop:=A4 38 [.ptr 0 0] (eyZ e p T a) (fun res os=>res=[vb b]∧os=eyZ e p T a)
section
variable {ts:List Tok} (hl:ts.length≤1048576)
include hl
theorem b9t {a:Nat} (ha:a<ts.length):PkN (H8 ts) (a:Int) (l9 ts a).kind (l9 ts a).n (l9 ts a).at_ (l9 ts a).text:=a3l ts (l9 ts a) a (M9 ha) hl
theorem c3D {a:Nat} (ha:a<ts.length) (s:ByteArray):IsN (H8 ts) (a:Int) s (Z7 (l9 ts a) s):=c61 ts (l9 ts a) a (M9 ha) hl s
theorem c64 {a:Nat} (ha:a<ts.length):TaN (H8 ts) (a:Int) (l9 ts a).kind (l9 ts a).n (l9 ts a).at_ ((a+1:Nat):Int) (l9 ts a).text:=b0W ts (l9 ts a) a (M9 ha) hl
theorem c7Z {a:Nat} (ha:a<ts.length) {s:ByteArray} (h:Z7 (l9 ts a) s=true):WtN (H8 ts) s 0 0 (a:Int) 0 0 ((a+1:Nat):Int):=by
 have:=b23 ts (l9 ts a) a (M9 ha) hl s
 rw [c8Y h] at this
 exact this
theorem c8a {a:Nat} (ha:a<ts.length) {s:ByteArray} (h:Z7 (l9 ts a) s=false):WtN (H8 ts) s 0 0 (a:Int) 5 (l9 ts a).at_ (a:Int):=by
 have:=b23 ts (l9 ts a) a (M9 ha) hl s
 rw [c8W (by rw [h];decide)] at this
 exact this
theorem c8b {a:Nat} (ha:a<ts.length) (h:(l9 ts a).kind=1):WoN (H8 ts) (l9 ts a).text 0 0 (a:Int) 0 0 ((a+1:Nat):Int):=by
 have:=b24 ts (l9 ts a) a (M9 ha) hl
 rw [c8Y h,c8Y h] at this
 exact this
theorem c8c {a:Nat} (ha:a<ts.length) (h:(l9 ts a).kind≠1):WoN (H8 ts) ⟨#[]⟩ 0 0 (a:Int) 5 (l9 ts a).at_ (a:Int):=by
 have:=b24 ts (l9 ts a) a (M9 ha) hl
 rw [c8W h,c8W h] at this
 exact this
theorem c65 {a:Nat} (ha:a<ts.length) (e p:Int):HeN (H8 ts) e p (a:Int) (l9 ts a).at_:=b9s ts (l9 ts a) a (M9 ha) hl e p
end
theorem c8d (T:List (List D)) (s:ByteArray) (e p a:Int) (he:e≠0):WtN T s e p a e p a:=b6C T e p a he s
theorem c8e (T:List (List D)) (e p a:Int) (he:e≠0):WoN T ⟨#[]⟩ e p a e p a:=b6D T e p a he
theorem c8f (T:List (List D)) (p a:Int):OkN T 0 p a true:=b5s T p a
theorem c8g (T:List (List D)) (e p a:Int) (he:e≠0):OkN T e p a false:=b5t T e p a he
end
end Go.Proofs.Ytahpnackkmbmgaa.Vm
end
section
namespace Go.Proofs.Ytahpnackkmbmgaa
open Go.RowKit
set_option maxRecDepth 100000
set_option maxHeartbeats 4000000
inductive Ty where
 | mk (op:Int) (name:ByteArray) (n:Int) (kids:List Ty)
def Ty.op:Ty→Int|.mk op _ _ _=>op
def Ty.name:Ty→ByteArray|.mk _ nm _ _=>nm
def Ty.n:Ty→Int|.mk _ _ n _=>n
def Ty.kids:Ty→List Ty|.mk _ _ _ ks=>ks
def s8:Ty:=.mk 0 ⟨#[]⟩ 0 []
theorem Ty.sizeOf_kid {t x:Ty} (h:x∈t.kids):SizeOf.sizeOf x<SizeOf.sizeOf t:=by
 obtain ⟨op,nm,n,ks⟩:=t
 have:=List.sizeOf_lt_of_mem h
 simp only [Ty.kids] at this
 simp only [Ty.mk.sizeOf_spec]
 omega
theorem Ty.ind {P:Ty→Prop} (h:∀t,(∀x∈t.kids,P x)→P t) (t:Ty):P t:=h t fun x _hx=>Ty.ind h x
termination_by SizeOf.sizeOf t
decreasing_by exact Ty.sizeOf_kid _hx
mutual
def Ty.parts:Ty→List Ty
 | .mk op nm n ks=>.mk op nm n ks::Y7 ks
def Y7:List Ty→List Ty
 | []=>[]
 | t::ts=>t.parts++Y7 ts
end
theorem Y8 (t:Ty):t.parts=t::Y7 t.kids:=by
 obtain ⟨op,nm,n,ks⟩:=t
 rw [Ty.parts]
 rfl
theorem a62:∀ts:List Ty,Y7 ts=ts.flatMap Ty.parts
 | []=>by rw [Y7];rfl
 | t::ts=>by rw [Y7,a62 ts];rfl
theorem A9 (t:Ty):t.parts=t::t.kids.flatMap Ty.parts:=by rw [Y8,a62]
theorem G1 (t:Ty):1≤t.parts.length:=by rw [Y8];simp
theorem a4b:∀(ts:List Ty),ts.length≤(ts.flatMap Ty.parts).length∧∀x∈ts,x.parts.length≤(ts.flatMap Ty.parts).length
 | []=>by simp
 | u::us=>by
  have ih:=a4b us
  have:=G1 u
  simp only [c9q,c8U,c9a]
  refine ⟨by omega,fun x hx=>?_⟩
  rcases c9e.1 hx with rfl|hx
  ·omega
  ·have:=ih.2 x hx;omega
theorem Q0 (t:Ty):t.kids.length<t.parts.length∧∀x∈t.kids,x.parts.length<t.parts.length:=by
 rw [A9,c9a]
 have:=a4b t.kids
 exact ⟨by omega,fun x hx=>by have:=this.2 x hx;omega⟩
def N6 (op:Int):Option (List Int) :=
 if op=1∨op=2∨op=3∨op=7∨op=8∨op=9∨op=10 then some [] else if op=4 then some [116,116] else if op=5∨op=6 then some [114] else if op=11 then some [116,114] else none
def a5n (isWord:ByteArray→Bool) (t:Ty) (s:Int):Bool :=
 match N6 t.op with
 | none=>false
 | some k=>(decide (8≤t.op) == (s == 114)) && (decide (t.kids.length=k.length) && ((if t.op=11 then isWord t.name else decide (t.name.toList=[])) && (decide (0≤t.n) && (decide (t.op=7∨t.op=10) || decide (t.n=0)))))
mutual
def F6 (isWord:ByteArray→Bool):Ty→Int→Bool
 | .mk op nm n ks,s=>a5n isWord (.mk op nm n ks) s && F7 isWord ks ((N6 op).getD [])
def F7 (isWord:ByteArray→Bool):List Ty→List Int→Bool
 | [],_=>true
 | t::ts,k::ks=>F6 isWord t k && F7 isWord ts ks
 | _::_,[]=>false
end
theorem a8v (iw:ByteArray→Bool) (t:Ty) (s:Int):F6 iw t s=(a5n iw t s && F7 iw t.kids ((N6 t.op).getD [])):=by
 obtain ⟨op,nm,n,ks⟩:=t
 rw [F6]
 rfl
def a6e (x y:Ty):Bool:=(x.op == 7) && ((y.op == 10) && (x.n == y.n))
def a63 (t:Ty):Bool:=t.parts.all fun x=>t.parts.all fun y=>!a6e x y
end Go.Proofs.Ytahpnackkmbmgaa
end
section
namespace Go.Proofs.Ytahpnackkmbmgaa.Vm
open Go.RowKit
set_option maxRecDepth 100000
set_option maxHeartbeats 4000000
mutual
def cT:Ty→List D
 | .mk op nm n ks=>[.sc (.int .u8 op),.sc (.string nm),.sc (.int .i64 n),.sl 4 (rT ks)]
def rT:List Ty→List (List D)
 | []=>[]
 | t::ts=>cT t::rT ts
end
theorem a8w:∀ts:List Ty,rT ts=ts.map cT
 | []=>by rw [rT];rfl
 | t::ts=>by rw [rT,a8w ts];rfl
theorem a3m (ts:List Ty):(rT ts).length=ts.length:=by rw [a8w,c9r]
theorem b0Y {ts:List Ty} {k:Nat} {t:Ty} (h:ts[k]?=some t):(rT ts)[k]?=some (cT t):=by rw [a8w,c9v,h];rfl
def rF (fs:List (ByteArray×Ty)):List (List D):=fs.map fun f=>.sc (.string f.1)::cT f.2
theorem a6f (fs:List (ByteArray×Ty)):(rF fs).length=fs.length:=by rw [rF,c9r]
theorem c4N {fs:List (ByteArray×Ty)} {k:Nat} {x:ByteArray×Ty} (h:fs[k]?=some x):(rF fs)[k]?=some (.sc (.string x.1)::cT x.2):=by rw [rF,c9v,h];rfl
theorem w8 (t:Ty):∃c0 c1 c2 c3,cT t=[c0,c1,c2,c3]:=by obtain ⟨op,nm,n,ks⟩:=t;exact ⟨_,_,_,_,by rw [cT]⟩
section
inductive Tm where
 | mk (op:Int) (name arg:ByteArray) (n:Int) (has:Bool) (ann:Ty) (kids:List Tm)
mutual
def cM:Tm→List D
 | .mk op nm ar n h a ks=>.sc (.int .u8 op)::.sc (.string nm)::.sc (.string ar)::.sc (.int .i64 n)::.sc (.bool h)::(cT a++[.sl 10 (rM ks)])
def rM:List Tm→List (List D)
 | []=>[]
 | t::ts=>cM t::rM ts
end
theorem a40:∀l:List Tm,rM l=l.map cM
 | []=>by rw [rM];rfl
 | t::l=>by rw [rM,a40 l];rfl
theorem b3M (l:List Tm):(rM l).length=l.length:=by rw [a40,c9r]
def rZ (l:List Int):List (List D):=l.map fun x=>[.sc (.int .i64 x)]
theorem b0Z (l:List Int):(rZ l).length=l.length:=by unfold rZ;rw [c9r]
theorem c4O (a b:List Int):rZ (a++b)=rZ a++rZ b:=by unfold rZ;rw [c9Y]
abbrev PL:=Tm×List Int
def cP (p:PL):List D:=cM p.1++[.sl 1 (rZ p.2)]
def rP (l:List PL):List (List D):=l.map cP
theorem b9u (l:List PL):(rP l).length=l.length:=by unfold rP;rw [c9r]
theorem c4P {l:List PL} {k:Nat} {p:PL} (h:l[k]?=some p):(rP l)[k]?=some (cP p):=by unfold rP;rw [c9v,h];rfl
theorem a8x (t:Tm):∃d0 d1 d2 d3 d4 d5 d6 d7 d8 d9,cM t=[d0,d1,d2,d3,d4,d5,d6,d7,d8,d9]:=by
 obtain ⟨op,nm,ar,n,h,a,ks⟩:=t
 obtain ⟨x0,x1,x2,x3,hx⟩:=w8 a
 exact ⟨_,_,_,_,_,x0,x1,x2,x3,_,by rw [cM,hx];rfl⟩
abbrev b6E (op:Int) (nm ar:ByteArray) (n:Int) (h:Bool):List V:=[vi .u8 op,vs nm,vs ar,vi .i64 n,vb h,vi .u8 0,vs ⟨#[]⟩,vi .i64 0,.em,.em]
abbrev b3N (op:Int) (nm ar:ByteArray) (n:Int) (h:Bool) (y0 y1 y2 y3:D):List V:=[vi .u8 op,vs nm,vs ar,vi .i64 n,vb h,.d y0,.d y1,.d y2,.d y3,.em]
section
variable {op n a:Int} {nm ar:ByteArray} {h:Bool} {y0 y1 y2 y3:D}
theorem c4Q:n7 92 [.ag (b3N op nm ar n h y0 y1 y2 y3),vi .i64 a] [] (fun res os=>res=[.ag (b3N op nm ar n h y0 y1 y2 y3++[.own 0])]∧os=[.row true 3 [[.sc (.int .i64 a)]]]):=by
 refine N9 Try.func92 rfl ?_;intros;rename_i hA
 iterate 2 (try cbv;repeat ((first|with_reducible apply f8 hA|refine C2 hA false ?_|refine a2x hA true ?_);cbv))
 try simp (maxSteps:=4000000) only [nc] at *
 exact j9 hA [2] (res':=[.ag (b3N op nm ar n h y0 y1 y2 y3++[.own 0])]) ⟨rfl,rfl,rfl,rfl,rfl,rfl,rfl,rfl⟩ ⟨rfl,rfl⟩
theorem c4R:A4 92 [.ag (b3N op nm ar n h y0 y1 y2 y3),vi .i64 a] [] (fun res os=>res=[.ag [vi .u8 op,vs nm,vs ar,vi .i64 n,vb h,.d y0,.d y1,.d y2,.d y3,.d (.sl 0 []),.d (.sl 1 [[.sc (.int .i64 a)]])]]∧os=[]):=by
 refine a1p Try.func92 rfl (by kernel_rfl) (by kernel_rfl) (by kernel_rfl) rfl ?_;intros;rename_i hA K hK
 try cbv;refine gr ?_;try simp only [nc] at *
 exact hK _ rfl
end
theorem A4.args {f:Nat} {vs vs':List V} {os:List O} {Q:List V→List O→Prop} (h:A4 f vs os Q) (hv:∀(I:Nat→Nat→Prop) (w:World) (g:Nat→Value) (us:List Value),j8 I w g us vs'→j8 I w g us vs):A4 f vs' os Q :=
 ⟨h.1,fun I w g args e3=>h.2 I w g args ⟨e3.im,e3.lt,e3.fr,e3.kp,e3.lo,e3.st,e3.obj,e3.dis,e3.out,hv _ _ _ _ e3.tmp,e3.dfr⟩⟩
theorem a3D {α:Type} {l:List α} {k:Nat} {x:α} (h:l[k]?=some x):l.take (k+1)=l.take k++[x]:=by
 obtain ⟨hi,e⟩:=c8S.1 h
 rw [d0m hi,e]
theorem a9W {α β:Type} (f:α→List β) (l:List α) (k:Nat):((l.take k).flatMap f).length≤(l.flatMap f).length:=by
 conv=>rhs;rw [←d0a k l,d1m,c8U]
 omega
theorem b25 {α β:Type} (f:α→List β) (l:List α) (k:Nat) (x:α) (h:l[k]?=some x):(f x).length≤(l.flatMap f).length:=by
 have h1:=a9W f l (k+1)
 rw [a3D h,d1m,c8U,c9q,c9y,c9i] at h1
 omega
def c8h (a:Int) (ks:List PL) (x:Int×List (List D)×List (List D)):Prop:=∃k:Nat,x.1=(k:Int)∧k≤ks.length∧x.2.1=rM ((ks.take k).map fun p=>p.1)∧x.2.2=rZ (a::(ks.take k).flatMap fun p=>p.2)
theorem b9v (op:Int) (nm ar:ByteArray) (n:Int) (h:Bool) (y0 y1 y2 y3:D) (a:Int) (ks:List PL) (hn:ks.length≤1048576) (hf:(ks.flatMap fun p=>p.2).length≤1048576) :
  A4 65 [.ag (b3N op nm ar n h y0 y1 y2 y3),vi .i64 a,.d (.sl 11 (rP ks))] [] (fun res os=>res=[.ag [vi .u8 op,vs nm,vs ar,vi .i64 n,vb h,.d y0,.d y1,.d y2,.d y3,.d (.sl 10 (rM (ks.map fun p=>p.1))),.d (.sl 1 (rZ (a::ks.flatMap fun p=>p.2)))]]∧os=[]):=by
 have hl:=c4Q (op:=op) (nm:=nm) (ar:=ar) (n:=n) (h:=h) (a:=a) (y0:=y0) (y1:=y1) (y2:=y2) (y3:=y3)
 obtain ⟨N,hN⟩:∃N,N=ks.length:=⟨_,rfl⟩
 rw [←hN] at hn
 have hft:=fun k=>a9W (fun p:PL=>p.2) ks k
 have hfo:=fun k q h=>b25 (fun p:PL=>p.2) ks k q h
 obtain ⟨F,hF⟩:∃F,F=(ks.flatMap fun p=>p.2).length:=⟨_,rfl⟩
 rw [←hF] at hf
 simp only [←hF] at hft hfo
 obtain ⟨R0,hK0⟩:∃R0,R0=rP ks:=⟨_,rfl⟩
 rw [←hK0]
 have hlen:R0.length=N:=by rw [hK0,b9u,hN]
 obtain ⟨X,hX⟩:∃X,X=rM (ks.map fun p=>p.1):=⟨_,rfl⟩
 obtain ⟨Y,hY⟩:∃Y,Y=rZ (a::ks.flatMap fun p=>p.2):=⟨_,rfl⟩
 rw [←hX,←hY]
 refine a1p Try.func65 rfl (by kernel_rfl) (by kernel_rfl) (by kernel_rfl) rfl ?_;intro qa qb _ _ _ _ _ qi _ _ _ _ _ _ _ _ _ _ _ _ _ _ va vc _ ve;intros;rename_i hA K hK
 obtain ⟨e1,e2,e3,e4,e5,e6,e7,e8,e9⟩:=m6 hA
 obtain ⟨r1,r2,r3,r4⟩:=C7 hA
 iterate 2 (try cbv;repeat ((first|refine b6s hA 4 9 28 true rfl rfl ?_|with_reducible apply f8 hA|(refine o6 hA [] hl ⟨rfl,rfl,rfl,rfl,rfl,rfl,rfl⟩ ?_;rintro _ _ ⟨rfl,rfl⟩));cbv))
 try simp (maxSteps:=4000000) only [nc] at *
 obtain ⟨inv,hi⟩:∃inv,inv=c8h a ks:=⟨_,rfl⟩
 have hi0:inv (0,[],[[.sc (.int .i64 a)]]):=by rw [hi];exact ⟨0,rfl,c95 _,by rw [List.take_zero,c9O,rM],rfl⟩
 refine o7 hA (γ:=Int×List (List D)×List (List D)) (fun x=>[(12,.jk),(15,vi .i64 x.1)]) (fun x=>[(0,.kl [3,5]),(3,.row true 3 x.2.2),(5,.row true 28 x.2.1)]) inv (fun x=>N - x.1.toNat) (0,[],[[.sc (.int .i64 a)]]) hi0 ?_ ?_
 ·cbv
 ·intro x hinv
  obtain ⟨z,KL,AL⟩:=x
  cbv;refine gn ?_;try simp only [nc] at *
  rw [hi] at hinv
  obtain ⟨k,hz,hk,hKL,hAL⟩:=hinv
  replace hz:z=(k:Int):=hz
  replace hKL:KL=rM ((ks.take k).map fun p=>p.1):=hKL
  replace hAL:AL=rZ (a::(ks.take k).flatMap fun p=>p.2):=hAL
  have hkl:KL.length=k:=by rw [hKL,b3M,c9r,c92];omega
  have hal:AL.length≤1048577:=by rw [hAL,b0Z,c9a];have:=hft k;omega
  have hlt:qi z (va R0)=decide (k<N):=by rw [e7,r1,hlen,hz];exact c9w.2 (by omega)
  by_cases h9:k<N
  ·rw [c9j h9] at hlt
   obtain ⟨q,hq⟩:∃q,ks[k]?=some q:=⟨_,c8T (by omega)⟩
   obtain ⟨d0,d1,d2,d3,d4,d5,d6,d7,d8,d9,hd⟩:=a8x q.1
   have gx:vc R0 z=some [d0,d1,d2,d3,d4,d5,d6,d7,d8,d9,.sl 1 (rZ q.2)]:=by rw [r2,hz,c8Y (by omega),show ((k:Int)).toNat=k by omega,hK0,c4P hq];unfold cP;rw [hd];rfl
   have hz1:qa .i64 (qb z 1)=((k+1:Nat):Int):=by rw [e1,e2,hz,IntWalk.i64_in _ (by omega)];omega
   have hmu:N - (qa .i64 (qb z 1)).toNat<N - z.toNat:=by rw [hz1,hz];omega
   have hin:inv (qa .i64 (qb z 1),KL++[[d0,d1,d2,d3,d4,d5,d6,d7,d8,d9]],AL++rZ q.2):=by
    rw [hi]
    refine ⟨k+1,hz1,by omega,?_,?_⟩
    ·show KL++_=_
     rw [hKL,a40,a40,←hd,a3D hq]
     simp
    ·show AL++_=_
     rw [hAL,←c4O,a3D hq]
     simp
   have hq2:(rZ q.2).length≤1048576:=by rw [b0Z];have:=hfo k q hq;omega
   generalize rZ q.2=Q at *
   have q1:ve KL [[d0,d1,d2,d3,d4,d5,d6,d7,d8,d9]]=KL++[[d0,d1,d2,d3,d4,d5,d6,d7,d8,d9]]:=by rw [r4]
   have q2:ve AL Q=AL++Q:=by rw [r4]
   rw [hlt]
   iterate 2 (try cbv;repeat ((first|with_reducible apply f8 hA|rw [gx]|rw [q1]|rw [q2]|refine C2 hA true ?_|(refine E2 hA (by simp only [c9a,c9n];omega) ?_)|refine E2 hA (by omega) ?_);cbv))
   try simp (maxSteps:=4000000) only [nc] at *
   refine ⟨_,hin,hmu,?_⟩
   cbv
  ·rw [c9d h9] at hlt
   have hk2:ks.take k=ks:=c9J (by omega)
   have hX2:X=KL:=by rw [hX,hKL,hk2]
   have hY2:Y=AL:=by rw [hY,hAL,hk2]
   rw [hX2,hY2] at hK
   rw [hlt]
   try cbv;refine gr ?_;try simp only [nc] at *
   exact hK _ rfl
end
section
abbrev ST:=Int×Int×Int
abbrev eyT (T:List (List D)) (s:ST):List O:=eyZ s.1 s.2.1 T s.2.2
abbrev A7 (f:Nat) (vs:List V) (T:List (List D)) (s:ST) (r:List V) (s1:ST):Prop:=n7 f (.ptr 0 0::vs) (eyT T s) (fun res os=>res=r∧os=eyT T s1)
abbrev cE (x:Nat→D):List D:=[x 0,x 1,x 2,x 3,x 4,x 5,x 6,x 7,x 8,x 9,x 10]
abbrev c4 (x:Nat→D):List D:=[x 0,x 1,x 2,x 3]
theorem A8 (p:PL):∃x,cP p=cE x:=by
 obtain ⟨d0,d1,d2,d3,d4,d5,d6,d7,d8,d9,h⟩:=a8x p.1
 exact ⟨fun i=>match i with|0=>d0|1=>d1|2=>d2|3=>d3|4=>d4|5=>d5|6=>d6|7=>d7|8=>d8|9=>d9|_=>.sl 1 (rZ p.2),by unfold cP;rw [h];rfl⟩
theorem b26 (t:Ty):∃x,cT t=c4 x:=by
 obtain ⟨d0,d1,d2,d3,h⟩:=w8 t
 exact ⟨fun i=>match i with|0=>d0|1=>d1|2=>d2|_=>d3,h⟩
theorem A4.o {f:Nat} {vs:List V} {os:List O} {Q:List V→List O→Prop} (h:A4 f vs os Q):n7 f vs os Q :=
 ⟨h.1,fun I w g args hr=>(h.2 I w g args hr).mono fun e w' ⟨us,res,os2,I',g',e1,⟨e2,_⟩,e3⟩=>⟨us,res,os2,I',g',e1,e2,e3⟩⟩
section
variable {T:List (List D)} {s s1 s2:ST} {L:Int}
theorem c2a (h1:A7 38 [] T s [vb true] s) (hL:L≤200):A7 59 [vi .i64 L] T s [vb false] s:=by
 obtain ⟨_,_,_⟩:=s
 refine N9 Try.func59 rfl ?_;intro _ _ _ _ _ _ _ qi _ _ _ _ _ _ _ _ _ _ _ _ _ _ _ _ _ _ _ _ _ _ _ _ _ _ _ _ _ _ _ _ _ vw;intros;rename_i hA
 obtain ⟨e1,e2,e3,e4,e5,e6,e7,e8,e9⟩:=m6 hA
 have q:qi 200 L=false:=by rw [e7];exact c9d (by omega)
 have q0:=q;have p0:=h1;exact T1
theorem b9w (h1:A7 38 [] T s [vb false] s):A7 59 [vi .i64 L] T s [vb true] s:=by
 obtain ⟨_,_,_⟩:=s
 refine N9 Try.func59 rfl ?_;intro _ _ _ _ _ _ _ _ _ _ _ _ _ _ _ _ _ _ _ _ _ _ _ _ _ _ _ _ _ _ _ _ _ _ _ _ _ _ _ _ _ vw;intros;rename_i hA
 have p0:=h1;exact T1
theorem b9x (h1:A7 38 [] T s [vb true] s) (h2:A7 40 [vi .u8 6] T s [.ag pz0] s1) (h3:A7 38 [] T s1 [vb false] s1) (hL:200<L):A7 59 [vi .i64 L] T s [vb true] s1:=by
 obtain ⟨_,_,_⟩:=s
 obtain ⟨_,_,_⟩:=s1
 unfold pz0 at h2
 refine N9 Try.func59 rfl ?_;intro _ _ _ _ _ _ _ qi _ _ _ _ _ _ _ _ _ _ _ _ _ _ _ _ _ _ _ _ _ _ _ _ _ _ _ _ _ _ _ _ _ vw;intros;rename_i hA
 obtain ⟨e1,e2,e3,e4,e5,e6,e7,e8,e9⟩:=m6 hA
 have q:qi 200 L=true:=by rw [e7];exact c9j (by omega)
 have q0:=q;have p0:=h1;have p1:=h2;have p2:=h3;exact T1
end
end
section
def U8 (ts:List Tok) (p:PE):ST:=(p.2,if p.2=0 then 0 else (l9 ts p.1).at_,(p.1:Int))
theorem c4S (ts:List Tok) (a:Nat):U8 ts (a,0)=(0,0,(a:Int)):=rfl
theorem a8y (ts:List Tok) (a:Nat) (c:Int) (h:c≠0):U8 ts (a,c)=(c,(l9 ts a).at_,(a:Int)):=by unfold U8;rw [c8W h]
def i7 (ts:List Tok) (p:PE):ByteArray×PE:=if p.2=0∧(l9 ts p.1).kind=1 then ((l9 ts p.1).text,(p.1+1,0)) else (N5,C5 5 p)
def r7 (ts:List Tok):List ByteArray→PE→Option ByteArray
 | [],_=>none
 | s::l,p=>if B3 ts s p=true then some s else r7 ts l p
def a1A (ts:List Tok) (l:List ByteArray) (p:PE):PE:=match r7 ts l p with|some _=>(p.1+1,0)|none=>p
def M3 (n:Nat) (p:PE):PE:=if n=0 then C5 6 p else p
abbrev G9 (f:Nat) (vs:List V) (ts:List Tok) (p:PE) (r:List V) (q:PE):Prop:=A7 f vs (H8 ts) (U8 ts p) r (U8 ts q)
section
variable {ts:List Tok} (hl:ts.length≤1048576) {p:PE} (hp:p.1<ts.length)
include hl hp
theorem okP:G9 38 [] ts p [vb (p.2 == 0)] p:=by
 obtain ⟨a,c⟩:=p
 by_cases h:c=0
 ·subst h
  exact (c8f (H8 ts) 0 (a:Int)).o
 ·unfold G9
  rw [a8y ts a c h,show (((a,c):PE).2 == 0)=false from c9f h]
  exact (c8g (H8 ts) c (l9 ts a).at_ (a:Int) h).o
theorem a4c:G9 60 [] ts p [vi .i64 (l9 ts p.1).at_] p:=(c65 hl hp _ _).o
theorem b3O (c:Int) (hc:c≠0):G9 40 [vi .u8 c] ts p [.ag pz0] (C5 c p):=by
 obtain ⟨a,e⟩:=p
 unfold C5
 by_cases h:e=0
 ·subst h
  rw [c8W (fun h=>h rfl)]
  unfold G9
  rw [a8y ts a c hc]
  exact a8u ts (l9 ts a) a (M9 hp) hl c
 ·rw [c8Y h]
  unfold G9
  rw [a8y ts a e h]
  exact a9V (H8 ts) e (l9 ts a).at_ (a:Int) c h
theorem I5 (s:ByteArray):G9 64 [vs s] ts p [] (j0 ts s p):=by
 obtain ⟨a,e⟩:=p
 unfold j0
 by_cases h:e=0
 ·subst h
  rw [c8W (fun h=>h rfl)]
  unfold G9
  by_cases hg:Z7 (l9 ts a) s=true
  ·rw [c8Y hg]
   exact c7Z hl hp hg
  ·rw [c8W hg,a8y ts _ 5 (by decide)]
   exact c8a hl hp (by simpa using hg)
 ·rw [c8Y h]
  unfold G9
  rw [a8y ts a e h]
  exact c8d (H8 ts) s e (l9 ts a).at_ (a:Int) h
theorem a0L:G9 63 [] ts p [vs (i7 ts p).1] (i7 ts p).2:=by
 obtain ⟨a,e⟩:=p
 unfold i7 C5
 by_cases h:e=0
 ·subst h
  unfold G9
  by_cases hg:(l9 ts a).kind=1
  ·rw [c8Y ⟨rfl,hg⟩]
   exact c8b hl hp hg
  ·rw [c8W (fun h=>hg h.2),c8W (fun h=>h rfl),a8y ts _ 5 (by decide)]
   exact c8c hl hp hg
 ·rw [c8W (fun hh=>h hh.1),c8Y h]
  unfold G9
  rw [a8y ts a e h]
  exact c8e (H8 ts) e (l9 ts a).at_ (a:Int) h
end
section
variable {T:List (List D)} {s s1:ST} {x:ByteArray}
theorem b6F (h1:A7 38 [] T s [vb false] s):A7 61 [vs x] T s [vb false] s:=by
 obtain ⟨_,_,_⟩:=s
 refine N9 Try.func61 rfl ?_;intro _ _ _ _ _ _ _ _ _ _ _ _ _ _ _ _ _ _ _ _ _ _ _ _ _ _ _ _ _ _ _ _ _ _ _ _ _ _ _ _ _ vw;intros;rename_i hA
 have p0:=h1;exact T1
theorem b27 {b:Bool} {e q a a1:Int} (h1:A7 38 [] T (e,q,a) [vb true] (e,q,a)) (h2:n7 88 [.ptr 0 0,vs x] [.box [.d (.sl 4 T),vi .i64 a]] (fun res os=>res=[vb b]∧os=[.box [.d (.sl 4 T),vi .i64 a1]])):A7 61 [vs x] T (e,q,a) [vb b] (e,q,a1):=by
 refine N9 Try.func61 rfl ?_;intros;rename_i hA
 iterate 2 (try cbv;repeat ((first|with_reducible apply f8 hA|refine v7 hA [0,1] h1 ?_|refine v7 hA [1] h2 ?_);cbv))
 try simp (maxSteps:=4000000) only [nc] at *
 exact j9 hA [0,1] ⟨rfl,rfl,rfl,rfl,rfl,rfl,rfl,rfl⟩ ⟨rfl,rfl⟩
end
section
variable {ts:List Tok} (hl:ts.length≤1048576) {p:PE} (hp:p.1<ts.length)
include hl hp
theorem Y9 (s:ByteArray):G9 61 [vs s] ts p [vb (B3 ts s p)] (skP ts s p):=by
 have h1:=okP hl hp
 obtain ⟨a,e⟩:=p
 unfold skP B3
 by_cases h:e=0
 ·subst h
  have h2:=b0X ts (l9 ts a) a (M9 hp) hl s
  unfold rdB at h2
  unfold G9 at h1 ⊢
  rw [show (((a,(0:Int)):PE).2 == 0)=true from rfl] at h1 ⊢
  rw [d0N]
  by_cases hg:Z7 (l9 ts a) s=true
  ·rw [c8Y hg] at h2 ⊢
   exact b27 h1 h2
  ·rw [c8W hg] at h2 ⊢
   exact b27 h1 h2
 ·unfold G9 at h1 ⊢
  rw [show (((a,e):PE).2 == 0)=false from c9f h] at h1 ⊢
  rw [d1p,c8W (by decide)]
  exact b6F h1
theorem b1a {n:Nat} {L:Int} (hn:n=0∧200<L∨n≠0∧L≤200):G9 59 [vi .i64 L] ts p [vb (!((M3 n p).2 == 0))] (M3 n p):=by
 have h1:=okP hl hp
 have h2:=b3O hl hp 6 (by decide)
 have h3:=okP hl (p:=C5 6 p) (by rw [(C8 6 (by decide) p).1];exact hp)
 have h6:=(C8 6 (by decide) p).2
 unfold M3
 unfold G9 at h1 h2 h3 ⊢
 by_cases h:p.2=0
 ·rw [show (p.2 == 0)=true by rw [h];rfl] at h1
  rcases hn with ⟨hn,hL⟩|⟨hn,hL⟩
  ·rw [c8Y hn]
   rw [c9f h6] at h3 ⊢
   exact b9x h1 h2 h3 hL
  ·rw [c8W hn,show (p.2 == 0)=true by rw [h];rfl]
   exact c2a h1 hL
 ·rw [c9f h] at h1
  have e:(if n=0 then C5 6 p else p)=p:=by
   split
   ·unfold C5;rw [c8Y h]
   ·rfl
  rw [e,c9f h]
  exact b9w h1
end
def rSt (l:List ByteArray):List (List D):=l.map fun s=>[.sc (.string s)]
end
end Go.Proofs.Ytahpnackkmbmgaa.Vm
end
section
namespace Go.Proofs.Ytahpnackkmbmgaa
open Go.RowKit
set_option maxRecDepth 100000
set_option maxHeartbeats 4000000
section
section
variable {α:Type}
structure Swo (lt:α→α→Bool):Prop where
 irr:∀x,lt x x=false
 tra:∀x y z,lt x y=true→lt y z=true→lt x z=true
 neg:∀x y z,lt x y=false→lt y z=false→lt x z=false
variable {lt:α→α→Bool}
def eqv (lt:α→α→Bool) (x y:α):Bool:=!lt x y && !lt y x
def Srt (lt:α→α→Bool) (l:List α):Prop:=l.Pairwise fun x y=>lt y x=false
def Sta (lt:α→α→Bool) (l m:List α):Prop:=∀x,l.filter (eqv lt x)=m.filter (eqv lt x)
theorem Sta.refl (l:List α):Sta lt l l:=fun _=>rfl
theorem Sta.symm {l m:List α} (h:Sta lt l m):Sta lt m l:=fun x=>(h x).symm
theorem Sta.trans {l m n:List α} (h:Sta lt l m) (k:Sta lt m n):Sta lt l n:=fun x=>(h x).trans (k x)
theorem Sta.append {l m l' m':List α} (h:Sta lt l l') (k:Sta lt m m'):Sta lt (l++m) (l'++m'):=fun x=>by rw [d0T,d0T,h x,k x]
theorem b28 (h:Swo lt) (x:α):eqv lt x x=true:=by unfold eqv;rw [h.irr];rfl
theorem Sta.mem (h:Swo lt) {l m:List α} (s:Sta lt l m) {x:α} (hx:x∈l):x∈m:=by
 have:x∈l.filter (eqv lt x):=d02.2 ⟨hx,b28 h x⟩
 rw [s x] at this
 exact (d02.1 this).1
theorem Sta.swap (h:Swo lt) {u v:List α} (huv:∀x∈u,∀y∈v,lt y x=true):Sta lt (u++v) (v++u):=fun z=>by
 rw [d0T,d0T]
 by_cases hu:u.filter (eqv lt z)=[]
 ·rw [hu];simp
 ·by_cases hv:v.filter (eqv lt z)=[]
  ·rw [hv];simp
  ·exfalso
   obtain ⟨x,hx⟩:=List.exists_mem_of_ne_nil _ hu
   obtain ⟨y,hy⟩:=List.exists_mem_of_ne_nil _ hv
   obtain ⟨hx1,hx2⟩:=d02.1 hx
   obtain ⟨hy1,hy2⟩:=d02.1 hy
   have h1:=huv x hx1 y hy1
   unfold eqv at hx2 hy2
   simp only [c8Z,d0x] at hx2 hy2
   have:=h.neg y z x hy2.2 hx2.1
   rw [h1] at this
   cases this
theorem a8z (h:Swo lt):∀ {l m:List α},Srt lt l→Srt lt m→Sta lt l m→l=m
 | [],m,_,_,s=>by
  cases m with
  | nil=>rfl
  | cons y m=>exact absurd (s.symm.mem h (c8V ..)) (by simp)
 | x::l,[],_,_,s=>absurd (s.mem h (c8V ..)) (by simp)
 | x::l,y::m,hl,hm,s=>by
  have hxm:=s.mem h (c8V (a:=x) (l:=l))
  have hyl:=s.symm.mem h (c8V (a:=y) (l:=m))
  have hlx:∀z∈x::l,lt z x=false:=fun z hz=>by
   rcases c9e.1 hz with rfl|hz
   ·exact h.irr _
   ·exact (c9E.1 hl).1 z hz
  have hmy:∀z∈y::m,lt z y=false:=fun z hz=>by
   rcases c9e.1 hz with rfl|hz
   ·exact h.irr _
   ·exact (c9E.1 hm).1 z hz
  have e1:eqv lt x y=true:=by unfold eqv;rw [hmy x hxm,hlx y hyl];rfl
  have s1:=s x
  rw [d0H,d0H,b28 h x,e1] at s1
  simp only [d0V] at s1
  injection s1 with s1 s2
  subst s1
  congr 1
  refine a8z h (c9E.1 hl).2 (c9E.1 hm).2 fun z=>?_
  have sz:=s z
  rw [d0H,d0H] at sz
  by_cases hz:eqv lt z x=true
  ·rw [c8Y hz,c8Y hz] at sz
   injection sz
  ·rw [c8W hz,c8W hz] at sz
   exact sz
def Z9 (lt:α→α→Bool) (x:α):List α→List α
 | []=>[x]
 | y::l=>if lt x y=true then x::y::l else y::Z9 lt x l
def o8 (lt:α→α→Bool) (l:List α):List α:=l.foldl (fun acc x=>Z9 lt x acc) []
theorem b5v (h:Swo lt) (x:α):∀l:List α,Srt lt l→Sta lt (Z9 lt x l) (l++[x])
 | [],_=>.refl _
 | y::l,hl=>by
  unfold Z9
  by_cases hx:lt x y=true
  ·rw [c8Y hx]
   have:Sta lt ([x]++(y::l)) ((y::l)++[x]):=(Sta.swap h (u:=y::l) (v:=[x]) fun z hz w hw=>by
    simp at hw
    subst hw
    rcases c9e.1 hz with rfl|hz
    ·exact hx
    ·have h1:=(c9E.1 hl).1 z hz
     cases hwz:lt w z
     ·have:=h.neg w z y hwz h1
      rw [hx] at this
      cases this
     ·rfl).symm
   exact this
  ·rw [c8W hx]
   exact Sta.append (.refl [y]) (b5v h x l (c9E.1 hl).2)
theorem b1b (x:α):∀(l:List α) (z:α),z∈Z9 lt x l→z=x∨z∈l
 | [],z,hz=>by simp [Z9] at hz;exact .inl hz
 | y::l,z,hz=>by
  unfold Z9 at hz
  split at hz
  ·rcases c9e.1 hz with h|h
   ·exact .inl h
   ·exact .inr h
  ·rcases c9e.1 hz with h|h
   ·exact .inr (by rw [h];exact c8V ..)
   ·rcases b1b x l z h with h|h
    ·exact .inl h
    ·exact .inr (c8X _ h)
theorem b5w (h:Swo lt) (x:α):∀l:List α,Srt lt l→Srt lt (Z9 lt x l)
 | [],_=>by unfold Z9 Srt;simp
 | y::l,hl=>by
  obtain ⟨h1,h2⟩:=c9E.1 hl
  unfold Z9
  by_cases hx:lt x y=true
  ·rw [c8Y hx]
   refine c9E.2 ⟨fun z hz=>?_,hl⟩
   have hyx:lt y x=false:=by
    cases hyx:lt y x
    ·rfl
    ·have:=h.tra x y x hx hyx
     rw [h.irr] at this
     cases this
   rcases c9e.1 hz with rfl|hz
   ·exact hyx
   ·exact h.neg z y x (h1 z hz) hyx
  ·rw [c8W hx]
   refine c9E.2 ⟨fun z hz=>?_,b5w h x l h2⟩
   rcases b1b x l z hz with rfl|hz
   ·simpa using hx
   ·exact h1 z hz
theorem b1c (h:Swo lt):∀(l acc:List α),Srt lt acc→Srt lt (l.foldl (fun acc x=>Z9 lt x acc) acc)∧Sta lt (l.foldl (fun acc x=>Z9 lt x acc) acc) (acc++l)
 | [],acc,ha=>⟨ha,by rw [c9i];exact .refl _⟩
 | x::l,acc,ha=>by
  obtain ⟨h1,h2⟩:=b1c h l (Z9 lt x acc) (b5w h x acc ha)
  refine ⟨h1,h2.trans ?_⟩
  have:=Sta.append (b5v h x acc ha) (.refl (lt:=lt) l)
  rwa [c90] at this
theorem a0A (h:Swo lt) (l:List α):Srt lt (o8 lt l):=(b1c h l [] List.Pairwise.nil).1
theorem a0B (h:Swo lt) (l:List α):Sta lt (o8 lt l) l:=(b1c h l [] List.Pairwise.nil).2
theorem b5x (h:Swo lt) {l m:List α} (hs:Srt lt m) (ht:Sta lt m l):m=o8 lt l:=a8z h hs (a0A h l) (ht.trans (a0B h l).symm)
theorem E8 {l m:List α}:Srt lt (l++m)↔Srt lt l∧Srt lt m∧∀x∈l,∀y∈m,lt y x=false:=d1h
theorem a80 (h:Swo lt) {x y:α} (hxy:lt x y=true):lt y x=false:=by
 cases hyx:lt y x
 ·rfl
 ·have:=h.tra x y x hxy hyx
  rw [h.irr] at this
  cases this
theorem a3n (h:Swo lt) {x y z:α} (hxy:lt x y=true) (hyz:lt z y=false):lt x z=true:=by
 cases hxz:lt x z
 ·have:=h.neg x z y hxz hyz
  rw [hxy] at this
  cases this
 ·rfl
theorem a3o (h:Swo lt) {x y z:α} (hxy:lt y x=false) (hyz:lt y z=true):lt x z=true:=by
 cases hxz:lt x z
 ·have:=h.neg y x z hxy hxz
  rw [hyz] at this
  cases this
 ·rfl
theorem b1d (h:Swo lt) {x:α} {v1 v2:List α} (hs:Srt lt (v1++v2)) (h1:∀y∈v1,lt y x=true) (h2:∀y∈v2,lt y x=false) :
  Srt lt (v1++(x::v2))∧Sta lt (v1++(x::v2)) (x::(v1++v2)):=by
 obtain ⟨s1,s2,s3⟩:=E8.1 hs
 refine ⟨E8.2 ⟨s1,c9E.2 ⟨h2,s2⟩,fun y hy z hz=>?_⟩,?_⟩
 ·rcases c9e.1 hz with rfl|hz
  ·exact a80 h (h1 y hy)
  ·exact s3 y hy z hz
 ·have:=Sta.append (Sta.swap h (u:=[x]) (v:=v1) fun z hz y hy=>by simp at hz;subst hz;exact h1 y hy) (.refl (lt:=lt) v2)
  simpa using this.symm
theorem a4d (h:Swo lt) {x:α} {u1 u2:List α} (hs:Srt lt (u1++u2)) (h1:∀y∈u1,lt x y=false) (h2:∀y∈u2,lt x y=true) :
  Srt lt (u1++(x::u2))∧Sta lt (u1++(x::u2)) ((u1++u2)++[x]):=by
 obtain ⟨s1,s2,s3⟩:=E8.1 hs
 refine ⟨E8.2 ⟨s1,c9E.2 ⟨fun y hy=>a80 h (h2 y hy),s2⟩,fun y hy z hz=>?_⟩,?_⟩
 ·rcases c9e.1 hz with rfl|hz
  ·exact h1 y hy
  ·exact s3 y hy z hz
 ·have:=Sta.append (.refl (lt:=lt) u1) (Sta.swap h (u:=u2) (v:=[x]) fun z hz y hy=>by simp at hy;subst hy;exact h2 z hz)
  simpa using this.symm
theorem b1e (h:Swo lt) {L1 L2 u v P R:List α} (hl:Srt lt (L1++u)) (hr:Srt lt (v++L2)) (huv:∀x∈u,∀y∈v,lt y x=true) (hL:∀x∈L1,∀y∈L2,lt y x=false)
  (hP:Srt lt P) (sP:Sta lt P (L1++v)) (hR:Srt lt R) (sR:Sta lt R (u++L2)):Srt lt (P++R)∧Sta lt (P++R) ((L1++u)++(v++L2)):=by
 obtain ⟨a1,a2,a3⟩:=E8.1 hl
 obtain ⟨b1,b2,b3⟩:=E8.1 hr
 refine ⟨E8.2 ⟨hP,hR,fun x hx y hy=>?_⟩,?_⟩
 ·have hx':=sP.mem h hx
  have hy':=sR.mem h hy
  rcases c99.1 hx' with hx'|hx' <;> rcases c99.1 hy' with hy'|hy'
  ·exact a3 x hx' y hy'
  ·exact hL x hx' y hy'
  ·exact a80 h (huv y hy' x hx')
  ·exact b3 x hx' y hy'
 ·have s1:=(sP.append sR)
  have s2:Sta lt ((L1++v)++(u++L2)) ((L1++u)++(v++L2)):=by
   have:=Sta.append (Sta.append (.refl (lt:=lt) L1) (Sta.swap h huv).symm) (.refl (lt:=lt) L2)
   simpa using this
  exact s1.trans s2
end
end
end Go.Proofs.Ytahpnackkmbmgaa
end
section
namespace Go.Proofs.Ytahpnackkmbmgaa.Vm
open Go.RowKit
set_option maxRecDepth 100000
set_option maxHeartbeats 4000000
def a2i (fs:List (ByteArray×Ty)) (tail:Ty):Ty:=fs.foldr (fun f r=>.mk 11 f.1 0 [f.2,r]) tail
def a1B:Ty→Prop
 | .mk op _ _ [_,r]=>op=11→a1B r
 | .mk op _ _ _=>op≠11
def A1:Ty→List (ByteArray×Ty)
 | .mk op nm _ [x,r]=>if op=11 then (nm,x)::A1 r else []
 | _=>[]
def a0c:Ty→Ty
 | .mk op nm n [x,r]=>if op=11 then a0c r else .mk op nm n [x,r]
 | t=>t
theorem a81:∀ {t:Ty},t.op≠11→A1 t=[]∧a0c t=t
 | .mk op nm n [],_=>⟨rfl,rfl⟩
 | .mk op nm n [x],_=>⟨rfl,rfl⟩
 | .mk op nm n [x,r],h=>by
  have h':op≠11:=h
  unfold A1 a0c
  rw [c8W h',c8W h']
  exact ⟨rfl,rfl⟩
 | .mk op nm n (x::y::z::l),_=>⟨rfl,rfl⟩
theorem a64:∀ {t:Ty},a1B t→t.op=11→∃a b,t.kids=[a,b]∧a1B b∧A1 t=(t.name,a)::A1 b∧a0c t=a0c b
 | .mk op nm n [],h,h'=>absurd h' h
 | .mk op nm n [x],h,h'=>absurd h' h
 | .mk op nm n [x,r],h,h'=>by
  have e:op=11:=h'
  subst e
  refine ⟨x,r,rfl,h rfl,?_,?_⟩
  ·conv=>lhs;unfold A1
   rw [c8Y rfl];rfl
  ·conv=>lhs;unfold a0c
   rw [c8Y rfl]
 | .mk op nm n (x::y::z::l),h,h'=>absurd h' h
def ltF (a b:ByteArray×Ty):Bool:=Op.bytesLess a.1.toList b.1.toList
theorem b5y {α:Type} {lt:α→α→Bool} (x:α):∀l:List α,(Z9 lt x l).length=l.length+1
 | []=>rfl
 | y::l=>by
  unfold Z9
  split
  ·rfl
  ·simp [b5y x l]
def a3p:Nat→Ty→Ty
 | 0,t=>t
 | m+1,t=>if t.op=11 then a2i ((o8 ltF (A1 t)).map fun f=>(f.1,a3p m f.2)) (a0c t) else .mk t.op t.name t.n (t.kids.map (a3p m))
def C6 (t:Ty):Ty:=a3p t.parts.length t
theorem a1C:∀(n:Nat) (t:Ty),t.parts.length≤n→∀f∈A1 t,f.2.parts.length<t.parts.length:=by
 intro n
 induction n with
 | zero=>intro t h;have:=G1 t;omega
 | succ n ih =>
  intro t h f hf
  obtain ⟨op,nm,k,ks⟩:=t
  match ks,hf with
  | [],hf=>simp [A1] at hf
  | [x],hf=>simp [A1] at hf
  | x::y::z::l,hf=>simp [A1] at hf
  | [x,r],hf =>
   have hk:=Q0 (.mk op nm k [x,r])
   have hx:=hk.2 x (by simp [Ty.kids])
   have hr:=hk.2 r (by simp [Ty.kids])
   unfold A1 at hf
   by_cases h11:op=11
   ·rw [c8Y h11] at hf
    rcases c9e.1 hf with rfl|hf
    ·exact hx
    ·have:=ih r (by omega) f hf
     omega
   ·rw [c8W h11] at hf;simp at hf
theorem b29 {α:Type} {lt:α→α→Bool}:∀(l acc:List α) (z:α),z∈l.foldl (fun acc x=>Z9 lt x acc) acc→z∈acc∨z∈l
 | [],acc,z,h=>.inl h
 | x::l,acc,z,h=>by
  rcases b29 l (Z9 lt x acc) z h with h|h
  ·rcases b1b x acc z h with rfl|h
   ·exact .inr (c8V ..)
   ·exact .inl h
  ·exact .inr (c8X _ h)
theorem a0k {α:Type} {lt:α→α→Bool} {l:List α} {z:α} (h:z∈o8 lt l):z∈l:=by
 rcases b29 l [] z h with h|h
 ·simp at h
 ·exact h
theorem a82:∀(n m:Nat) (t:Ty),t.parts.length≤n→t.parts.length≤m→a3p n t=a3p m t:=by
 intro n
 induction n with
 | zero=>intro m t h;have:=G1 t;omega
 | succ n ih =>
  intro m t h h'
  obtain ⟨m,rfl⟩:∃k,m=k+1:=⟨m - 1,by have:=G1 t;omega⟩
  unfold a3p
  by_cases h11:t.op=11
  ·rw [c8Y h11,c8Y h11]
   congr 1
   apply d0i
   intro f hf
   have:=a1C _ t (c9c _) f (a0k hf)
   rw [ih m f.2 (by omega) (by omega)]
  ·rw [c8W h11,c8W h11]
   congr 1
   apply d0i
   intro x hx
   have:=(Q0 t).2 x hx
   exact ih m x (by omega) (by omega)
theorem a9X {t:Ty} (h:t.op=11):C6 t=a2i ((o8 ltF (A1 t)).map fun f=>(f.1,C6 f.2)) (a0c t):=by
 unfold C6
 obtain ⟨m,hm⟩:∃m,t.parts.length=m+1:=⟨t.parts.length - 1,by have:=G1 t;omega⟩
 rw [hm]
 conv=>lhs;unfold a3p
 rw [c8Y h]
 congr 1
 apply d0i
 intro f hf
 have:=a1C _ t (c9c _) f (a0k hf)
 rw [a82 m f.2.parts.length f.2 (by omega) (c9c _)]
theorem a83 {t:Ty} (h:t.op≠11):C6 t=.mk t.op t.name t.n (t.kids.map C6):=by
 unfold C6
 obtain ⟨m,hm⟩:∃m,t.parts.length=m+1:=⟨t.parts.length - 1,by have:=G1 t;omega⟩
 rw [hm]
 conv=>lhs;unfold a3p
 rw [c8W h]
 congr 1
 apply d0i
 intro x hx
 have:=(Q0 t).2 x hx
 exact a82 m x.parts.length x (by omega) (c9c _)
theorem a84:∀(n:Nat) (t:Ty),t.parts.length≤n→∀f∈A1 t,f.2∈t.parts:=by
 intro n
 induction n with
 | zero=>intro t h;have:=G1 t;omega
 | succ n ih =>
  intro t h f hf
  obtain ⟨op,nm,k,ks⟩:=t
  match ks,hf with
  | [],hf=>simp [A1] at hf
  | [x],hf=>simp [A1] at hf
  | x::y::z::l,hf=>simp [A1] at hf
  | [x,r],hf =>
   have hk:=Q0 (.mk op nm k [x,r])
   have hr:=hk.2 r (by simp [Ty.kids])
   unfold A1 at hf
   by_cases h11:op=11
   ·rw [c8Y h11] at hf
    rw [A9]
    simp only [Ty.kids,c9q,c9y,c9i]
    rcases c9e.1 hf with rfl|hf
    ·refine c8X _ (d0t _ ?_)
     rw [Y8];exact c8V ..
    ·exact c8X _ (c9X _ (ih r (by omega) f hf))
   ·rw [c8W h11] at hf;simp at hf
theorem a65 {t x y:Ty}:y∈x.parts→x∈t.parts→y∈t.parts:=by
 intro hy
 induction t using Ty.ind with
 | h t ih =>
  intro hx
  rw [A9] at hx ⊢
  rcases c9e.1 hx with rfl|hx
  ·rwa [A9] at hy
  ·obtain ⟨k,hk,hx⟩:=c9K.1 hx
   exact c8X _ (c9K.2 ⟨k,hk,ih k hk hx⟩)
theorem b2A {α:Type} {lt:α→α→Bool}:∀(l acc:List α),(l.foldl (fun acc x=>Z9 lt x acc) acc).length=acc.length+l.length
 | [],acc=>rfl
 | x::l,acc=>by
  rw [d0A,b2A l]
  simp only [b5y,c9a]
  omega
theorem a6g {α:Type} {lt:α→α→Bool} (l:List α):(o8 lt l).length=l.length:=by
 unfold o8
 rw [b2A]
 simp
def c4B (op n:Int):Bool:=decide (0≤n) && (decide (op=7∨op=10) || decide (n=0))
theorem a85 {iw:ByteArray→Bool} {t:Ty} {s:Int} (h:N6 t.op=none):F6 iw t s=false:=by
 rw [a8v];unfold a5n;rw [h];rfl
def c3B (iw:ByteArray→Bool) (op:Int) (nm:ByteArray):Bool:=if op=11 then iw nm else decide (nm.toList=[])
theorem a0l {iw:ByteArray→Bool} {op:Int} {nm:ByteArray} {n:Int} {kids:List Ty} {s:Int} {k:List Int} (h:N6 op=some k) :
  F6 iw (.mk op nm n kids) s=(((decide (8≤op) == (s == 114)) && (decide (kids.length=k.length) && (c3B iw op nm && c4B op n))) && F7 iw kids k):=by
 rw [a8v];unfold a5n c4B c3B;simp only [Ty.op,Ty.name,Ty.n,Ty.kids];rw [h];rfl
theorem b2B {α:Type} {lt:α→α→Bool} (x:α):∀l:List α,(Z9 lt x l).Perm (x::l)
 | []=>.refl _
 | y::l=>by
  unfold Z9
  split
  ·exact .refl _
  ·exact ((b2B x l).cons y).trans (.swap x y l)
theorem a9Y {α:Type} {lt:α→α→Bool}:∀(l acc:List α),(l.foldl (fun acc x=>Z9 lt x acc) acc).Perm (acc++l)
 | [],acc=>by simp
 | x::l,acc=>by
  rw [d0A]
  refine (a9Y l _).trans ?_
  have h1:(Z9 lt x acc++l).Perm ((x::acc)++l):=(b2B x acc).append_right l
  exact h1.trans List.perm_middle.symm
theorem b3P {α:Type} (lt:α→α→Bool) (l:List α):(o8 lt l).Perm l:=by
 have:=a9Y (lt:=lt) l []
 simpa [o8] using this
def v8 (fs:List (ByteArray×Ty)):Nat:=(fs.map fun f=>1+f.2.parts.length).sum
theorem a9m {a b:List (ByteArray×Ty)} (h:a.Perm b):v8 a=v8 b:=(h.map _).sum_nat
theorem a41 (tl:Ty):∀fs:List (ByteArray×Ty),(a2i fs tl).parts.length=v8 fs+tl.parts.length
 | []=>by simp [a2i,v8]
 | f::fs=>by
  have ih:=a41 tl fs
  unfold a2i at ih ⊢
  rw [List.foldr_cons,A9]
  simp only [Ty.kids,c9a,c9q,c9y,c9i,c8U,ih,v8,c9m,d1g]
  omega
theorem a66:∀(n:Nat) (t:Ty),t.parts.length≤n→a1B t→t.parts.length=v8 (A1 t)+(a0c t).parts.length:=by
 intro n
 induction n with
 | zero=>intro t h;have:=G1 t;omega
 | succ n ih =>
  intro t hn hsp
  by_cases h11:t.op=11
  ·obtain ⟨a,b,hk,hsb,hf,ht⟩:=a64 hsp h11
   have hb:=(Q0 t).2 b (by rw [hk];simp)
   have:=ih b (by omega) hsb
   rw [hf,ht,A9,hk]
   simp only [c9a,c9q,c9y,c9i,c8U,this,v8,c9m,d1g]
   omega
  ·obtain ⟨h1,h2⟩:=a81 h11
   rw [h1,h2]
   simp [v8]
theorem a1K {α:Type} {f g:α→Nat}:∀ {l:List α},(∀x∈l,f x=g x)→(l.map f).sum=(l.map g).sum
 | [],_=>rfl
 | x::l,h=>by
  rw [c9m,c9m,d1g,d1g,h x (c8V ..),a1K fun y hy=>h y (c8X _ hy)]
theorem a9Z:∀(n:Nat) (t:Ty),t.parts.length≤n→(∀x∈t.parts,a1B x)→(C6 t).parts.length=t.parts.length:=by
 intro n
 induction n with
 | zero=>intro t h;have:=G1 t;omega
 | succ n ih =>
  intro t hn hsp
  have ht:a1B t:=hsp t (by rw [Y8];exact c8V ..)
  by_cases h11:t.op=11
  ·rw [a9X h11,a41,a66 _ t (c9c _) ht]
   congr 1
   rw [←a9m (b3P ltF (A1 t))]
   unfold v8
   rw [d0W]
   refine a1K fun f hf=>?_
   have h1:=a1C _ t (c9c _) f (a0k hf)
   have h2:=a84 _ t (c9c _) f (a0k hf)
   simp only [Function.comp]
   rw [ih f.2 (by omega) fun x hx=>hsp x (a65 hx h2)]
  ·rw [a83 h11,A9,A9 t]
   simp only [Ty.kids,c9a,List.length_flatMap,d0W]
   congr 1
   refine a1K fun x hx=>?_
   have h1:=(Q0 t).2 x hx
   simp only [Function.comp]
   exact ih x (by omega) fun y hy=>hsp y (by rw [A9];exact c8X _ (c9K.2 ⟨x,hx,hy⟩))
def B9 (t:Ty):Prop:=∀x∈t.parts,a1B x
theorem B9.self {t:Ty} (h:B9 t):a1B t:=h t (by rw [Y8];exact c8V ..)
theorem B9.mk {t:Ty} (h:a1B t) (hk:∀x∈t.kids,B9 x):B9 t:=fun y hy=>by
 rw [A9] at hy
 rcases c9e.1 hy with rfl|hy
 ·exact h
 ·obtain ⟨x,hx,hy⟩:=c9K.1 hy
  exact hk x hx y hy
theorem a42 (f:ByteArray×Ty) (fs:List (ByteArray×Ty)) (tl:Ty):a2i (f::fs) tl=.mk 11 f.1 0 [f.2,a2i fs tl]:=rfl
theorem a43 {tl:Ty} (ht:B9 tl):∀ {fs:List (ByteArray×Ty)},(∀f∈fs,B9 f.2)→B9 (a2i fs tl)
 | [],_=>ht
 | f::fs,h=>by
  have ih:=a43 ht (fs:=fs) fun g hg=>h g (c8X _ hg)
  rw [a42]
  refine .mk (fun _=>ih.self) fun x hx=>?_
  simp only [Ty.kids,c9e,d0J,or_false] at hx
  rcases hx with rfl|rfl
  ·exact h f (c8V ..)
  ·exact ih
theorem a6h {t:Ty} (h:t.op≠11):a1B t:=by
 obtain ⟨op,nm,n,ks⟩:=t
 match ks with
 | []=>exact h
 | [a]=>exact h
 | [a,b]=>exact fun e=>absurd e h
 | a::b::c::l=>exact h
theorem a21 (iw:ByteArray→Bool):∀(ts:List Ty) (ks:List Int),F7 iw ts ks=true→∀x∈ts,∃c,F6 iw x c=true
 | [],_,_,x,hx=>by simp at hx
 | t::ts,[],h,x,hx=>by rw [F7] at h;cases h
 | t::ts,k::ks,h,x,hx=>by
  rw [F7,c8Z] at h
  rcases c9e.1 hx with rfl|hx
  ·exact ⟨k,h.1⟩
  ·exact a21 iw ts ks h.2 x hx
theorem b2C (iw:ByteArray→Bool) (t:Ty):∀s,F6 iw t s=true→∀x∈t.parts,a1B x:=by
 induction t using Ty.ind with
 | h t ih =>
  intro s hs x hx
  cases hko:N6 t.op with
  | none=>rw [a85 hko] at hs;cases hs
  | some k =>
   obtain ⟨op,nm,n,kids⟩:=t
   rw [a0l (k:=k) (by exact hko)] at hs
   simp only [c8Z,d0p] at hs
   obtain ⟨⟨_,hlen,_⟩,hss⟩:=hs
   rw [A9] at hx
   rcases c9e.1 hx with rfl|hx
   ·simp only [Ty.op] at hko
    by_cases h11:op=11
    ·subst h11
     have hk:k.length=2:=by
      have:N6 11=some [116,114]:=by decide
      rw [this] at hko
      injection hko with hko
      rw [←hko];rfl
     rw [hk] at hlen
     match kids,hlen,ih,hss with
     | [a,b],_,ih,hss =>
      obtain ⟨c,hc⟩:=a21 iw _ _ hss b (by simp)
      exact fun _=>ih b (by simp [Ty.kids]) c hc b (by rw [Y8];exact c8V ..)
    ·match kids with
     | []=>exact h11
     | [a]=>exact h11
     | [a,b]=>exact fun h=>absurd h h11
     | a::b::c::l=>exact h11
   ·obtain ⟨y,hy,hx⟩:=c9K.1 hx
    obtain ⟨c,hc⟩:=a21 iw _ _ hss y hy
    exact ih y hy c hc x hx


section
def a0C {α:Type} (a b:Nat):Nat→List α→List α
 | 0,l=>l
 | k+1,l=>match (a0C a b k l)[a+k]?,(a0C a b k l)[b+k]? with
  | some x,some y=>((a0C a b k l).set (a+k) y).set (b+k) x
  | _,_=>a0C a b k l
theorem a3E {α:Type} (a b:Nat):∀(k:Nat) (l:List α),(a0C a b k l).length=l.length
 | 0,l=>rfl
 | k+1,l=>by
  unfold a0C
  split
  ·rw [c9u,c9u,a3E]
  ·exact a3E a b k l
theorem b0a {α:Type} (a b:Nat):∀(k:Nat) (l:List α),a+k≤b→b+k≤l.length→∀i,(a0C a b k l)[i]?=if a≤i∧i<a+k then l[i - a+b]? else if b≤i∧i<b+k then l[i - b+a]? else l[i]?
 | 0,l,_,_,i=>by
  rw [c8W (by omega),c8W (by omega)]
  rfl
 | k+1,l,h1,h2,i=>by
  have ih:=b0a a b k l (by omega) (by omega)
  have ea:=ih (a+k)
  have eb:=ih (b+k)
  rw [c8W (by omega),c8W (by omega)] at ea eb
  have hla:a+k<l.length:=by omega
  have hlb:b+k<l.length:=by omega
  rw [c8T hla] at ea
  rw [c8T hlb] at eb
  unfold a0C
  rw [ea,eb]
  simp only
  have hsl:=a3E a b k l
  by_cases e1:i=b+k
  ·subst e1
   rw [c93 (by rw [c9u,hsl];omega),c8W (by omega),c8Y (by omega),show b+k - b+a=a+k by omega,c8T hla]
  ·rw [c9p (by omega)]
   by_cases e2:i=a+k
   ·subst e2
    rw [c93 (by rw [hsl];omega),c8Y (by omega),show a+k - a+b=b+k by omega,c8T hlb]
   ·rw [c9p (by omega),ih i]
    by_cases c1:a≤i∧i<a+k
    ·rw [c8Y c1,c8Y (by omega)]
    ·rw [c8W c1]
     by_cases c2:b≤i∧i<b+k
     ·rw [c8Y c2,c8W (by omega),c8Y (by omega)]
     ·rw [c8W c2,c8W (by omega),c8W (by omega)]
theorem a3q {α:Type} (P X M Y S:List α) (h:X.length=Y.length):a0C P.length (P.length+X.length+M.length) X.length (P++(X++(M++(Y++S))))=P++(Y++(M++(X++S))):=by
 apply d0j
 intro i
 rw [b0a _ _ _ _ (by omega) (by simp only [c8U];omega)]
 simp only [List.getElem?_append]
 repeat' split
 all_goals first
  | rfl
  | omega
  | (congr 1;omega)
theorem a1q {α:Type} {l:List α} {n:Nat} (h:n≤l.length):∃a b,l=a++b∧a.length=n:=⟨l.take n,l.drop n,(d0a n l).symm,by simp;omega⟩
theorem a86 {α:Type} {xs:List α} {k:Nat} {y:α} (h:xs[k]?=some y):xs.take (k+1)=xs.take k++[y]:=by
 obtain ⟨hi,e⟩:=c8S.1 h
 rw [d0m hi,e]
theorem b0b:∀l:List UInt8,Op.bytesLess l l=false
 | []=>rfl
 | a::l=>by simp [Op.bytesLess,b0b l]
theorem b0c:∀x y z:List UInt8,Op.bytesLess x y=true→Op.bytesLess y z=true→Op.bytesLess x z=true
 | x,[],_,h,_=>by cases x <;> simp [Op.bytesLess] at h
 | _,_::_,[],_,h=>by simp [Op.bytesLess] at h
 | [],_::_,_::_,_,_=>by simp [Op.bytesLess]
 | a::x,b::y,c::z,h1,h2=>by
  simp only [Op.bytesLess,c96,d0p,c8Z,d0c] at h1 h2 ⊢
  rcases h1 with h1|⟨rfl,h1⟩
  ·rcases h2 with h2|⟨rfl,h2⟩
   ·exact .inl (UInt8.lt_trans h1 h2)
   ·exact .inl h1
  ·rcases h2 with h2|⟨rfl,h2⟩
   ·exact .inl h2
   ·exact .inr ⟨rfl,b0c x y z h1 h2⟩
theorem b0d:∀x y z:List UInt8,Op.bytesLess x y=false→Op.bytesLess y z=false→Op.bytesLess x z=false
 | x,_,[],_,_=>by cases x <;> simp [Op.bytesLess]
 | _,[],_::_,_,h=>by simp [Op.bytesLess] at h
 | [],_::_,_,h,_=>by simp [Op.bytesLess] at h
 | a::x,b::y,c::z,h1,h2=>by
  simp only [Op.bytesLess,d1i,decide_eq_false_iff_not,Bool.and_eq_false_iff,c94,ne_eq] at h1 h2 ⊢
  obtain ⟨h1,h1'⟩:=h1
  obtain ⟨h2,h2'⟩:=h2
  have h3:¬a<c:=fun h=>by
   rw [d1b] at h h1 h2
   omega
  refine ⟨h3,?_⟩
  by_cases hac:a=c
  ·subst hac
   right
   have hab:a=b:=by
    rw [d1b] at h1 h2
    exact d1l.1 (by omega)
   subst hab
   exact b0d x y z (by simpa using h1') (by simpa using h2')
  ·exact .inl hac
abbrev Rw:=List D
def c66:Rw→List UInt8
 | .sc (.string a)::_=>a.toList
 | _=>[]
def C3 (x y:Rw):Bool:=Op.bytesLess (c66 x) (c66 y)
theorem N0:Swo C3:=⟨fun _=>b0b _,fun _ _ _=>b0c _ _ _,fun _ _ _=>b0d _ _ _⟩
theorem b2D {α β:Type} {f:α→β} {lt:α→α→Bool} {lt2:β→β→Bool} (h:∀x y,lt2 (f x) (f y)=lt x y) (x:α):∀l:List α,Z9 lt2 (f x) (l.map f)=(Z9 lt x l).map f
 | []=>rfl
 | y::l=>by
  rw [c9m,Z9,Z9,h]
  split
  ·rfl
  ·rw [c9m,b2D h x l]
theorem b6G {α β:Type} {f:α→β} {lt:α→α→Bool} {lt2:β→β→Bool} (h:∀x y,lt2 (f x) (f y)=lt x y) (l:List α):o8 lt2 (l.map f)=(o8 lt l).map f:=by
 have key:∀(l acc:List α),(l.map f).foldl (fun acc x=>Z9 lt2 x acc) (acc.map f)=(l.foldl (fun acc x=>Z9 lt x acc) acc).map f:=by
  intro l
  induction l with
  | nil=>intro acc;rfl
  | cons x l ih=>intro acc;rw [c9m,d0A,d0A,b2D h,ih]
 exact key l []
theorem c4U {x:Rw} {L:List Rw} {y:Rw} (hs:Srt C3 (L++[y])) (h:C3 x y=false):∀z∈L++[y],C3 x z=false:=by
 intro z hz
 rcases c99.1 hz with hz|hz
 ·exact N0.neg x y z h ((E8.1 hs).2.2 z hz y (by simp))
 ·simp at hz;subst hz;exact h
theorem b2E {α:Type} (A R:List α) (x y:α) {k:Nat} (h:A.length=k):((A++y::x::R).set (k+1) y).set k x=A++x::y::R:=by
 subst h
 rw [d01 _ _ (by omega),show A.length+1 - A.length=1 by omega,d01 _ _ (c9c _),d0h]
 rfl
theorem a7f {V:List Rw} {h:Nat} {y:Rw} (hs:Srt C3 V) (hy:V[h]?=some y):(∀z∈V.take h,C3 y z=false)∧∀z∈V.drop (h+1),C3 z y=false:=by
 obtain ⟨hh,e⟩:=c8S.1 hy
 have hsp:V=V.take h++y::V.drop (h+1):=by
  conv=>lhs;rw [←d0a h V,c98 hh,e]
 rw [hsp] at hs
 obtain ⟨_,h2,h3⟩:=E8.1 hs
 exact ⟨fun z hz=>h3 z hz y (c8V ..),fun z hz=>(c9E.1 h2).1 z hz⟩
theorem b6H {V:List Rw} {h:Nat} {y u:Rw} (hs:Srt C3 V) (hy:V[h]?=some y) (hl:C3 y u=true):∀z∈V.take (h+1),C3 z u=true:=by
 intro z hz
 rw [a86 hy] at hz
 rcases c99.1 hz with hz|hz
 ·exact a3o N0 ((a7f hs hy).1 z hz) hl
 ·simp at hz;subst hz;exact hl
theorem b2F {V:List Rw} {h:Nat} {y u:Rw} (hs:Srt C3 V) (hy:V[h]?=some y) (hl:C3 y u=false):∀z∈V.drop h,C3 z u=false:=by
 intro z hz
 obtain ⟨hh,e⟩:=c8S.1 hy
 rw [c98 hh,e] at hz
 rcases c9e.1 hz with rfl|hz
 ·exact hl
 ·exact N0.neg z y u ((a7f hs hy).2 z hz) hl
theorem b6I {α:Type} (A R:List α) (x y:α) {k:Nat} (h:A.length=k):((A++x::y::R).set k y).set (k+1) x=A++y::x::R:=by
 subst h
 rw [d01 _ _ (c9c _),d0h,List.set_cons_zero,d01 _ _ (by omega),show A.length+1 - A.length=1 by omega]
 rfl
theorem b3Q {V:List Rw} {h:Nat} {y u:Rw} (hs:Srt C3 V) (hy:V[h]?=some y) (hl:C3 u y=false):∀z∈V.take (h+1),C3 u z=false:=by
 intro z hz
 rw [a86 hy] at hz
 rcases c99.1 hz with hz|hz
 ·exact N0.neg u y z hl ((a7f hs hy).1 z hz)
 ·simp at hz;subst hz;exact hl
theorem b1f {V:List Rw} {h:Nat} {y u:Rw} (hs:Srt C3 V) (hy:V[h]?=some y) (hl:C3 u y=true):∀z∈V.drop h,C3 u z=true:=by
 intro z hz
 obtain ⟨hh,e⟩:=c8S.1 hy
 rw [c98 hh,e] at hz
 rcases c9e.1 hz with rfl|hz
 ·exact hl
 ·exact a3n N0 hl ((a7f hs hy).2 z hz)
theorem a3r {l:List Rw} (h:Srt C3 l) {i j:Nat} {x y:Rw} (hij:i≤j) (hx:l[i]?=some x) (hy:l[j]?=some y):C3 y x=false:=by
 rcases c9N i j with hlt|hge
 ·obtain ⟨hi,ei⟩:=c8S.1 hx
  obtain ⟨hj,ej⟩:=c8S.1 hy
  have:=List.pairwise_iff_getElem.1 h i j hi hj hlt
  rw [ei,ej] at this
  exact this
 ·obtain rfl:i=j:=by omega
  rw [hx] at hy
  injection hy with hy
  subst hy
  exact N0.irr x
def a44 (a m b mid s0 r0:Nat):Prop:=(m≤mid∧s0=a∧r0=m)∨(mid<m∧s0+b=mid+m∧r0=mid)
def b9z (U V:List Rw) (a m p s0 s:Nat):Prop:=∀c x y,s0≤c→c<s→U[c - a]?=some x→V[p - c - m]?=some y→C3 y x=false
def b2G (U V:List Rw) (a m p r r0:Nat):Prop:=∀c x y,r≤c→c<r0→U[c - a]?=some x→V[p - c - m]?=some y→C3 y x=true
section
variable {U V:List Rw} {a m b mid p s0 r0:Nat}
theorem I6 (hw:a44 a m b mid s0 r0) (hmid:mid=(a+b) / 2) (ham:a<m) (hmb:m<b) {s:Nat} (h1:s0≤s) (h2:s≤r0):a≤s∧s≤m∧s≤mid∧m≤mid+m - s∧mid+m - s≤b∧mid≤mid+m - s:=by
 rcases hw with ⟨h,rfl,rfl⟩|⟨h,h3,rfl⟩ <;> omega
theorem c2b (hU:Srt C3 U) (hV:Srt C3 V) (hw:a44 a m b mid s0 r0) (hmid:mid=(a+b) / 2) (ham:a<m) (hmb:m<b) (hp:p+1=mid+m) {c:Nat} {x y:Rw} (hc0:s0≤c) (hc:c<r0) (hx:U[c - a]?=some x) (hy:V[p - c - m]?=some y) (hl:C3 y x=false) :
  b9z U V a m p s0 (c+1):=by
 intro d x' y' hd hdc hx' hy'
 have b1:=I6 hw hmid ham hmb hc0 (d0I hc)
 have b2:=I6 hw hmid ham hmb hd (by omega)
 have h1:=a3r hU (show d - a≤c - a by omega) hx' hx
 have h2:=a3r hV (show p - c - m≤p - d - m by omega) hy hy'
 exact N0.neg _ _ _ (N0.neg _ _ _ h2 hl) h1
theorem b3R (hU:Srt C3 U) (hV:Srt C3 V) (hw:a44 a m b mid s0 r0) (hmid:mid=(a+b) / 2) (ham:a<m) (hmb:m<b) (hp:p+1=mid+m) {c:Nat} {x y:Rw} (hc0:s0≤c) (hc:c<r0) (hx:U[c - a]?=some x) (hy:V[p - c - m]?=some y) (hl:C3 y x=true) :
  b2G U V a m p c r0:=by
 intro d x' y' hd hdr hx' hy'
 have b1:=I6 hw hmid ham hmb hc0 (d0I hc)
 have h1:=a3r hU (show c - a≤d - a by omega) hx hx'
 have h2:=a3r hV (show p - d - m≤p - c - m by omega) hy' hy
 exact a3n N0 (a3o N0 h2 hl) h1
theorem c4V (hU:Srt C3 U) (hV:Srt C3 V) (hUl:U.length=m - a) (hVl:V.length=b - m) (hw:a44 a m b mid s0 r0) (hmid:mid=(a+b) / 2) (ham:a<m) (hmb:m<b) (hp:p+1=mid+m) {s:Nat} (h1:s0≤s) (h2:s≤r0) (hlo:b9z U V a m p s0 s) (hhi:b2G U V a m p s r0) :
  (∀x∈U.drop (s - a),∀y∈V.take (mid+m - s - m),C3 y x=true)∧∀x∈U.take (s - a),∀y∈V.drop (mid+m - s - m),C3 y x=false:=by
 have b0:=I6 hw hmid ham hmb h1 h2
 constructor
 ·intro x hx y hy
  obtain ⟨i,hi⟩:=c9A.1 hx
  obtain ⟨j,hj⟩:=c9A.1 hy
  rw [c9x] at hi
  have hj2:j<mid+m - s - m∧V[j]?=some y:=by
   rw [c91] at hj
   split at hj
   ·exact ⟨by omega,hj⟩
   ·cases hj
  have hiu:s - a+i<U.length:=(c8S.1 hi).1
  by_cases hs:s<r0
  ·obtain ⟨x0,hx0⟩:∃x0,U[s - a]?=some x0:=⟨_,c8T (by omega)⟩
   obtain ⟨y0,hy0⟩:∃y0,V[p - s - m]?=some y0:=⟨_,c8T (by omega)⟩
   have h:=hhi s x0 y0 (c9c _) hs hx0 hy0
   exact a3n N0 (a3o N0 (a3r hV (show j≤p - s - m by omega) hj2.2 hy0) h) (a3r hU (show s - a≤s - a+i by omega) hx0 hi)
  ·rcases hw with ⟨h,rfl,rfl⟩|⟨h,h3,rfl⟩ <;> omega
 ·intro x hx y hy
  obtain ⟨i,hi⟩:=c9A.1 hx
  obtain ⟨j,hj⟩:=c9A.1 hy
  rw [c9x] at hj
  have hi2:i<s - a∧U[i]?=some x:=by
   rw [c91] at hi
   split at hi
   ·exact ⟨by omega,hi⟩
   ·cases hi
  have hjv:mid+m - s - m+j<V.length:=(c8S.1 hj).1
  by_cases hs:s0<s
  ·have b1:=I6 hw hmid ham hmb (s:=s - 1) (by omega) (by omega)
   obtain ⟨x0,hx0⟩:∃x0,U[s - 1 - a]?=some x0:=⟨_,c8T (by omega)⟩
   obtain ⟨y0,hy0⟩:∃y0,V[p - (s - 1) - m]?=some y0:=⟨_,c8T (by omega)⟩
   have h:=hlo (s - 1) x0 y0 (by omega) (by omega) hx0 hy0
   exact N0.neg _ _ _ (N0.neg _ _ _ (a3r hV (show p - (s - 1) - m≤mid+m - s - m+j by omega) hy0 hj) h) (a3r hU (show i≤s - 1 - a by omega) hi2.2 hx0)
  ·rcases hw with ⟨h,rfl,rfl⟩|⟨h,h3,rfl⟩ <;> omega
end
def a3s (bs:Nat) (bl:List (List Rw)):Prop:=∀x∈bl,x.length=bs∧Srt C3 x
theorem a87 {bs:Nat}:∀ {bl:List (List Rw)},a3s bs bl→bl.flatten.length=bl.length * bs
 | [],_=>by simp
 | x::bl,h=>by
  rw [c9F,c8U,(h x (c8V ..)).1,a87 fun y hy=>h y (c8X _ hy),c9a,c9M]
  omega
theorem a3s.snoc {bs:Nat} {bl:List (List Rw)} {x:List Rw} (h:a3s bs bl) (hx:x.length=bs∧Srt C3 x):a3s bs (bl++[x]):=fun y hy=>by
 rcases c99.1 hy with hy|hy
 ·exact h y hy
 ·simp at hy;subst hy;exact hx
end
theorem c67 {x:Rw} (h:x.length=5):∃x0 x1 x2 x3 x4,x=[x0,x1,x2,x3,x4]:=by
 match x,h with
 | [x0,x1,x2,x3,x4],_=>exact ⟨x0,x1,x2,x3,x4,rfl⟩
theorem a1e {α:Type} (a b:Nat):∀(k:Nat) (l:List α),∀x∈a0C a b k l,x∈l
 | 0,l,x,h=>h
 | k+1,l,x,h=>by
  unfold a0C at h
  split at h
  ·rename_i y z h1 h2
   rcases c9Q h with h|rfl
   ·rcases c9Q h with h|rfl
    ·exact a1e a b k l x h
    ·exact a1e a b k l _ (c9h h2)
   ·exact a1e a b k l _ (c9h h1)
  ·exact a1e a b k l x h
theorem b3S (rows:List Rw) (h5:∀x∈rows,x.length=5) (a b k fid:Nat) (hN:rows.length≤1048576) (hab:a+k≤b) (hb:b+k≤rows.length) :
  A4 162 [.own 0,vi .i64 a,vi .i64 b,vi .i64 k,.cl fid []] [.row false 163 rows] (fun res os=>res=[]∧os=[.row false 163 (a0C a b k rows)]):=by
 obtain ⟨za,hza⟩:∃z:Int,z=(a:Int):=⟨_,rfl⟩
 obtain ⟨zb,hzb⟩:∃z:Int,z=(b:Int):=⟨_,rfl⟩
 obtain ⟨zk,hzk⟩:∃z:Int,z=(k:Int):=⟨_,rfl⟩
 rw [←hza,←hzb,←hzk]
 obtain ⟨S,hS⟩:∃S,S=a0C a b k rows:=⟨_,rfl⟩
 rw [←hS]
 refine a06 Try.func162 rfl (by kernel_rfl) (by kernel_rfl) (by kernel_rfl) rfl rfl (by rintro _ _ ⟨_,rfl⟩;rfl) ?_;intro qa qb _ _ _ _ _ qi _ _ _ _ _ _ _ _ _ _ _ _ _ _ _ vc _ _ vf;intros;rename_i hA K hK
 cbv;refine gn ?_
 obtain ⟨e1,e2,e3,e4,e5,e6,e7,e8,e9⟩:=m6 hA
 obtain ⟨r1,r2,r3,r4⟩:=C7 hA
 obtain ⟨m1,m2,m3,m4⟩:=a0J hA
 replace hza:za=(a:Int):=hza
 replace hzb:zb=(b:Int):=hzb
 replace hzk:zk=(k:Int):=hzk
 refine o7 hA (γ:=Int×List (List D)) (fun x=>[(10,vi .i64 x.1),(29,.jk),(35,.jk)]) (fun x=>[(0,.row false 163 x.2)]) (fun x=>∃j:Nat,x.1=(j:Int)∧j≤k∧x.2=a0C a b j rows) (fun x=>k - x.1.toNat) (0,rows) ?_ ?_ ?_
 ·exact ⟨0,rfl,c95 _,rfl⟩
 ·cbv
 ·intro x hinv
  obtain ⟨z,L⟩:=x
  cbv;refine gn ?_
  obtain ⟨j,hz,hj,hL⟩:=hinv
  replace hz:z=(j:Int):=hz
  replace hza:za=(a:Int):=hza
  replace hzb:zb=(b:Int):=hzb
  replace hzk:zk=(k:Int):=hzk
  replace hL:L=a0C a b j rows:=hL
  have hlt:qi z zk=decide (j<k):=by rw [e7,hz,hzk];exact c9w.2 (by omega)
  by_cases h9:j<k
  ·rw [c9j h9] at hlt
   have hLl:L.length=rows.length:=by rw [hL,a3E]
   obtain ⟨x,hx⟩:∃x,L[a+j]?=some x:=⟨_,c8T (by omega)⟩
   obtain ⟨y,hy⟩:∃y,L[b+j]?=some y:=⟨_,c8T (by omega)⟩
   have hx5:=h5 x (a1e a b j rows x (by rw [←hL];exact c9h hx))
   have hy5:=h5 y (a1e a b j rows y (by rw [←hL];exact c9h hy))
   obtain ⟨x0,x1,x2,x3,x4,rfl⟩:=c67 hx5
   obtain ⟨y0,y1,y2,y3,y4,rfl⟩:=c67 hy5
   have wa:qa .i64 (qb za z)=((a+j:Nat):Int):=by rw [e1,e2,hza,hz,IntWalk.i64_in _ (by omega)];omega
   have wb:qa .i64 (qb zb z)=((b+j:Nat):Int):=by rw [e1,e2,hzb,hz,IntWalk.i64_in _ (by omega)];omega
   have g1:vc L (qa .i64 (qb zb z))=some [y0,y1,y2,y3,y4]:=by rw [wb,r2,c8Y (by omega),c9o];exact hy
   have g2:vc L (qa .i64 (qb za z))=some [x0,x1,x2,x3,x4]:=by rw [wa,r2,c8Y (by omega),c9o];exact hx
   have g3:∀v,vc (vf L (qa .i64 (qb za z)) v) (qa .i64 (qb zb z))=some [y0,y1,y2,y3,y4]:=fun v=>by rw [wb,wa,r2,c8Y (by omega),m4,c9o,c9o,c9p (by omega)];exact hy
   have hsw:a0C a b (j+1) rows=(L.set (a+j) [y0,y1,y2,y3,y4]).set (b+j) [x0,x1,x2,x3,x4]:=by
    rw [a0C,←hL,hx,hy]
   rw [hlt]
   cbv;refine gn ?_
   repeat (first|(rw [g1];cbv)|(rw [g2];cbv)|(rw [g3];cbv)|(with_reducible apply f8 hA;cbv))
   replace hz:z=(j:Int):=hz
   have hz1:qa .i64 (qb z 1)=((j+1:Nat):Int):=by rw [e1,e2,hz,IntWalk.i64_in _ (by omega)];omega
   refine ⟨(qa .i64 (qb z 1),vf (vf L (qa .i64 (qb za z)) [y0,y1,y2,y3,y4]) (qa .i64 (qb zb z)) [x0,x1,x2,x3,x4]),⟨j+1,hz1,h9,?_⟩,?_,?_⟩
   ·show vf (vf L _ _) _ _=_
    rw [m4,m4,wa,wb,c9o,c9o,hsw]
   ·show k - (qa .i64 (qb z 1)).toNat<k - z.toNat
    rw [hz1,hz]
    omega
   ·cbv
  ·rw [c9d h9] at hlt
   rw [hlt]
   cbv;refine gn ?_
   have hjk:j=k:=by omega
   exact hK [] [.row false 163 L] ⟨rfl,by rw [hS,←hjk,←hL]⟩
theorem b90 (P X Y S:List Rw) (h5:∀x∈P++(X++(Y++S)),x.length=5) (fid:Nat) (hN:(P++(X++(Y++S))).length≤1048576) (hx:0<X.length) (hy:0<Y.length) :
  A4 160 [.own 0,vi .i64 P.length,vi .i64 (P.length+X.length:Nat),vi .i64 (P.length+X.length+Y.length:Nat),.cl fid []] [.row false 163 (P++(X++(Y++S)))] (fun res os=>res=[]∧os=[.row false 163 (P++(Y++(X++S)))]):=by
 obtain ⟨za,hza⟩:∃z:Int,z=(P.length:Int):=⟨_,rfl⟩
 obtain ⟨zm,hzm⟩:∃z:Int,z=((P.length+X.length:Nat):Int):=⟨_,rfl⟩
 obtain ⟨zb,hzb⟩:∃z:Int,z=((P.length+X.length+Y.length:Nat):Int):=⟨_,rfl⟩
 obtain ⟨L,hL⟩:∃L,L=P++(X++(Y++S)):=⟨_,rfl⟩
 obtain ⟨M,hM⟩:∃M,M=P++(Y++(X++S)):=⟨_,rfl⟩
 rw [←hza,←hzm,←hzb,←hM,←hL]
 rw [←hL] at h5 hN
 have hLl:L.length=P.length+X.length+Y.length+S.length:=by rw [hL];simp only [c8U];omega
 refine a06 Try.func160 rfl (by kernel_rfl) (by kernel_rfl) (by kernel_rfl) rfl rfl (by rintro _ _ ⟨_,rfl⟩;rfl) ?_;intro qa qb qc _ _ _ _ qi _ qk;intros;rename_i hA K hK
 cbv;refine gn ?_;try simp only [nc] at *
 obtain ⟨e1,e2,e3,e4,e5,e6,e7,e8,e9⟩:=m6 hA
 have wi:qa .i64 (qc zm za)=(X.length:Int):=by rw [e1,e3,hza,hzm,IntWalk.i64_in _ (by omega)];omega
 have wj:qa .i64 (qc zb zm)=(Y.length:Int):=by rw [e1,e3,hzb,hzm,IntWalk.i64_in _ (by omega)];omega
 refine o7 hA (γ:=Int×Int×List (List D)) (fun x=>[(10,vi .i64 x.1),(11,vi .i64 x.2.1)]) (fun x=>[(0,.row false 163 x.2.2)])
  (fun x=>∃P' X' Y' S':List Rw,0<X'.length∧0<Y'.length∧P'.length+X'.length=P.length+X.length∧x.1=(X'.length:Int)∧x.2.1=(Y'.length:Int)∧P'++(Y'++(X'++S'))=M∧x.2.2=P'++(X'++(Y'++S'))∧x.2.2.length=L.length∧∀r∈x.2.2,r.length=5) (fun x=>x.1.toNat+x.2.1.toNat) (qa .i64 (qc zm za),qa .i64 (qc zb zm),L) ?_ ?_ ?_
 ·exact ⟨P,X,Y,S,hx,hy,rfl,wi,wj,hM.symm,hL,rfl,h5⟩
 ·cbv
 ·intro x hinv
  obtain ⟨zi,zj,Q⟩:=x
  cbv;refine gn ?_;try simp only [nc] at *
  obtain ⟨P',X',Y',S',hx',hy',hm,hi,hj,he,hQ,hQl,hQ5⟩:=hinv
  replace hQ:Q=P'++(X'++(Y'++S')):=hQ
  replace hQl:Q.length=L.length:=hQl
  have hQl2:Q.length=P'.length+X'.length+Y'.length+S'.length:=by rw [hQ];simp only [c8U];omega
  have heq:qk zi zj=(zi == zj):=e9 _ _
  have hgt:qi zj zi=decide (Y'.length<X'.length):=by rw [e7,hi,hj];exact c9w.2 (by omega)
  have wp:qa .i64 (qc zm zi)=(P'.length:Int):=by rw [e1,e3,hzm,hi,IntWalk.i64_in _ (by omega)];omega
  by_cases hij:X'.length=Y'.length
  ·have h1:qk zi zj=true:=by rw [heq,hi,hj,hij];exact c9T _
   have hsp:=a3q P' X' [] Y' S' hij
   rw [c9I,c9I,←hQ,he,c9n,d0g] at hsp
   have hsw:=b3S Q hQ5 P'.length (P'.length+X'.length) X'.length fid (by omega) (c9c _) (by omega)
   rw [hsp,←wp,hm,←hzm,←hi] at hsw
   rw [h1]
   cbv;refine gn ?_;try simp only [nc] at *
   refine F0 hA [0] hsw ⟨rfl,rfl,rfl,rfl,rfl,rfl,rfl⟩ ?_
   rintro res os2 ⟨rfl,rfl⟩
   cbv;refine gn ?_;try simp only [nc] at *
   exact hK [] [.row false 163 M] ⟨rfl,rfl⟩
  ·have h1:qk zi zj=false:=by rw [heq,hi,hj,c94];omega
   rw [h1]
   cbv;refine gn ?_;try simp only [nc] at *
   by_cases hlt:Y'.length<X'.length
   ·rw [c9j hlt] at hgt
    obtain ⟨X1,X2,hX,hX1⟩:=a1q (l:=X') (n:=Y'.length) (by omega)
    have hX2:Y'.length+X2.length=X'.length:=by rw [hX,c8U];omega
    have hsp:=a3q P' X1 X2 Y' S' hX1
    have hQ2:P'++(X1++(X2++(Y'++S')))=Q:=by rw [hQ,hX];simp only [c90]
    rw [hQ2,hX1] at hsp
    have hsw:=b3S Q hQ5 P'.length (P'.length+Y'.length+X2.length) Y'.length fid (by omega) (by omega) (by omega)
    rw [hsp,show P'.length+Y'.length+X2.length=P.length+X.length by omega,←wp,←hzm,←hj] at hsw
    rw [hgt]
    cbv;refine gn ?_;try simp only [nc] at *
    refine F0 hA [0] hsw ⟨rfl,rfl,rfl,rfl,rfl,rfl,rfl⟩ ?_
    rintro res os2 ⟨rfl,rfl⟩
    cbv;refine gn ?_;try simp only [nc] at *
    have wz:qa .i64 (qc zi zj)=(X2.length:Int):=by rw [e1,e3,hi,hj,IntWalk.i64_in _ (by omega)];omega
    have hmu:(qa .i64 (qc zi zj)).toNat+zj.toNat<zi.toNat+zj.toNat:=by rw [wz,hi,hj];omega
    refine ⟨(qa .i64 (qc zi zj),zj,P'++(Y'++(X2++(X1++S')))),⟨P'++Y',X2,X1,S',by omega,by omega,by rw [c8U];omega,wz,by rw [hX1];exact hj,?_,by simp only [c90],?_,?_⟩,hmu,?_⟩
    ·rw [←he,hX];simp only [c90]
    ·show (P'++(Y'++(X2++(X1++S')))).length=L.length
     rw [←hQl,←hQ2];simp only [c8U];omega
    ·intro r hr
     refine hQ5 r ?_
     rw [←hQ2]
     simp only [c99] at hr ⊢
     grind
    ·cbv
   ·rw [c9d hlt] at hgt
    obtain ⟨Y1,Y2,hY,hY1⟩:=a1q (l:=Y') (n:=Y'.length - X'.length) (by omega)
    have hY2:Y2.length=X'.length:=by have:=congrArg List.length hY;rw [c8U] at this;omega
    have hsp:=a3q P' X' Y1 Y2 S' hY2.symm
    have hQ2:P'++(X'++(Y1++(Y2++S')))=Q:=by rw [hQ,hY];simp only [c90]
    rw [hQ2] at hsp
    have hsw:=b3S Q hQ5 P'.length (P'.length+X'.length+Y1.length) X'.length fid (by omega) (by omega) (by omega)
    have wq:qa .i64 (qc (qa .i64 (qb zm zj)) zi)=((P'.length+X'.length+Y1.length:Nat):Int):=by
     have h2:qa .i64 (qb zm zj)=((P.length+X.length+Y'.length:Nat):Int):=by rw [e1,e2,hzm,hj,IntWalk.i64_in _ (by omega)];omega
     rw [h2,e1,e3,hi,IntWalk.i64_in _ (by omega)];omega
    rw [hsp,←wp,←wq,←hi] at hsw
    rw [hgt]
    cbv;refine gn ?_;try simp only [nc] at *
    refine F0 hA [0] hsw ⟨rfl,rfl,rfl,rfl,rfl,rfl,rfl⟩ ?_
    rintro res os2 ⟨rfl,rfl⟩
    cbv;refine gn ?_;try simp only [nc] at *
    have wz:qa .i64 (qc zj zi)=(Y1.length:Int):=by rw [e1,e3,hi,hj,IntWalk.i64_in _ (by omega)];omega
    have hmu:zi.toNat+(qa .i64 (qc zj zi)).toNat<zi.toNat+zj.toNat:=by rw [wz,hi,hj];omega
    refine ⟨(zi,qa .i64 (qc zj zi),P'++(Y2++(Y1++(X'++S')))),⟨P',Y2,Y1,X'++S',by omega,by omega,by omega,by rw [hY2];exact hi,wz,?_,rfl,?_,?_⟩,hmu,?_⟩
    ·rw [←he,hY];simp only [c90]
    ·show (P'++(Y2++(Y1++(X'++S')))).length=L.length
     rw [←hQl,←hQ2];simp only [c8U];omega
    ·intro r hr
     refine hQ5 r ?_
     rw [←hQ2]
     simp only [c99] at hr ⊢
     grind
    ·cbv
def a3Q (a b:List UInt8):Int:=if Op.bytesLess a b=true then -1 else if Op.bytesLess b a=true then 1 else 0
theorem a5o (a b:List UInt8):decide (a3Q a b<0)=Op.bytesLess a b:=by
 unfold a3Q
 split
 ·simp_all
 ·split <;> simp_all
def b1g (fid:Nat):Prop:=∀(n m:ByteArray) (x1 x2 x3 x4 y1 y2 y3 y4:D),A0 fid [.ag [.sc (.string n),x1,x2,x3,x4],.ag [.sc (.string m),y1,y2,y3,y4]] [.one (.sc (.int .i64 (a3Q n.toList m.toList)))]
def Ok5 (x:Rw):Prop:=∃n x1 x2 x3 x4,x=[.sc (.string n),x1,x2,x3,x4]
theorem Ok5.len {x:Rw} (h:Ok5 x):x.length=5:=by obtain ⟨n,x1,x2,x3,x4,rfl⟩:=h;rfl
theorem b3T (l:List Rw) (x:Rw) {m:List Rw} (hs:Srt C3 m) (ht:Sta C3 m (o8 C3 l++[x])):m=o8 C3 (l++[x]):=b5x N0 hs (ht.trans (Sta.append (a0B N0 l) (.refl _)))
theorem b2H (fid:Nat) (hc:b1g fid) (P D S:List Rw) (h5:∀x∈P++(D++S),Ok5 x) (hN:(P++(D++S)).length≤1048576) :
  A4 155 [.own 0,vi .i64 P.length,vi .i64 (P.length+D.length:Nat),.cl fid []] [.row false 163 (P++(D++S))] (fun res os=>res=[]∧os=[.row false 163 (P++(o8 C3 D++S))]):=by
 obtain ⟨za,hza⟩:∃z:Int,z=(P.length:Int):=⟨_,rfl⟩
 obtain ⟨zb,hzb⟩:∃z:Int,z=((P.length+D.length:Nat):Int):=⟨_,rfl⟩
 obtain ⟨L,hL⟩:∃L,L=P++(D++S):=⟨_,rfl⟩
 obtain ⟨M,hM⟩:∃M,M=P++(o8 C3 D++S):=⟨_,rfl⟩
 rw [←hza,←hzb,←hM,←hL]
 rw [←hL] at h5 hN
 have hLl:L.length=P.length+D.length+S.length:=by rw [hL];simp only [c8U];omega
 refine a06 Try.func155 rfl (by kernel_rfl) (by kernel_rfl) (by kernel_rfl) rfl rfl (by rintro _ _ ⟨_,rfl⟩;rfl) ?_;intro qa qb qc _ _ _ _ qi _ _ _ _ _ _ _ _ _ _ _ _ _ _ _ vc _ _ vf;intros;rename_i hA K hK
 cbv;refine gn ?_;try simp only [nc] at *
 obtain ⟨e1,e2,e3,e4,e5,e6,e7,e8,e9⟩:=m6 hA
 obtain ⟨r1,r2,r3,r4⟩:=C7 hA
 obtain ⟨m1,m2,m3,m4⟩:=a0J hA
 have wi:qa .i64 (qb za 1)=((P.length+1+0:Nat):Int):=by rw [e1,e2,hza,IntWalk.i64_in _ (by omega)];omega
 refine o7 hA (γ:=Int×List Rw) (fun x=>[(8,vi .i64 x.1)]) (fun x=>[(0,.row false 163 x.2)])
  (fun x=>∃k:Nat,x.1=((P.length+1+k:Nat):Int)∧(k=0∨k+1≤D.length)∧x.2=P++(o8 C3 (D.take (k+1))++(D.drop (k+1)++S))∧x.2.length=L.length∧∀r∈x.2,r∈L) (fun x=>L.length+1 - x.1.toNat) (qa .i64 (qb za 1),L) ?_ ?_ ?_
 ·refine ⟨0,wi,.inl rfl,?_,rfl,fun r h=>h⟩
  have:o8 C3 (D.take 1)=D.take 1:=by
   cases D with
   | nil=>rfl
   | cons d D=>rfl
  show L=_
  rw [this,hL,←c90 (D.take 1),d0a]
 ·cbv
 ·intro x hinv
  obtain ⟨z,Q⟩:=x
  cbv;refine gn ?_;try simp only [nc] at *
  obtain ⟨k,hz,hk,hQ,hQl,hQm⟩:=hinv
  have hlt:qi z zb=decide (k+1<D.length):=by rw [e7,hz,hzb];exact c9w.2 (by omega)
  by_cases h9:k+1<D.length
  ·rw [c9j h9] at hlt
   obtain ⟨x,hx⟩:∃x,D[k+1]?=some x:=⟨_,c8T h9⟩
   obtain ⟨hxi,hxe⟩:=c8S.1 hx
   obtain ⟨D1,hD1⟩:∃D1,D1=D.take (k+1):=⟨_,rfl⟩
   obtain ⟨D2,hD2⟩:∃D2,D2=D.drop (k+1+1):=⟨_,rfl⟩
   have hdrop:D.drop (k+1)=x::D2:=by rw [hD2,c98 hxi,hxe]
   have htake:D.take (k+1+1)=D1++[x]:=by rw [hD1];exact a86 hx
   rw [←hD1,hdrop] at hQ
   obtain ⟨E,hE⟩:∃E,E=o8 C3 D1:=⟨_,rfl⟩
   rw [←hE] at hQ
   have hEl:E.length=k+1:=by rw [hE,a6g,hD1,c92];omega
   have hEs:Srt C3 E:=by rw [hE];exact a0A N0 D1
   have hxm:x∈L:=hQm x (by rw [hQ];simp)
   obtain ⟨nx,x1,x2,x3,x4,hxx⟩:=h5 x hxm
   rw [hlt]
   cbv;refine gn ?_;try simp only [nc] at *
   refine o7 hA (γ:=Int×List Rw) (fun x=>[(9,vi .i64 x.1)]) (fun x=>[(0,.row false 163 x.2)])
    (fun y=>∃L1 L2:List Rw,y.1=((P.length+L1.length:Nat):Int)∧E=L1++L2∧(∀r∈L2,C3 x r=true)∧y.2=P++(L1++(x::(L2++(D2++S))))∧y.2.length=L.length∧∀r∈y.2,r∈L) (fun y=>y.1.toNat) (z,Q) ?_ ?_ ?_
   ·exact ⟨E,[],by rw [hEl];show z=_;rw [hz];congr 1;omega,by simp,by simp,by rw [hQ];simp,hQl,hQm⟩
   ·cbv
   ·intro y hinv
    obtain ⟨zj,N⟩:=y
    cbv;refine gn ?_;try simp only [nc] at *
    obtain ⟨L1,L2,hj,hEE,hL2,hNN,hNl,hNm⟩:=hinv
    have hLAST:=fun (h1:∀y∈L1,C3 x y=false)=>a4d N0 (x:=x) (u1:=L1) (u2:=L2) (by rw [←hEE];exact hEs) h1 hL2
    have hNl2:N.length=P.length+L1.length+1+L2.length+D2.length+S.length:=by rw [hNN];simp only [c8U,c9a];omega
    have hz1:qa .i64 (qb z 1)=((P.length+1+(k+1):Nat):Int):=by rw [e1,e2,hz,IntWalk.i64_in _ (by omega)];omega
    have hmz:L.length+1 - (qa .i64 (qb z 1)).toNat<L.length+1 - z.toNat:=by rw [hz1,hz];omega
    have hdone:(∀y∈L1,C3 x y=false)→N=P++(o8 C3 (D.take (k+1+1))++(D.drop (k+1+1)++S)):=fun h=>by
     obtain ⟨h1,h2⟩:=hLAST h
     have h3:L1++x::L2=o8 C3 (D1++[x]):=b3T D1 x h1 (by rw [←hE,hEE];exact h2)
     rw [htake,←hD2,←h3,hNN]
     simp
    rcases (show L1=[]∨∃L y,L1=L++[y] by simpa [List.concat_eq_append] using List.eq_nil_or_concat L1) with hnil|⟨L0,y,hsn⟩
    ·have hlt2:qi za zj=false:=by rw [e7,hza,hj,hnil];simp
     rw [hlt2]
     cbv;refine gn ?_;try simp only [nc] at *
     refine ⟨(qa .i64 (qb z 1),N),⟨k+1,hz1,.inr h9,hdone (by rw [hnil];simp),hNl,hNm⟩,hmz,?_⟩
     cbv
    ·have hl1:L1.length=L0.length+1:=by rw [hsn];simp
     have hlt2:qi za zj=true:=by rw [e7,hza,hj];exact c9j (by omega)
     have hym:y∈L:=hNm y (by rw [hNN,hsn];simp)
     obtain ⟨ny,y1,y2,y3,y4,hyy⟩:=h5 y hym
     have wj:qa .i64 (qc zj 1)=((P.length+L0.length:Nat):Int):=by rw [e1,e3,hj,IntWalk.i64_in _ (by omega)];omega
     have hNP:N=(P++L0)++y::x::(L2++(D2++S)):=by rw [hNN,hsn];simp
     have hpl:(P++L0).length=P.length+L0.length:=c8U
     have gx:vc N zj=some [.sc (.string nx),x1,x2,x3,x4]:=by
      rw [r2,c8Y (by omega),hj,c9o,hNP,c9b (by omega),hpl,show P.length+L1.length - (P.length+L0.length)=1 by omega,←hxx]
      rfl
     have gy:vc N (qa .i64 (qc zj 1))=some [.sc (.string ny),y1,y2,y3,y4]:=by
      rw [wj,r2,c8Y (by omega),c9o,hNP,c9b (by omega),hpl,d0h,←hyy]
      rfl
     have gy2:∀v,vc (vf N zj v) (qa .i64 (qc zj 1))=some [.sc (.string ny),y1,y2,y3,y4]:=fun v=>by
      rw [←gy,r2,r2,m4,wj,hj,c9o,c9o,c9p (by omega)]
     have hcmp:=hc nx ny x1 x2 x3 x4 y1 y2 y3 y4
     have hneg:qi (a3Q nx.toList ny.toList) 0=C3 x y:=by rw [e7,a5o,hxx,hyy];rfl
     generalize a3Q nx.toList ny.toList=cv at *
     rw [hlt2]
     cbv;refine gn ?_;try simp only [nc] at *
     repeat (first|(rw [gx];cbv)|(rw [gy];cbv)|(with_reducible apply f8 hA;cbv))
     refine j5 hA _ hcmp ?_
     cbv
     cases hb:C3 x y
     ·rw [hb] at hneg
      rw [hneg]
      cbv;refine gn ?_;try simp only [nc] at *
      refine ⟨(qa .i64 (qb z 1),N),⟨k+1,hz1,.inr h9,hdone ?_,hNl,hNm⟩,hmz,?_⟩
      ·rw [hsn]
       exact c4U (by rw [←hsn];exact (E8.1 (by rw [←hEE];exact hEs)).1) hb
      ·cbv
     ·rw [hb] at hneg
      rw [hneg]
      cbv;refine gn ?_;try simp only [nc] at *
      repeat (first|(rw [gx];cbv)|(rw [gy];cbv)|(rw [gy2];cbv)|(with_reducible apply f8 hA;cbv))
      try simp only [nc] at *
      refine ⟨(qa .i64 (qc zj 1),vf (vf N zj [.sc (.string ny),y1,y2,y3,y4]) (qa .i64 (qc zj 1)) [.sc (.string nx),x1,x2,x3,x4]),⟨L0,y::L2,wj,by rw [hEE,hsn];simp,?_,?_,?_,?_⟩,?_,?_⟩
      ·intro r hr
       rcases c9e.1 hr with rfl|hr
       ·exact hb
       ·exact hL2 r hr
      ·show vf (vf N zj _) _ _=_
       rw [m4,m4,wj,hj,c9o,c9o,hNP,←hxx,←hyy,show P.length+L1.length=P.length+L0.length+1 by omega,b2E _ _ _ _ hpl]
       simp
      ·show (vf (vf N zj _) _ _).length=_
       rw [m4,m4,c9u,c9u]
       exact hNl
      ·intro r hr
       have hr:r∈vf (vf N zj [.sc (.string ny),y1,y2,y3,y4]) (qa .i64 (qc zj 1)) [.sc (.string nx),x1,x2,x3,x4]:=hr
       rw [m4,m4,←hxx,←hyy] at hr
       rcases c9Q hr with hr|rfl
       ·rcases c9Q hr with hr|rfl
        ·exact hNm r hr
        ·exact hym
       ·exact hxm
      ·show (qa .i64 (qc zj 1)).toNat<zj.toNat
       rw [wj,hj]
       omega
      ·cbv
  ·rw [c9d h9] at hlt
   rw [hlt]
   cbv;refine gn ?_;try simp only [nc] at *
   have e:Q=M:=by rw [hQ,hM,c9J (by omega),c9R (by omega)];rfl
   rw [e]
   exact hK [] [.row false 163 M] ⟨rfl,rfl⟩
end Go.Proofs.Ytahpnackkmbmgaa.Vm
end

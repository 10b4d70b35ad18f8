/- Part 23 of the proof. Conditions: none. -/
import Derived.Test.YtdjnoafijjepcaaGreatT4
import Derived.Test.YtdjnoafijjepcaaGreatT6
import Derived.Test.YtdjnoafijjepcaaGreatT14
import Derived.Test.YtdjnoafijjepcaaGreatT17
import Derived.Test.YtdjnoafijjepcaaGreatT22
import Derived.Test.YtdjnoafijjepcaaGreatRows
import Derived.Deep.Slices
import Derived.WideShapes
import Derived.ChangeArms
import Derived.Test.YtdjnoafijjepcaaGreatT0
set_option linter.all false
set_option linter.unusedVariables false
set_option linter.unusedSimpArgs false
section
namespace Go.Proofs.YtdjnoafijjepcaaGreat.Vm
open Go.RowKit
set_option maxRecDepth 100000
set_option maxHeartbeats 4000000
theorem c3Z:∀t u:Ty,t.parts.length<=1048576->o8 20 [.ag (cT t),.ag (cT u)] [.one (.sc (.bool (a3W t u)))]:=by
 intro t
 induction t using Ty.ind with
 | h t ih =>
  intro u hN;have hkl:=J7 t;obtain⟨op,nm,n,ks⟩:=t;obtain⟨op2,nm2,n2,ks2⟩:=u;simp only[Ty.kids] at hkl ih;have hm:ks.length<=1048576:=by omega
  rw[cT,cT];generalize hb:a3W (.mk op nm n ks) (.mk op2 nm2 n2 ks2)=b;obtain⟨K,hK⟩:∃K,K=rT ks:=⟨_,rfl⟩;obtain⟨K2,hK2⟩:∃K,K=rT ks2:=⟨_,rfl⟩;rw[<-hK,<-hK2];refine Q5 Tryz.func20 rfl ?_;intro qa qb _ _ _ _ _ qi _ qk _ qm _ qp _ _ _ _ _ _ _ _ va vc;intros;rename_i hA;cbv;refine gn ?_;obtain⟨e1,e2,e3,e4,e5,e6,e7,e8,e9⟩:=m6 hA;obtain⟨s1,s2,s3,-⟩:=G1 hA;obtain⟨r1,r2,-⟩:=B3 hA;rw[a3W] at hb;cases h1:qk op op2
  ·cbv;refine gn ?_;rw[e9] at h1;rw[<-hb,h1];exact⟨rfl,trivial⟩
  cbv;cases h2:qm (qp nm) (qp nm2)
  ·cbv;refine gn ?_;rw[s1,s3,s3] at h2;rw[<-hb,h2]
   simp
  cbv;cases h3:qk n n2
  ·cbv;refine gn ?_;rw[e9] at h3;rw[<-hb,h3]
   simp
  cbv;cases h4:qk (va K) (va K2)
  ·cbv;refine gn ?_
   have h5:ks.length≠ks2.length:=by
    rw[e9,r1,r1,hK,hK2,M4,M4] at h4;intro h;rw[h] at h4
    simp at h4
   rw[<-hb,a8p h5]
   simp
  cbv;refine gn ?_
  have h5:ks.length=ks2.length:=by
   rw[e9,r1,r1,hK,hK2,M4,M4] at h4;rw[d4H] at h4;exact Int.ofNat.inj h4
  refine n9 hA (γ:=Int) (λz=>[(5,vi .i64 z)]) (λ_=>[]) (λz=>∃k:Nat,z=(k:Int)/\k<=ks.length/\Q7 (ks.drop k) (ks2.drop k)=b) (λz=>ks.length - z.toNat) 0 ?_ ?_ ?_
  ·exact⟨0,rfl,d4o _,by rw[<-hb,(by rw[<-e9];exact h1:(op == op2)=true),(by rw[<-s1,<-s3,<-s3];exact h2:(nm.toList == nm2.toList)=true),(by rw[<-e9];exact h3:(n == n2)=true)];rfl⟩
  ·cbv
  ·intro z hinv;cbv;refine gn ?_;obtain⟨k,hz,hk,hE⟩:=hinv;have hz:z=(k:Int):=hz;have hlen:va K=(ks.length:Int):=by rw[r1,hK,M4]
   have hlt:qi z (va K)=decide (k<ks.length):=by rw[e7,hlen,hz];exact d3X.2 (by omega)
   by_cases h9:k<ks.length
   ·rw[d3S h9] at hlt;obtain⟨x,hx⟩:∃x,ks[k]?=some x:=⟨_,d3H h9⟩;obtain⟨y,hy⟩:∃y,ks2[k]?=some y:=⟨_,d3H (by omega)⟩;have g1:vc K z=some (cT x):=by rw[r2,hz,d3I (by omega),hK];exact a1q hx
    have g2:vc K2 z=some (cT y):=by rw[r2,hz,d3I (by omega),hK2];exact a1q hy
    have hsp:=ih x (d3U hx) y (by have:=hkl.2 x (d3U hx);omega);have hst:=b3w hx hy;obtain⟨o1,m1,n1,l1⟩:=x;obtain⟨o2,m2,n2',l2⟩:=y;rw[cT] at g1 g2 hsp;rw[cT] at hsp;generalize rT l1=L1 at *;generalize rT l2=L2 at *;generalize a3W (.mk o1 m1 n1 l1) (.mk o2 m2 n2' l2)=c at *;rw[hlt];cbv;refine gn ?_;rw[g1];cbv;rw[g2];cbv;refine l9 hA _ hsp ?_;cases c
    ·cbv;refine gn ?_;rw[<-hE,hst];exact⟨rfl,trivial⟩
    ·cbv;refine gn ?_;replace hz:z=(k:Int):=hz;have hz1:qa .i64 (qb z 1)=((k+1:Nat):Int):=by rw[e1,e2,hz,IntWalk.i64_in _ (by omega)];omega
     refine⟨qa .i64 (qb z 1),⟨k+1,hz1,h9,by rw[<-hE,hst];rfl⟩,by rw[hz1,hz];omega,?_⟩;cbv
   ·rw[d3P h9] at hlt;rw[hlt];cbv;refine gn ?_;rw[<-hE,d4w (by omega),d4w (by omega),Q7];exact⟨rfl,trivial⟩
theorem b5u (t:Ty):a3W t t=true:=(b1U t t).2 rfl
theorem c4a:∀t:Tm,(m7 t).length<=1048576->GdT t->o8 9 [.ag (cM t),.ag (cM t)] [.one (.sc (.bool true))]:=by
 intro t
 induction t using Tm.ind with
 | h op nm ar n b a ks ih =>
  intro hN hG;obtain⟨ha,hkl,hkk⟩:=b89 hN hG;have k0:=c3Z a a ha;rw[b5u] at k0;have hcp:=λk hk=>ih k hk (hkk k hk).1 (hkk k hk).2
  clear ih hN hG hkk;obtain⟨a0,a1,a2,a3,haa⟩:=m8 a;rw[haa] at k0;rw[cM,haa];obtain⟨K,hK⟩:∃K,K=rM ks:=⟨_,rfl⟩;rw[<-hK];have hln:K.length=ks.length:=by rw[hK,a5Z]
  obtain⟨inv,hv⟩:∃inv:Int->Prop,inv=λx=>∃k:Nat,x=(k:Int)/\k<=ks.length:=⟨_,rfl⟩
  have hi0:inv 0:=by rw[hv];exact⟨0,rfl,d4o _⟩
  have key:∀b:Bool,o8 9 [.ag ([.sc (.int .u8 op),.sc (.string nm),.sc (.string ar),.sc (.int .i64 n),.sc (.bool b),a0,a1,a2,a3,.sl 10 K]),.ag ([.sc (.int .u8 op),.sc (.string nm),.sc (.string ar),.sc (.int .i64 n),.sc (.bool b),a0,a1,a2,a3,.sl 10 K])] [.one (.sc (.bool true))]:=by
   intro b;cases b
   all_goals
    refine Q5 Tryz.func9 rfl ?_;intro qa qb _ _ _ _ _ qi _ qk _ qm _ qp _ _ _ _ _ _ _ _ va vc;intros;rename_i hA;obtain⟨e1,e2,e3,e4,e5,e6,e7,e8,e9⟩:=m6 hA;obtain⟨r1,r2,r3,r4⟩:=B3 hA;obtain⟨s1,s2,s3,s4,s5,s6,s7⟩:=G1 hA;have q1:qm (qp nm) (qp nm)=true:=by rw[s1];exact d4G _
    have q2:qm (qp ar) (qp ar)=true:=by rw[s1];exact d4G _
    have q3:∀x,qk x x=true:=λx=>ebr hA
    try cbv;refine gr ?_;try simp only[nc] at *
    refine n9 hA (γ:=Int) (λx=>[(5,vi .i64 x)]) (λx=>[]) inv (λx=>ks.length - x.toNat) 0 hi0 ?_ ?_
    ·cbv
    ·intro z hinv;cbv;refine gn ?_;try simp only[nc] at *
     rw[hv] at hinv;obtain⟨k,hz,hk⟩:=hinv;replace hz:z=(k:Int):=hz;have hlt:qi z (va K)=decide (k<ks.length):=by rw[e7,r1,hln,hz];exact d3X.2 (by omega)
     by_cases h9:k<ks.length
     ·rw[d3S h9] at hlt;obtain⟨x,hx⟩:∃x,ks[k]?=some x:=⟨_,d3H h9⟩;have h0:=hcp x (d3U hx);obtain⟨d0,d1,d2,d3,d4,d5,d6,d7,d8,d9,hd⟩:=a3e x;have g5:vc K z=some [d0,d1,d2,d3,d4,d5,d6,d7,d8,d9]:=by rw[r2,hz,d3I (by omega),show ((k:Int)).toNat=k by omega,hK,b0G hx,hd]
      rw[hd] at h0;have hz1:qa .i64 (qb z 1)=((k+1:Nat):Int):=by rw[e1,e2,hz,IntWalk.i64_in _ (by omega)];omega
      have hm:ks.length - (qa .i64 (qb z 1)).toNat<ks.length - z.toNat:=by rw[hz1,hz];omega
      have hi:inv (qa .i64 (qb z 1)):=by rw[hv];exact⟨k+1,hz1,h9⟩
      rw[hlt]
      try cbv;refine gr ?_;try simp only[nc] at *
      refine⟨_,hi,hm,?_⟩;cbv
     ·rw[d3P h9] at hlt;rw[hlt]
      try cbv;exact fr
  exact key b
section
abbrev PxN (B:List (List D)) (x:List D) (y:List (List D)) (p c:Int):Prop:=o8 5 [.one (.sl 1 B)] [.ag x,.one (.sl 1 y),.one (.sc (.int .i64 p)),.one (.sc (.int .u8 c))]
abbrev PxZ (B:List (List D)) (x:List D) (y:D) (p c:Int):Prop:=o8 5 [.one (.sl 1 B)] [.ag x,.one y,.one (.sc (.int .i64 p)),.one (.sc (.int .u8 c))]
abbrev TkN (f:Nat) (k:IntKind) (B T:List (List D)) (p c:Int):Prop:=o8 f [.one (.sl 1 B)] [.one (.sl 4 T),.one (.sc (.int .i64 p)),.one (.sc (.int k c))]
abbrev z10:List D:=[.sc (.int .u8 0),.sc (.string ⟨#[]⟩),.sc (.string ⟨#[]⟩),.sc (.int .i64 0),.sc (.bool false),.sc (.int .u8 0),.sc (.string ⟨#[]⟩),.sc (.int .i64 0),.sl 0 [],.sl 0 []]
abbrev NwN (T:List (List D)):Prop:=y7 11 [.d (.sl 4 T)] [] (λres os=>res=[.ptr 0 0]/\os=[.box [.d (.sl 4 T),.d (.sc (.int .i64 0))]])
section
variable {B T:List (List D)} {p e q a k n u1 u2:Int} {x y:Nat->D} {tx:ByteArray} {ps:List (List D)}
theorem d3m {c:Int} (h0:TkN 10 .u8 B T p c) (b0:(c == 0)=false):PxZ B z10 (.sl 0 []) p c:=wk Tryz.func5 rfl
theorem d3n (hT:TkN 10 .u8 B T p 0) (hN:NwN T) (h1:F4 12 [vi .i64 1] T (0,0,0) [.ag (C0 (cE x))] (e,q,a)) (h2:F4 13 [] T (e,q,a) [vb false] (e,q,a)):PxZ B z10 (.sl 0 []) q e:=by
 refine Q5 Tryz.func5 rfl ?_;intro _ _ _ _ _ _ _ _ _ qk;intros;rename_i hA;have g0:qk 0 0=true:=ebr hA
 iterate 2 (try cbv;repeat ((first|with_reducible apply j6 hA|rw[g0]|refine j8 hA _ hT rfl ?_|refine l9 hA _ hT ?_|(refine A1 hA [] hN ⟨rfl,rfl,rfl,rfl,rfl,rfl,rfl⟩ ?_;rintro _ _ ⟨rfl,rfl⟩)|(refine A1 hA [2,1] h1 ⟨rfl,rfl,rfl,rfl,rfl,rfl,rfl⟩ ?_;rintro _ _ ⟨rfl,rfl⟩)|(refine A1 hA [2,1] h2 ⟨rfl,rfl,rfl,rfl,rfl,rfl,rfl⟩ ?_;rintro _ _ ⟨rfl,rfl⟩));cbv))
theorem d3o {e2 q2 a2:Int} (hT:TkN 10 .u8 B T p 0) (hN:NwN T) (h1:F4 12 [vi .i64 1] T (0,0,0) [.ag (C0 (cE x))] (e,q,a)) (h2:F4 13 [] T (e,q,a) [vb true] (e,q,a)) (h3:PkN T a k u1 u2 tx) (b0:(k == 4)=false) (h4:F4 15 [vi .u8 5] T (e,q,a) [.ag pz0] (e2,q2,a2)) (h5:F4 13 [] T (e2,q2,a2) [vb false] (e2,q2,a2)):PxZ B z10 (.sl 0 []) q2 e2:=by
 unfold pz0 at h4;refine Q5 Tryz.func5 rfl ?_;intro _ _ _ _ _ _ _ _ _ qk;intros;rename_i hA;have g0:qk 0 0=true:=ebr hA;have g1:=eb hA b0
 iterate 2 (try cbv;repeat ((first|with_reducible apply j6 hA|rw[g0]|rw[g1]|refine j8 hA _ hT rfl ?_|refine l9 hA _ hT ?_|(refine A1 hA [] hN ⟨rfl,rfl,rfl,rfl,rfl,rfl,rfl⟩ ?_;rintro _ _ ⟨rfl,rfl⟩)|(refine A1 hA [2,1] h1 ⟨rfl,rfl,rfl,rfl,rfl,rfl,rfl⟩ ?_;rintro _ _ ⟨rfl,rfl⟩)|(refine A1 hA [2,1] h2 ⟨rfl,rfl,rfl,rfl,rfl,rfl,rfl⟩ ?_;rintro _ _ ⟨rfl,rfl⟩)|(refine a9V hA [1] h3 ⟨rfl,rfl,rfl,rfl,rfl,rfl,rfl⟩ rfl ?_;rintro _ rfl)|refine b2R hA [1] h3 ⟨rfl,rfl,rfl,rfl,rfl,rfl,rfl⟩ rfl ?_|(refine A1 hA [2,1] h4 ⟨rfl,rfl,rfl,rfl,rfl,rfl,rfl⟩ ?_;rintro _ _ ⟨rfl,rfl⟩)|(refine A1 hA [2,1] h5 ⟨rfl,rfl,rfl,rfl,rfl,rfl,rfl⟩ ?_;rintro _ _ ⟨rfl,rfl⟩));cbv))
theorem d3p (hT:TkN 10 .u8 B T p 0) (hN:NwN T) (h1:F4 12 [vi .i64 1] T (0,0,0) [.ag [.d (x 0),.d (x 1),.d (x 2),.d (x 3),.d (x 4),.d (x 5),.d (x 6),.d (x 7),.d (x 8),.d (x 9),.d (.sl 1 ps)]] (e,q,a)) (h2:F4 13 [] T (e,q,a) [vb true] (e,q,a)) (h3:PkN T a k u1 u2 tx) (b0:(k == 4)=true) (l0:decide (5000<(ps.length:Int))=true):PxZ B z10 (.sl 0 []) 0 7:=by
 refine Q5 Tryz.func5 rfl ?_;intro _ _ _ _ _ _ _ _ _ qk;intros;rename_i hA;have g0:qk 0 0=true:=ebr hA;have g1:=eb hA b0;have g2:=eln hA l0
 iterate 2 (try cbv;repeat ((first|with_reducible apply j6 hA|rw[g0]|rw[g1]|rw[g2]|refine j8 hA _ hT rfl ?_|refine l9 hA _ hT ?_|(refine A1 hA [] hN ⟨rfl,rfl,rfl,rfl,rfl,rfl,rfl⟩ ?_;rintro _ _ ⟨rfl,rfl⟩)|(refine A1 hA [2,1] h1 ⟨rfl,rfl,rfl,rfl,rfl,rfl,rfl⟩ ?_;rintro _ _ ⟨rfl,rfl⟩)|(refine A1 hA [2,1] h2 ⟨rfl,rfl,rfl,rfl,rfl,rfl,rfl⟩ ?_;rintro _ _ ⟨rfl,rfl⟩)|(refine a9V hA [1] h3 ⟨rfl,rfl,rfl,rfl,rfl,rfl,rfl⟩ rfl ?_;rintro _ rfl)|refine b2R hA [1] h3 ⟨rfl,rfl,rfl,rfl,rfl,rfl,rfl⟩ rfl ?_);cbv))
theorem d3q (hT:TkN 10 .u8 B T p 0) (hN:NwN T) (h1:F4 12 [vi .i64 1] T (0,0,0) [.ag [.d (x 0),.d (x 1),.d (x 2),.d (x 3),.d (x 4),.d (x 5),.d (x 6),.d (x 7),.d (x 8),.d (x 9),.d (.sl 1 ps)]] (e,q,a)) (h2:F4 13 [] T (e,q,a) [vb true] (e,q,a)) (h3:PkN T a k u1 u2 tx) (b0:(k == 4)=true) (l0:decide (5000<(ps.length:Int))=false) (h4:o8 16 [.ag [x 0,x 1,x 2,x 3,x 4,x 5,x 6,x 7,x 8,x 9]] [.ag [x 0,x 1,x 2,x 3,x 4,x 5,x 6,x 7,x 8,x 9]]):PxZ B [x 0,x 1,x 2,x 3,x 4,x 5,x 6,x 7,x 8,x 9] (.sl 1 ps) 0 0:=by
 refine Q5 Tryz.func5 rfl ?_;intro _ _ _ _ _ _ _ _ _ qk;intros;rename_i hA;have g0:qk 0 0=true:=ebr hA;have g1:=eb hA b0;have g2:=eln hA l0
 iterate 2 (try cbv;repeat ((first|with_reducible apply j6 hA|rw[g0]|rw[g1]|rw[g2]|refine j8 hA _ hT rfl ?_|refine l9 hA _ hT ?_|refine j8 hA _ h4 rfl ?_|refine l9 hA _ h4 ?_|(refine A1 hA [] hN ⟨rfl,rfl,rfl,rfl,rfl,rfl,rfl⟩ ?_;rintro _ _ ⟨rfl,rfl⟩)|(refine A1 hA [2,1] h1 ⟨rfl,rfl,rfl,rfl,rfl,rfl,rfl⟩ ?_;rintro _ _ ⟨rfl,rfl⟩)|(refine A1 hA [2,1] h2 ⟨rfl,rfl,rfl,rfl,rfl,rfl,rfl⟩ ?_;rintro _ _ ⟨rfl,rfl⟩)|(refine a9V hA [1] h3 ⟨rfl,rfl,rfl,rfl,rfl,rfl,rfl⟩ rfl ?_;rintro _ rfl)|refine b2R hA [1] h3 ⟨rfl,rfl,rfl,rfl,rfl,rfl,rfl⟩ rfl ?_);cbv))
end
def pxW (l:List UInt8):Tm×List Int×Int×Int :=
 let r:=n8 (G3 l) 0 false []
 if r.2.2≠0 then (a4a,[],r.2.1,r.2.2)
 else
  let E:=(J1 r.1 200).1 (0,0)
  if E.2.2≠0 then (a4a,[],(r9 r.1 E.2.1).at_,E.2.2)
  else if (r9 r.1 E.2.1).kind≠4 then (a4a,[],(r9 r.1 E.2.1).at_,5)
  else if 5000<E.1.2.length then (a4a,[],0,7)
  else (E.1.1,E.1.2,0,0)
theorem c4b:a4c z10 (cM a4a):=by
 unfold a4a v8;rw[cM,cT,rT,rM]
 repeat (first|exact .nil|refine .cons (.refl _) ?_|refine .cons (.nil _ _) ?_)
theorem PxZ.z {B:List (List D)} {p c:Int} (h:PxZ B z10 (.sl 0 []) p c):PxN B (cM a4a) (rZ []) p c:=h.likeq ⟨.ag c4b,.one (.nil _ _),.same _,.same _,trivial⟩
theorem d2d {E:PL} {x:Nat->D} (h:cP E=cE x):cM E.1=[x 0,x 1,x 2,x 3,x 4,x 5,x 6,x 7,x 8,x 9]/\D.sl 1 (rZ E.2)=x 10:=by
 obtain⟨d0,d1,d2,d3,d4,d5,d6,d7,d8,d9,hd⟩:=a3e E.1;unfold cP at h;rw[hd] at h ⊢;injection h with e0 h;injection h with e1 h;injection h with e2 h;injection h with e3 h;injection h with e4 h;injection h with e5 h;injection h with e6 h;injection h with e7 h;injection h with e8 h;injection h with e9 h;injection h with e10 h;subst e0 e1 e2 e3 e4 e5 e6 e7 e8 e9;exact⟨rfl,e10⟩
end
theorem b8K (l:List UInt8) (hl:l.length<=65536):PxN (rU l) (cM (pxW l).1) (rZ (pxW l).2.1) (pxW l).2.2.1 (pxW l).2.2.2:=by
 have hT:=c2y l hl;have hok:=a5e (G3 l);have hln:(G3 l).length=l.length:=by unfold G3;rw[d4g]
 unfold pxW;generalize n8 (G3 l) 0 false []=r at *;dsimp only
 by_cases h0:r.2.2=0
 ·rw[d3G (λh=>h h0)];obtain⟨hE,hNm,hpos,hle⟩:=hok h0;rw[h0] at hT;have hlt:r.1.length<=65537:=by omega
  have hl2:r.1.length<=1048576:=by omega
  have hv:a27 200 1:=by unfold a27;omega
  have hx:=(d1W hE hNm hlt 200 1 hv).1 (0,0) hpos;have hfit:=(a1f hE 200).1 (0,0) hpos;have hgd:=(b8D hE hlt 200).1 (0,0) hpos;have hnw:NwN (P6 r.1):=b41 (P6 r.1) (λh=>by have:=a8O r.1;rw[h] at this;simp at this;omega) (by rw[a8O];omega);generalize (J1 r.1 200).1 (0,0)=E at *;have hvi:=hfit.hi;have hsz:=hfit.sz;obtain⟨x,hxx⟩:=F5 E.1;have hok6:=okP hl2 hvi;have hpk:=c23 hl2 hvi;unfold N2 at hx hok6;rw[hxx] at hx;rw[c8P] at hx
  by_cases hE0:E.2.2=0
  ·rw[d3G (λh=>h hE0)];have e0:stP r.1 E.2=(0,0,(E.2.1:Int)):=by rw[show E.2=(E.2.1,0) from Prod.ext rfl hE0];rfl
   rw[e0] at hx hok6;rw[show (E.2.2 == 0)=true by rw[hE0];rfl] at hok6;obtain⟨hbal,hgt⟩:=hgd hE0;obtain⟨hm1,hm2⟩:=d2d hxx;have hnN:(m7 E.1.1).length<=1048576:=by rw[<-hbal];simp only at hsz;omega
   by_cases hk:(r9 r.1 E.2.1).kind=4
   ·rw[d3G (λh=>h hk)];have b0:((r9 r.1 E.2.1).kind == 4)=true:=by rw[hk];rfl
    have hcp:=c9E E.1.1 hnN hgt;rw[hm1] at hcp;have hx':F4 12 [vi .i64 1] (P6 r.1) (0,0,0) [.ag [.d (x 0),.d (x 1),.d (x 2),.d (x 3),.d (x 4),.d (x 5),.d (x 6),.d (x 7),.d (x 8),.d (x 9),.d (.sl 1 (rZ E.1.2))]] (0,0,(E.2.1:Int)):=by rw[hm2];exact hx
    by_cases h5:5000<E.1.2.length
    ·rw[d3I h5];exact(d3p hT hnw hx' hok6 hpk b0 (d3S (by rw[b0h];omega))).z
    ·rw[d3G h5];show PxN _ (cM E.1.1) (rZ E.1.2) 0 0;rw[hm1];exact d3q hT hnw hx' hok6 hpk b0 (d3P (by rw[b0h];omega)) hcp
   ·rw[d3I hk];have b0:=d3T hk;have h4:=b6s hl2 hvi 5 (by decide);have h5:=okP hl2 (p:=(E.2.1,5)) hvi;unfold N2 at h4 h5;rw[e0,show F6 5 E.2=(E.2.1,5) by unfold F6;rw[d3G (λh=>h hE0)],b0i r.1 E.2.1 5 (by decide)] at h4;rw[b0i r.1 E.2.1 5 (by decide)] at h5;exact(d3o hT hnw hx hok6 hpk b0 h4 h5).z
  ·rw[d3I hE0];have e0:stP r.1 E.2=(E.2.2,(r9 r.1 E.2.1).at_,(E.2.1:Int)):=b0i r.1 E.2.1 E.2.2 hE0;rw[e0] at hx hok6;rw[show (E.2.2 == 0)=false from d3T hE0] at hok6;exact(d3n hT hnw hx hok6).z
 ·rw[d3I h0];exact(d3m hT (d3T h0)).z
section
theorem b2v {w:World} {b T m:Nat} {cur:Array Value} (h:w.heap[b]?=some (.cells cur T (0,0))):(w.freeze ⟨b,m,none⟩ 1).heap[b]?=some (.cells cur T (m,m+1)):=by
 unfold World.freeze;rw[d3G (by decide)];simp only[d5C,d5R,h]
 simp
theorem a6j {w:World} {b m c:Nat} (hc:c≠b):(w.freeze ⟨b,m,none⟩ 1).heap[c]?=w.heap[c]?:=by
 unfold World.freeze;rw[d3G (by decide)];simp only[d5C];rw[d3G (d5V hc)]
theorem b2w (w:World) (b m:Nat):(w.freeze ⟨b,m,none⟩ 1).os=w.os/\(w.freeze ⟨b,m,none⟩ 1).tape=w.tape/\(w.freeze ⟨b,m,none⟩ 1).output=w.output/\(w.freeze ⟨b,m,none⟩ 1).heap.size=w.heap.size:=by
 unfold World.freeze;rw[d3G (by decide)];exact⟨rfl,rfl,rfl,by simp⟩
theorem c0r {t:Nat} {x:Operand} {d:Option Nat} {s:S} {K:S->Prop} {k e:Nat} {z:Bool} {rows:List (List D)} (ht:j9 t=true) (hby:a4v t=true) (he:(ty t).elem=some e) (hx:s.get x=.own k) (hk:C1 s.o k=.row z e rows) (hne:rows≠[])
  (hK:K (S.put ⟨s.t,K8 s.o k .dead⟩ d (.d (.sl (ty e).sz rows)))):j5.ext (.convert t t x) d s K:=by
 rintro I0 X w0 a w o Q ho hdst hop ⟨I,g,h⟩
 obtain⟨I2,h2,hI⟩:=h.freeze k;have hf:c1a s.o k=K8 s.o k (.row true e rows):=by unfold c1a;rw[hk]
 rw[hf] at h2;have hk0:=C7 hk (by simp);have hlt:k<s.o.length:=(d3J.1 hk0).1;have hk2:(K8 s.o k (.row true e rows))[k]?=some (.row true e rows):=by rw[J0,d4v hlt]
 have hv:AtV I2 w g (a.eval x) (.own k):=by have:=h.get x;rw[hx] at this;exact this.mono hI (C3.refl _ _)
 have hk3:C1 (K8 s.o k (.row true e rows)) k=.row true e rows:=by
  have:∀(l:List O) (k:Nat) (o:O),l[k]?=some o->C1 l k=o:=by
   intro l
   induction l with
   | nil=>intro k o h;simp at h
   | cons y l ih=>intro k o h;cases k with|zero=>simp at h;exact h|succ k=>exact ih k o (by simpa using h)
  exact this _ _ _ hk2
 have hat:AtD I2 w (a.eval x) (.sl (ty e).sz rows):=a9f h2 hv (by show (match C1 (K8 s.o k (.row true e rows)) k with|.row true e rows=>some (D.sl (ty e).sz rows)|_=>none)=_;rw[hk3]);obtain⟨us,hown,hrl,hdr,hbk⟩:=h2.obj k _ hk2;have hgv:a.eval x=g k:=hv.unown.1.trans (a2V hown)
 rcases hown.2 with⟨_,hz⟩|⟨b,cap,cur,e0,_,hb,hnc,hcm,hcs,htake⟩
 ·exact absurd (d4h hz) hne
 obtain⟨e',he',hke,hkk⟩:=a3s hby
 rw[he] at he';obtain rfl:e=e':=Option.some.inj he'
 have hrun:(convert t t (a.eval x)).run Tryz.prog w=.ok (a.eval x) (w.freeze ⟨b,cur.size,none⟩ 1):=by
  have hsh:w.shape? b=some (e,cur.size):=by simp[World.shape?,hb]
  rw[hgv,e0]
  simp[convert,run_underlying (K5 ht he),run_underlying (a5F hke hkk),markStringish,hsh,Result.andThen]
 obtain⟨f1,f2,f3,f4⟩:=b2w w b cur.size;have hgb:gbl (g k) b:=by rw[e0];rfl
 have hcell:∀i,(w.freeze ⟨b,cur.size,none⟩ 1).cell? ⟨b,i,none⟩=w.cell? ⟨b,i,none⟩:=λi=>by
  rw[c1X hb];unfold World.cell?;rw[b2v hb]
  simp
 have h3:=h2.deadTo (k:=k) (o:=.row true e rows) hk2 (by simp) (w':=w.freeze ⟨b,cur.size,none⟩ 1) hgb f1 f2 f3 f4 (λc hc=>a6j hc) hcell
 have hkp:C3 I2 w (w.freeze ⟨b,cur.size,none⟩ 1):=λb' n hb' i hi=>by
  by_cases eb:b'=b
  ·subst eb;exact hcell i
  ·exact a4u (a6j eb) i
 have hso:(K8 s.o k (.row true e rows)).set k .dead=K8 s.o k .dead:=by rw[J0,J0,List.set_set]
 rw[hso] at h3;unfold Oper.wp
 have hex:(execOp a.eval o).run Tryz.prog w=.ok (.value (a.eval x)) (w.freeze ⟨b,cur.size,none⟩ 1):=by
  unfold execOp;rw[ho];simp only[Sem.run_bind,hrun,Result.andThen_ok,Sem.run_pure]
 rw[hex,Oper.upon_value,hdst];exact⟨_,⟨I2,g,h3.put (.d (hat.mono (λ_ _ h=>h) hkp)) _⟩,hK⟩
section
variable {qa:_} {qb:_} {qc:_} {qd:_} {qe:_} {qg:_} {qh:_} {qi:_} {qj:_} {qk:_} {ql:_} {qm:_} {qo:_} {qp:_} {qq:_} {qt:_} {qu:_} {qv:_} {qw:_} {qx:_} {qy:_} {qz:_} {va:_} {vc:_} {vd:_} {ve:_} {vf:_} {vg:_} {vh:_} {vj:_} {vk:_} {vl:_} {vm:_} {vn:_} {vo:_} {vq:_} {vr:_} {vt:_} {vu:_} {vv:_} {vw:_} {vx:_} {vy:_} (hA:Ar.mk qa qb qc qd qe qg qh qi qj qk ql qm qo qp qq qt qu qv qw qx qy qz va vc vd ve vf vg vh vj vk vl vm vn vo vq vr vt vu vv vw vx vy=j5)
include hA
theorem c6O {t:Nat} {x:Operand} {d:Option Nat} {s:S} {K:S->Prop} (k e:Nat) {z:Bool} {rows:List (List D)} (ht:j9 t=true) (hby:a4v t=true) (he:(ty t).elem=some e) (hx:s.get x=.own k) (hk:C1 s.o k=.row z e rows) (hne:rows≠[])
  (hK:K (S.put ⟨s.t,K8 s.o k .dead⟩ d (.d (.sl (ty e).sz rows)))):vw (.convert t t x) d s K:=c8w hA (c0r ht hby he hx hk hne hK)
end
end
end Go.Proofs.YtdjnoafijjepcaaGreat.Vm
end
section
namespace Go.Proofs.YtdjnoafijjepcaaGreat.Vm
open Go.RowKit Go.ChangeShapes Go.WideShapes Go.Deep
section
inductive Deep (P:Program):Nat->List D->Nat->Prop
 | bool {t:Nat} (b:Bool) (h:P.underlying t=some .bool):Deep P t [.sc (.bool b)] 1
 | int {t:Nat} {k:IntKind} (n:Int) (h:P.underlying t=some (.int k)) (hw:(Lit.int k n).wf=true):Deep P t [.sc (.int k n)] 1
 | str {t:Nat} (s:ByteArray) (h:P.underlying t=some .string) (hs:s.size<=maxLen):Deep P t [.sc (.string s)] (s.size+1)
 | sl {t e:Nat} (rows:List (List D)) (ms:List Nat) (h:P.underlying t=some (.slice e)) (hl:ms.length=rows.length) (hb:rows.length<=maxLen)
   (hr:∀(i:Nat) (r:List D) (m:Nat),rows[i]?=some r->ms[i]?=some m->Deep P e r m):Deep P t [.sl (P.cellsOf e) rows] (ms.sum+1)
 | st {t:Nat} {fs:Array Field} (dss:List (List D)) (ms:List Nat) (h:P.underlying t=some (.struct fs)) (h1:dss.length=fs.size) (h2:ms.length=fs.size)
   (hf:∀(i:Nat) (f:Field) (ds:List D) (m:Nat),fs[i]?=some f->dss[i]?=some ds->ms[i]?=some m->Deep P f.type ds m):Deep P t dss.flatten (ms.sum+1)
def a58 (P:Program) (t:Nat) (r:R) (m:Nat):Prop:=match P.underlying t,r with
 | some (.struct _),.ag xs=>Deep P t xs m
 | some (.struct _),.one _=>False
 | _,.one x=>Deep P t [x] m
 | _,.ag _=>False
section
variable {P:Program} {t:Nat} {ds:List D} {m:Nat}
theorem Deep.unint {k:IntKind} (h:Deep P t ds m) (hu:P.underlying t=some (.int k)):∃n,ds=[.sc (.int k n)]/\(Lit.int k n).wf=true/\m=1:=by
 cases h with
 | int n h hw=>rw[hu] at h;cases h;exact⟨n,rfl,hw,rfl⟩
 | _=>simp_all
theorem Deep.unbool (h:Deep P t ds m) (hu:P.underlying t=some .bool):∃b,ds=[.sc (.bool b)]/\m=1:=by
 cases h with
 | bool b h=>exact⟨b,rfl,rfl⟩
 | _=>simp_all
theorem Deep.unstr (h:Deep P t ds m) (hu:P.underlying t=some .string):∃s:ByteArray,ds=[.sc (.string s)]/\s.size<=maxLen/\m=s.size+1:=by
 cases h with
 | str s h hs=>exact⟨s,rfl,hs,rfl⟩
 | _=>simp_all
theorem Deep.unsl {e:Nat} (h:Deep P t ds m) (hu:P.underlying t=some (.slice e)):∃(rows:List (List D)) (ms:List Nat),ds=[.sl (P.cellsOf e) rows]/\ms.length=rows.length/\rows.length<=maxLen/\m=ms.sum+1 /\
  ∀(i:Nat) (r:List D) (m:Nat),rows[i]?=some r->ms[i]?=some m->Deep P e r m:=by
 cases h with
 | sl rows ms h hl hb hr=>rw[hu] at h;cases h;exact⟨rows,ms,rfl,hl,hb,rfl,hr⟩
 | _=>simp_all
end
def a8U (P:Program):List Field->Nat->Nat->Bool
 | [],n,c=>Nat.beq n c
 | f::fs,n,c=>Nat.beq f.offset n && a8U P fs (n+P.cellsOf f.type) c
def b38 (P:Program) (L:List Nat) (t:Nat):Bool:=match P.underlying t with
 | some .bool=>true
 | some (.int _)=>true
 | some .string=>true
 | some (.slice e)=>L.contains e && Nat.blt 0 (P.cellsOf e)
 | some (.struct fs)=>(fs.toList.all λf=>L.contains f.type) && a8U P fs.toList 0 (P.cellsOf t)
 | _=>false
def dataOk (P:Program) (L:List Nat):Bool:=L.all (b38 P L)
theorem b39 {β:Type}:∀ {n:Nat} {p:Nat->β->Prop},(∀i,i<n->∃b,p i b)->∃l:List β,l.length=n/\∀(i:Nat) b,l[i]?=some b->p i b
 | 0,p,h=>⟨[],rfl,λi b hi=>by simp at hi⟩
 | n+1,p,h=>by
  obtain⟨b0,h0⟩:=h 0 (by omega);obtain⟨l,hl,hp⟩:=b39 (n:=n) (p:=λi b=>p (i+1) b) λi hi=>h (i+1) (by omega)
  refine⟨b0::l,by simp[hl],λi b hi=>?_⟩;cases i with
  | zero=>simp at hi;subst hi;exact h0
  | succ i=>exact hp i b (by simpa using hi)
theorem a7Y {I:Nat->Nat->Prop} {w:World}:∀ {css:List (List Value)} {dss:List (List D)},css.length=dss.length->(∀(i:Nat) cs ds,css[i]?=some cs->dss[i]?=some ds->F8 I w cs ds)->F8 I w css.flatten dss.flatten
 | [],[],_,_=>F8.nil I w
 | c::css,d::dss,hl,h=>by
  rw[d4D,d4D];exact(h 0 c d rfl rfl).append (a7Y (by simpa using hl) λi cs ds h1 h2=>h (i+1) cs ds (by simpa using h1) (by simpa using h2))
 | [],_::_,hl,_=>by simp at hl
 | _::_,[],hl,_=>by simp at hl
theorem b0I {P:Program} {cs:List Value}:∀(fs:List Field) (n c:Nat),a8U P fs n c=true->cs.length=c->cs.drop n=(fs.map λf=>(cs.drop f.offset).take (P.cellsOf f.type)).flatten
 | [],n,c,h,hl=>by
  have:n=c:=d6c h;rw[d4w (by omega)];rfl
 | f::fs,n,c,h,hl=>by
  rw[a8U,d3N] at h;have h1:f.offset=n:=d6c h.1;rw[d4a,d4D,<-b0I fs _ c h.2 hl,h1,<-d5i,d46]
theorem b0J {H:Type}:∀ {ms:List Nat} {els:List (DataW H)},ms.length=els.length->(∀(i m:Nat) y,ms[i]?=some m->els[i]?=some y->m<=Rows.uptoBulk y)->ms.sum<=Rows.uptoBulkAll els
 | [],[],_,_=>by simp
 | m::ms,y::els,hl,h=>by
  have h1:=h 0 m y rfl rfl;have h2:=b0J (ms:=ms) (els:=els) (by simpa using hl) λi m y hm hy=>h (i+1) m y (by simpa using hm) (by simpa using hy)
  simp only[d5A,Rows.uptoBulkAll];omega
 | [],_::_,hl,_=>by simp at hl
 | _::_,[],hl,_=>by simp at hl
def Low (w:World) (b _h:Nat):Prop:=b<w.heap.size
section
variable {H:Type} {enc:TypeId×Value->H} {P:Program} {w:World} {base:Nat} {spare:Nat->Bool} {held:Bool}
theorem a7Z {L:List Nat} (hL:dataOk P L=true):∀(fuel t:Nat) (cs:List Value) (x:DataW H×List MemPlace),t∈L->DataW.trod enc P w base spare held fuel t cs=some x->∃ds m,F8 (Low w) w cs ds/\Deep P t ds m/\m<=Rows.uptoBulk x.1
 | 0,t,cs,x,ht,h=>by simp[DataW.trod] at h
 | fuel+1,t,cs,x,ht,h=>by
  have hk:=d4f.1 hL t ht;unfold b38 at hk
  split at hk
  ·rename_i e;obtain⟨b,rfl,rfl⟩:=DataW.trod_bool e h;exact⟨_,_,F8.cons (.sc _ rfl) (F8.nil _ _),.bool b e,by simp[Rows.uptoBulk]⟩
  ·rename_i k e;obtain⟨n,rfl,rfl,hw⟩:=DataW.trod_int e h;exact⟨_,_,F8.cons (.sc _ rfl) (F8.nil _ _),.int n e hw,by simp[Rows.uptoBulk]⟩
  ·rename_i e;obtain⟨s,rfl,rfl,hs⟩:=DataW.trod_string e h;refine⟨_,_,F8.cons (.sc _ rfl) (F8.nil _ _),.str s e hs,?_⟩;have e2:s.data.toList.length=s.size:=by rw[d4K];rfl
   simp only[Rows.uptoBulk];omega
  ·rename_i e he;simp only[d3N,d4O,d4W] at hk
   rcases DataW.trod_slice he h with⟨rfl,rfl⟩|⟨a,len,cap,elems,rest,n,hfu,rfl,rfl,hb,hl,hm,hlen,hel,_,_⟩
   ·exact⟨_,_,F8.cons (.nil none 0 (P.cellsOf e)) (F8.nil _ _),.sl [] [] he rfl (d4o _) (λi r m hr=>by simp at hr),by simp[Rows.uptoBulk]⟩
   ·obtain rfl:n=fuel:=by omega
    have each:∀i,i<len->∃q:List Value×List D×Nat,(w.cells? base (a.add (i * P.cellsOf e)) (P.cellsOf e)=some q.1)/\F8 (Low w) w q.1 q.2.1/\Deep P e q.2.1 q.2.2/\∃y,elems[i]?=some y/\q.2.2<=Rows.uptoBulk y.1:=by
     intro i hi;have h1:=hel i hi;have hei:elems[i]?=some (elems[i]'(by omega)):=d3H (by omega);rw[hei,Option.bind_eq_some_iff] at h1;obtain⟨cs',hc,ht'⟩:=h1;obtain⟨ds,m,h2,h3,h4⟩:=a7Z hL n e cs' _ hk.1 ht';exact⟨(cs',ds,m),hc,h2,h3,_,hei,h4⟩
    obtain⟨l,hll,hp⟩:=b39 each
    have hmap:∀ {β:Type} (f:List Value×List D×Nat->β) (i:Nat) (b:β),(l.map f)[i]?=some b->∃q,l[i]?=some q/\f q=b:=λf i b hi=>by
     rw[d4p,d4S] at hi;exact hi
    have hrl:(l.map λq=>q.2.1).length=len:=by rw[d4g,hll]
    have hcl:∀r∈l.map (λq=>q.1),r.length=P.cellsOf e:=λr hr=>by
     obtain⟨i,hi⟩:=d42.1 hr;obtain⟨q,hq,rfl⟩:=hmap _ i r hi;exact(World.cells?_some (hp i q hq).1).2.1
    have hdl:∀r∈l.map (λq=>q.2.1),r.length=P.cellsOf e:=λr hr=>by
     obtain⟨i,hi⟩:=d42.1 hr;obtain⟨q,hq,rfl⟩:=hmap _ i r hi;rw[<-(hp i q hq).2.1.1];exact(World.cells?_some (hp i q hq).1).2.1
    have hD:Deep P t [.sl (P.cellsOf e) (l.map λq=>q.2.1)] ((l.map λq=>q.2.2).sum+1):=by
     refine .sl _ _ he (by simp) (by rw[hrl];omega) λi r m hr hm=>?_
     obtain⟨q,hq,rfl⟩:=hmap _ i r hr;obtain⟨q',hq',rfl⟩:=hmap _ i m hm;rw[hq] at hq';cases hq';exact(hp i q hq).2.2.1
    have hB:(l.map λq=>q.2.2).sum+1<=Rows.uptoBulk (DataW.slice (elems.map (·.1)) (rest.map (·.1))):=by
     have:=b0J (ms:=l.map λq=>q.2.2) (els:=elems.map (·.1)) (by simp[hll,hlen]) λi m y hm hy=>by
      obtain⟨q,hq,rfl⟩:=hmap _ i m hm;obtain⟨y',hy',h4⟩:=(hp i q hq).2.2.2;rw[d4p,hy'] at hy;cases hy;exact h4
     simp only[Rows.uptoBulk];omega
    refine⟨_,_,F8.cons ?_ (F8.nil _ _),hD,hB⟩
    by_cases h0:len=0
    ·subst h0;rw[d4h hll];exact .nil _ _ _
    obtain⟨b,off,spot⟩:=a;obtain⟨q0,hq0⟩:∃q,l[0]?=some q:=⟨_,d3H (by omega)⟩;have hc0:=(World.cells?_some (hp 0 q0 hq0).1).2;have hq00:q0.1[0]?=some (q0.1[0]'(by omega)):=d3H (by omega);have hcell0:=(hc0.2 0 hk.2).trans hq00
    have hspot:spot=none:=by
     have:=World.cell?_spot hcell0
     simpa [Addr.add] using this
    subst hspot
    have hblk:b<w.heap.size:=by
     have:=World.block_lt_of_cell? w _ hcell0
     simpa [Addr.add] using this
    have add0:∀o j,(⟨b,o,none⟩:Addr).add j=⟨b,o+j,none⟩:=λo j=>by
     unfold Addr.add
     by_cases hj:j=0
     ·subst hj;rfl
     ·simp[hj]
    have hus:(l.map λq=>q.1).flatten.length=len * P.cellsOf e:=by rw[a2j hcl,d4g,hll]
    have hsl:=AtD.sl (I:=Low w) (w:=w) b off cap (P.cellsOf e) (l.map λq=>q.2.1) (l.map λq=>q.1).flatten (by rw[hrl];exact hl) ⟨_,d3Q _,hblk⟩ hdl (by rw[hus,hrl]) (λi u hu=>?_) (λi u d hu hd=>?_)
    ·rw[hrl] at hsl;exact hsl
    ·have hi:i<len * P.cellsOf e:=by rw[<-hus];exact(d3J.1 hu).1
     have hq:i / P.cellsOf e<len:=(Nat.div_lt_iff_lt_mul hk.2).2 hi;have hr:i % P.cellsOf e<P.cellsOf e:=Nat.mod_lt _ hk.2;have ei:i / P.cellsOf e * P.cellsOf e+i % P.cellsOf e=i:=by rw[Nat.mul_comm];exact Nat.div_add_mod i _
     obtain⟨q,hqq⟩:∃q,l[i / P.cellsOf e]?=some q:=⟨_,d3H (by omega)⟩;have hcq:=(World.cells?_some (hp _ q hqq).1).2.2 _ hr;have hfl:=a16 hcl (i:=i / P.cellsOf e) (j:=i % P.cellsOf e) (r:=q.1) (by rw[d4p,hqq];rfl) hr;rw[ei,hu] at hfl;rw[<-hfl,add0,add0,d48,ei] at hcq;exact hcq
    ·exact(a7Y (I:=Low w) (w:=w) (css:=l.map λq=>q.1) (dss:=l.map λq=>q.2.1) (by simp) λi cs ds h1 h2=>by
      obtain⟨q,hq,rfl⟩:=hmap _ i cs h1;obtain⟨q',hq',rfl⟩:=hmap _ i ds h2;rw[hq] at hq';cases hq'
      exact(hp i q hq).2.1).2 i u d hu hd
  ·rename_i fs he;simp only[d3N,d4f,d4O] at hk;obtain⟨xs,n,hfu,rfl,hcl,hxl,hf⟩:=DataW.trod_struct he h;obtain rfl:n=fuel:=by omega
   have each:∀i,i<fs.size->∃q:List D×Nat,∀f,fs[i]?=some f->F8 (Low w) w ((cs.drop f.offset).take (P.cellsOf f.type)) q.1/\Deep P f.type q.1 q.2/\∃y,xs[i]?=some y/\q.2<=Rows.uptoBulk y.1:=by
    intro i hi;have hfi:fs[i]?=some fs[i]:=d4I hi;have hxi:xs[i]?=some (xs[i]'(by omega)):=d3H (by omega);have h1:=hf i _ hfi;rw[hxi] at h1;obtain⟨ds,m,h2,h3,h4⟩:=a7Z hL n _ _ _ (hk.1 _ (Array.getElem_mem_toList ..)) h1;refine⟨(ds,m),λf hff=>?_⟩;rw[hfi] at hff;cases hff;exact⟨h2,h3,_,hxi,h4⟩
   obtain⟨l,hll,hp⟩:=b39 each
   have hmap:∀ {β:Type} (f:List D×Nat->β) (i:Nat) (b:β),(l.map f)[i]?=some b->∃q,l[i]?=some q/\f q=b:=λf i b hi=>by
    rw[d4p,d4S] at hi;exact hi
   refine⟨(l.map (·.1)).flatten,(l.map (·.2)).sum+1,?_,.st _ _ he (by simp[hll]) (by simp[hll]) λi f ds m h1 h2 h3=>?_,?_⟩
   ·have hcut:=b0I fs.toList 0 _ hk.2 hcl;rw[d5b] at hcut;rw[hcut];refine a7Y (by simp[hll]) λi c d h1 h2=>?_
    rw[d4p,d4S] at h1;obtain⟨f,hfi,rfl⟩:=h1;obtain⟨q,hq,rfl⟩:=hmap _ i d h2;exact(hp i q hq f (by simpa using hfi)).1
   ·obtain⟨q,hq,rfl⟩:=hmap _ i ds h2;obtain⟨q',hq',rfl⟩:=hmap _ i m h3;rw[hq] at hq';cases hq';exact(hp i q hq f h1).2.1
   ·have:=b0J (ms:=l.map (·.2)) (els:=xs.map (·.1)) (by simp[hll,hxl]) λi m y hm hy=>by
     obtain⟨q,hq,rfl⟩:=hmap _ i m hm;have hlt:i<fs.size:=by rw[<-hll];exact(d3J.1 hq).1
     obtain⟨y',hy',h4⟩:=(hp i q hq _ (d4I hlt)).2.2;rw[d4p,hy'] at hy;cases hy;exact h4
    simp only[Rows.uptoBulk];omega
  ·cases hk
theorem open_arg {L:List Nat} (hL:dataOk P L=true) {t:Nat} {v:Value} {d:DataW H} {ps:List MemPlace} {rc:Reach} {b0:Nat} (ht:L.contains t=true) (hv:Value.okWide P w rc b0 t v) (h:DataW.Trod enc P w base spare held t v d ps) :
  ∃r m,AtR (Low w) w v r/\a58 P t r m/\m<=Rows.uptoBulk d:=by
 rw[d4O] at ht;obtain⟨fuel,hf⟩:=h;obtain⟨ds,m,h1,h2,h3⟩:=a7Z hL fuel t _ _ ht hf;have hk:=d4f.1 hL t ht;unfold b38 at hk
 split at hk
 ·rename_i e;obtain⟨b,rfl⟩:=okWide_bool e hv;obtain⟨b',rfl,rfl⟩:=h2.unbool e;obtain⟨u,us',e2,h4,_⟩:=h1.uncons
  simp[Value.cells] at e2
  rw[<-e2.1] at h4;exact⟨.one _,_,h4,by unfold a58;rw[e];exact h2,h3⟩
 ·rename_i k e;obtain⟨b,rfl⟩:=okWide_int e hv;obtain⟨b',rfl,_,rfl⟩:=h2.unint e;obtain⟨u,us',e2,h4,_⟩:=h1.uncons
  simp[Value.cells] at e2
  rw[<-e2.1] at h4;exact⟨.one _,_,h4,by unfold a58;rw[e];exact h2,h3⟩
 ·rename_i e;obtain⟨b,rfl⟩:=okWide_string e hv;obtain⟨b',rfl,_,rfl⟩:=h2.unstr e;obtain⟨u,us',e2,h4,_⟩:=h1.uncons
  simp[Value.cells] at e2
  rw[<-e2.1] at h4;exact⟨.one _,_,h4,by unfold a58;rw[e];exact h2,h3⟩
 ·rename_i el e;obtain⟨a,len,cap,rfl⟩:=okWide_slice e hv;obtain⟨rows,ms,rfl,_,_,rfl,_⟩:=h2.unsl e;obtain⟨u,us',e2,h4,_⟩:=h1.uncons
  simp[Value.cells] at e2
  rw[<-e2.1] at h4;exact⟨.one _,_,h4,by unfold a58;rw[e];exact h2,h3⟩
 ·rename_i fs e;obtain⟨cs,rfl,_⟩:=okWide_struct e hv;exact⟨.ag ds,m,⟨cs.toList,by simp,h1⟩,by unfold a58;rw[e];exact h2,h3⟩
 ·cases hk
end
theorem law_true {f:Nat} {rs:List R} (h:o8 f rs [.one (.sc (.bool true))]) {w:World} {args:List Value} (hat:a5G (Low w) w args rs) (hT:b5G (λ_=>False) w:=by exact λ_ h=>nomatch h):Calls Tryz.prog f args.toArray w λe w'=>e=.returned (.bool true)/\Below w.heap.size w w':=by
 refine(h.2 (Low w) w args ⟨λ_ _ h=>h,hT⟩ hat).mono ?_
 rintro e w' ⟨v,rfl,hv,hb⟩
 cases hv;exact⟨rfl,hb⟩
end
end Go.Proofs.YtdjnoafijjepcaaGreat.Vm
end
section
namespace Go.Proofs.YtdjnoafijjepcaaGreat.Vm
open Go.RowKit
set_option maxRecDepth 100000
set_option maxHeartbeats 4000000

def l7:List UInt8:=[102,32,120,46,97,32,43,32,49]
def bx7:List (List D):=[[.sc (.int .u8 102)],[.sc (.int .u8 32)],[.sc (.int .u8 120)],[.sc (.int .u8 46)],[.sc (.int .u8 97)],[.sc (.int .u8 32)],[.sc (.int .u8 43)],[.sc (.int .u8 32)],[.sc (.int .u8 49)]]
def tx7:Tm:=.mk 40 ⟨#[43]⟩ ⟨#[]⟩ 0 false (.mk 0 ⟨#[]⟩ 0 []) [.mk 37 ⟨#[]⟩ ⟨#[]⟩ 0 false (.mk 0 ⟨#[]⟩ 0 []) [.mk 32 ⟨#[102]⟩ ⟨#[]⟩ 0 false (.mk 0 ⟨#[]⟩ 0 []) [],.mk 43 ⟨#[97]⟩ ⟨#[]⟩ 0 false (.mk 0 ⟨#[]⟩ 0 []) [.mk 32 ⟨#[120]⟩ ⟨#[]⟩ 0 false (.mk 0 ⟨#[]⟩ 0 []) []]],.mk 33 ⟨#[]⟩ ⟨#[]⟩ 1 false (.mk 0 ⟨#[]⟩ 0 []) []]
def cx7:List D:=[.sc (.int .u8 40),.sc (.string ⟨#[43]⟩),.sc (.string ⟨#[]⟩),.sc (.int .i64 0),.sc (.bool false),.sc (.int .u8 0),.sc (.string ⟨#[]⟩),.sc (.int .i64 0),.sl 4 [],.sl 10 [[.sc (.int .u8 37),.sc (.string ⟨#[]⟩),.sc (.string ⟨#[]⟩),.sc (.int .i64 0),.sc (.bool false),.sc (.int .u8 0),.sc (.string ⟨#[]⟩),.sc (.int .i64 0),.sl 4 [],.sl 10 [[.sc (.int .u8 32),.sc (.string ⟨#[102]⟩),.sc (.string ⟨#[]⟩),.sc (.int .i64 0),.sc (.bool false),.sc (.int .u8 0),.sc (.string ⟨#[]⟩),.sc (.int .i64 0),.sl 4 [],.sl 10 []],[.sc (.int .u8 43),.sc (.string ⟨#[97]⟩),.sc (.string ⟨#[]⟩),.sc (.int .i64 0),.sc (.bool false),.sc (.int .u8 0),.sc (.string ⟨#[]⟩),.sc (.int .i64 0),.sl 4 [],.sl 10 [[.sc (.int .u8 32),.sc (.string ⟨#[120]⟩),.sc (.string ⟨#[]⟩),.sc (.int .i64 0),.sc (.bool false),.sc (.int .u8 0),.sc (.string ⟨#[]⟩),.sc (.int .i64 0),.sl 4 [],.sl 10 []]]]]],[.sc (.int .u8 33),.sc (.string ⟨#[]⟩),.sc (.string ⟨#[]⟩),.sc (.int .i64 1),.sc (.bool false),.sc (.int .u8 0),.sc (.string ⟨#[]⟩),.sc (.int .i64 0),.sl 4 [],.sl 10 []]]]
theorem c9T:cM tx7=cx7:=by kernel_rfl
theorem c9U:rU l7=bx7:=by kernel_rfl
theorem d2e:pxW l7=(tx7,[0,0,0,2,2,8],0,0):=by kernel_rfl
theorem b6N:∃(K P:List (List D)) (x1 x2 x3 x4 x5 x6 x7 x8 x9:D),o8 5 [.one (.sl 1 bx7)] [.ag [.sc (.int .u8 40),.sc (.string ⟨#[43]⟩),.sc (.string ⟨#[]⟩),.sc (.int .i64 0),.sc (.bool false),.sc (.int .u8 0),.sc (.string ⟨#[]⟩),.sc (.int .i64 0),.sl 4 [],.sl 10 K],.one (.sl 1 P),.one (.sc (.int .i64 0)),.one (.sc (.int .u8 0))]/\K.length=2/\K[0]?=some [.sc (.int .u8 37),x1,x2,x3,x4,x5,x6,x7,x8,x9]/\P.length=6:=by
 have h:=b8K l7 (by decide);rw[d2e,c9U] at h;have h:PxN bx7 (cM tx7) (rZ [0,0,0,2,2,8]) 0 0:=h;rw[c9T] at h;exact⟨_,_,_,_,_,_,_,_,_,_,_,h,rfl,rfl,rfl⟩
theorem b0K:o8 4 [] [.one (.sc (.bool true))]:=by
 obtain⟨K,P,x1,x2,x3,x4,x5,x6,x7,x8,x9,h1,hK,hg,hP⟩:=b6N;unfold bx7 at h1;refine Q5 Tryz.func4 rfl ?_;intro qa _ _ _ _ _ _ _ _ qk _ _ _ _ _ _ _ _ _ _ _ _ va vc;intros;rename_i hA;obtain⟨e1,e2,e3,e4,e5,e6,e7,e8,e9⟩:=m6 hA;obtain⟨r1,r2,r3,r4⟩:=B3 hA;cbv;refine gn ?_;refine E2 hA false ?_;cbv;refine a3c hA true ?_;cbv;refine c6O hA 0 5 (by kernel_rfl) (by kernel_rfl) rfl rfl rfl (by simp) ?_;cbv;have q1:qk (qa .i64 0) 0=true:=by rw[e9,e1];rfl
 have q2:qk (va K) 2=true:=by rw[e9,r1,hK];rfl
 have q3:qk (va P) 6=true:=by rw[e9,r1,hP];rfl
 have q4:vc K 0=some [.sc (.int .u8 37),x1,x2,x3,x4,x5,x6,x7,x8,x9]:=by rw[r2,d3I (by omega)];exact hg
 iterate 2 (try cbv;repeat ((first|with_reducible apply j6 hA|rw[q1]|rw[q2]|rw[q3]|rw[q4]|refine j8 hA _ h1 rfl ?_|refine l9 hA _ h1 ?_|rw[ebr hA]);cbv))
section
def c4c (P:Program):Nat->Code->Bool
 | 0,.seq (.region _ _ dr) d=>!dr && y6 P d
 | m+1,.seq c d=>y6 P c && c4c P m d
 | _,_=>false
def c9V (a:Ar) (H:Array Oper->S->(S->Prop)->Prop):Nat->Code->S->(X->S->Prop)->Prop
 | 0,.seq (.region _ ops _) d,s,K=>H ops s (λs=>a.next (λs=>E9 a d s K) s)
 | m+1,.seq c d,s,K=>E9 a c s (λx s=>c0X (λs=>a.next (λs=>c9V a H m d s K) s) K x s)
 | _,_,_,_=>False
def c9W (ops:Array Oper) (s:S) (K:S->Prop):Prop:=∀(I0:Nat->Nat->Prop) (X:Nat->Prop) (w0:W0) (a:Act) (w:World) (ro:Option Nat) (n:Nat) (Q:Exit->Act->World->Prop),Rel I0 X w0 s a w->(∀s' a' w',Rel I0 X w0 s' a' w'->K s'->Q .normal a' w')->wpListIn (FW ro) n Tryz.prog ops Q ops.toList a w
section
variable {I0:Nat->Nat->Prop} {X:Nat->Prop} {w0:W0}
theorem c6P {ro:Option Nat} {n:Nat}:∀(m:Nat) (c:Code) (s:S) (a:Act) (w:World) (K:Vm.X->S->Prop) (Q:Exit->Act->World->Prop),c4c Tryz.prog m c=true->Rel I0 X w0 s a w->c9V j5 c9W m c s K->(∀e s' a' w',Rel I0 X w0 s' a' w'->K e s'->Q (toE e) a' w')->c.wpIn (FW ro) n Tryz.prog Q a w:=by
 intro m
 induction m with
 | zero =>
  intro c s a w K Q hok h hK hQ;unfold c4c at hok
  split at hok
  ·rename_i dr d _;rw[d3N] at hok;have hd:dr=false:=by simpa using hok.1
   subst hd;refine wpIn_seq (wpIn_region_list (hK I0 X w0 a w ro n _ h λs' a' w' h' hk=>?_));obtain⟨F,hg,hk⟩:=hk;obtain⟨s2,hf,h2⟩:=hg _ _ _ _ _ h';exact N0 d s2 a' w' K Q hok.2 h2 (hk s2 hf) hQ
  ·rename_i h0;cases h0
  ·cases hok
 | succ m ih =>
  intro c s a w K Q hok h hK hQ;unfold c4c at hok
  split at hok
  ·rename_i h0;cases h0
  ·rename_i m' c d h0;cases h0;rw[d3N] at hok;refine wpIn_seq (N0 c s a w _ _ hok.1 h hK λe s' a' w' h' hk=>?_);cases e with
   | normal =>
    obtain⟨F,hg,hk⟩:=hk;obtain⟨s2,hf,h2⟩:=hg _ _ _ _ _ h';exact ih d s2 a' w' K Q hok.2 h2 (hk s2 hf) hQ
   | exit i=>exact hQ (.exit i) _ _ _ h' hk
   | ret=>exact hQ .ret _ _ _ h' hk
  ·cases hok
end
theorem b3A {f:Nat} {fn:Func} {c:Code} {rs q:List R} (m:Nat) (hf:Tryz.prog.funcs[f]?=some fn) (hb:fn.body=some c) (hn:(fn.name != "runtime.NumGoroutine")=true) (hc:c4c Tryz.prog m c=true) (hr:T3 fn.results.toList=true)
  (h:∀qa qb qc qd qe qg qh qi qj qk ql qm qo qp qq qt qu qv qw qx qy qz va vc vd ve vf vg vh vj vk vl vm vn vo vq vr vt vu vv vw vx vy,Ar.mk qa qb qc qd qe qg qh qi qj qk ql qm qo qp qq qt qu qv qw qx qy qz va vc vd ve vf vg vh vj vk vl vm vn vo vq vr vt vu vv vw vx vy=j5->∀H,H=c9W->c9V (Ar.mk qa qb qc qd qe qg qh qi qj qk ql qm qo qp qq qt qu qv qw qx qy qz va vc vd ve vf vg vh vj vk vl vm vn vo vq vr vt vu vv vw vx vy) H m c (a45 rs (fn.ntmps - G7 rs)) (λx s=>c1N (Ar.mk qa qb qc qd qe qg qh qi qj qk ql qm qo qp qq qt qu qv qw qx qy qz va vc vd ve vf vg vh vj vk vl vm vn vo vq vr vt vu vv vw vx vy) fn.results.toList q x s)):o8 f rs q:=by
 refine⟨by unfold a3p;rw[hf];simp only[hn,hb];rfl,?_⟩;intro I w args hI hat;have hlen:=hat.len;refine calls_of_wp hf hb ?_;have hsz:args.toArray.size=G7 rs:=by rw[M9];simp[hlen]
 rw[hsz];refine wpIn_wide.1 (c6P (ro:=none) (n:=0) (I0:=I) (X:=λ_=>False) (w0:=⟨w,λ_=>.nilFunc,0,[]⟩) m c _ _ _ _ _ hc ⟨I,_,a9P hI hat _⟩ (h _ _ _ _ _ _ _ _ _ _ _ _ _ _ _ _ _ _ _ _ _ _ _ _ _ _ _ _ _ _ _ _ _ _ _ _ _ _ _ _ _ _ _ (show Ar.mk j5.wrap j5.add j5.sub j5.mul j5.quo j5.rem j5.bits j5.lt j5.le j5.eq j5.nz j5.seq j5.slt j5.bytes j5.cat j5.fits j5.slen j5.sget j5.ssub j5.txt j5.byt j5.nat j5.len j5.get j5.sub2 j5.app j5.set j5.room j5.mlook j5.mput j5.deq j5.rep j5.call j5.calld j5.callo j5.callx j5.new j5.lit j5.keep j5.next j5.ext j5.reg j5.loop=j5 from rfl) _ rfl) λe s' a' w' hrel hk=>?_)
 have key:b1c j5 s' fn.results.toList q->a'.defers=[]/\∃v,(results fn a'.tmps).run Tryz.prog w'=.ok v w'/\∃v',Ending.returned v=.returned v'/\a3o (nxt I w w') w' v' q/\Below w.heap.size w w':=λhk=>by
  obtain⟨I',g',h'⟩:=hrel;obtain⟨v,h1,h2⟩:=a5P h' hr hk;refine⟨h'.dfr.1,v,h1,v,rfl,?_,⟨h'.fr.os,h'.fr.tape,h'.fr.output,h'.fr.size,λb hb=>h'.fr.block b hb (λhx=>hx)⟩⟩
  have hnx:∀b k,I' b k->nxt I w w' b k:=λb k hbk=>by
   obtain⟨h3,h4⟩:=h'.lt b k hbk
   rcases d4F b w.heap.size with hlt|hge
   ·exact .inl ((h4 hlt).resolve_right (λhx=>hx))
   ·exact .inr ⟨hge,h3⟩
  match q,h2 with
  | [],⟨us,e,hu⟩=>exact⟨us,e,hu.mono hnx (C3.refl _ _)⟩
  | [r],hu=>exact AtR.mono hnx (C3.refl _ _) hu
  | r::r'::q,⟨us,e,hu⟩=>exact⟨us,e,hu.mono hnx (C3.refl _ _)⟩
 cases e with
 | normal=>exact key hk
 | exit i=>exact hk.elim
 | ret=>exact key hk
section
variable {I0:Nat->Nat->Prop} {X:Nat->Prop} {w0:W0} {I:Nat->Nat->Prop} {g:Nat->Value} {s:S} {a:Act} {w:World}
theorem b2x {ro:Option Nat} {n:Nat} {ops:Array Oper} {Q:Exit->Act->World->Prop} {o:Oper} {l:List Oper} {v:Value} {w':World} (hg:o.guard=none) (hd:∀c,o.op≠.defer c) (hex:(execOp a.eval o).run Tryz.prog w=.ok (.value v) w') (h:wpListIn (FW ro) n Tryz.prog ops Q l (a.put o.dst v) w'):wpListIn (FW ro) n Tryz.prog ops Q (o::l) a w:=by
 refine wpListIn_plain hg λKw hKw=>a96 hd ?_
 unfold Oper.wp;rw[hex,Oper.upon_value];exact hKw _ _ h
theorem a4Q (a:Act) (d:Nat) (v:Value) (h:d<a.tmps.size):(a.put (some d) v).eval (.tmp d)=v:=by
 simp[Act.put,Act.eval,Array.getD,h]
theorem c9X (a:Act) (d j:Nat) (v:Value) (h:d≠j):(a.put (some d) v).eval (.tmp j)=a.eval (.tmp j):=by
 simp only[Act.put,Act.eval,Array.getD_eq_getD_getElem?];rw[Array.getElem?_setIfInBounds_ne h]
def c9Y (s:S) (M R:List (List D)):S :=
 let s1:=(s.put (some 63) .jk).put (some 64) .jk
 let s2:=s1.put (some 65) (s1.get (.tmp 0))
 let k:=w8 s2.o
 let s3:=(s2.obj (.row true 5 M)).put (some 66) (.own k)
 let s4:=S.put ⟨I8 k s3.t,K8 (E7 k s3.o) k (.row true 5 R)⟩ (some 67) (.own k)
 s4.put (some 8) (s4.get (.tmp 67))
theorem c6Q {ops:Array Oper} {o1 o2 o3 o4 o5 o6:Oper} {s:S} {K:S->Prop} {ys M R:List (List D)} {t:ByteArray} (hM:M=[[.sc (.int .u8 40)],[.sc (.int .u8 10)]]++ys) (hR:R=M++rU (btl t)) (hne:ys≠[]) (hl:ys.length<=100000) (ht:t.size<=100000) (h0:ops.toList=[o1,o2,o3,o4,o5,o6])
  (p1:o1.op=.buildSlice 22 2 #[(0,.const (.int .u8 40)),(1,.const (.int .u8 10))]) (p2:o2.op=.convert 22 22 (.tmp 63)) (p3:o3.op=.move (.tmp 0)) (p4:o4.op=.call ⟨.builtin .append,#[.tmp 64,.tmp 65],#[22,22]⟩) (p5:o5.op=.call ⟨.builtin .append,#[.tmp 66,.const (.string t)],#[22,9]⟩) (p6:o6.op=.assign (.tmp 67))
  (d1:o1.dst=some 63) (d2:o2.dst=some 64) (d3:o3.dst=some 65) (d4:o4.dst=some 66) (d5:o5.dst=some 67) (d6:o6.dst=some 8)
  (g1:o1.guard=none) (g2:o2.guard=none) (g3:o3.guard=none) (g4:o4.guard=none) (g5:o5.guard=none) (g6:o6.guard=none)
  (hs:s.get (.tmp 0)=.d (.sl 1 ys)) (hn:Nat.ble 68 s.t.length=true) (hK:K (c9Y s M R)):c9W ops s K:=by
 intro I0 X w0 a w ro n Q hrel hQ;subst hR;subst hM;have hn:=d4X hn;obtain⟨I,g,h⟩:=hrel
 have hsz:68<=a.tmps.size:=by
  have:=h.tmp.1
  simp at this
  omega
 have he:(ty 22).elem=some 5:=rfl;have hT:j9 22=true:=rfl;have hke:j9 5=true:=rfl;have hes:(ty 5).sz=1:=rfl;rw[h0];obtain⟨e,rows,us,he',-,hrun,hul,hrl,hr1,hat,hrows⟩:=a2l (K:=λv=>v=.d (.sl 1 [[.sc (.int .u8 40)],[.sc (.int .u8 10)]])) (t:=22) (n:=2) h hT (λe he'=>by rw[he] at he';cases he';exact⟨hke,by rw[hes];decide⟩) #[(0,.const (.int .u8 40)),(1,.const (.int .u8 10))] rfl;rw[he] at he';cases he';rw[hes] at hul hrows;have hrows:rows=[[.sc (.int .u8 40)],[.sc (.int .u8 10)]]:=by injection hrows with h1;injection h1
 subst hrows
 refine b2x (v:=.slice (some ⟨w.heap.size,0,none⟩) 2 2) (w':=w.alloc (.cells us.toArray 5)) g1 (λc hc=>by rw[p1] at hc;cases hc) (by
  unfold execOp;rw[p1]
  simp only[Sem.run_bind,hrun,Result.andThen_ok,Sem.run_pure]) ?_
 rw[d1];have hus:us.toArray.size=2:=by simpa using hul
 have hb1:(w.alloc (.cells us.toArray 5)).heap[w.heap.size]?=some (.cells us.toArray 5 (0,0)):=heap_alloc_new w _;have e2:(a.put (some 63) (.slice (some ⟨w.heap.size,0,none⟩) 2 2)).eval (.tmp 63)=.slice (some ⟨w.heap.size,0,none⟩) 2 2:=a4Q _ _ _ (by omega)
 refine b2x (v:=.slice (some ⟨w.heap.size,0,none⟩) 2 2) (w':=(w.alloc (.cells us.toArray 5)).freeze ⟨w.heap.size,us.toArray.size,none⟩ 1) g2 (λc hc=>by rw[p2] at hc;cases hc) (by
  unfold execOp;rw[p2];obtain⟨x,hx1,hx2,hx3⟩:=a3s (t:=22) rfl;rw[he] at hx1;cases hx1;have hsh:(w.alloc (.cells us.toArray 5)).shape? w.heap.size=some (5,us.toArray.size):=by unfold World.shape?;rw[hb1]
  have hrun:(convert 22 22 (.slice (some ⟨w.heap.size,0,none⟩) 2 2)).run Tryz.prog (w.alloc (.cells us.toArray 5))=.ok (.slice (some ⟨w.heap.size,0,none⟩) 2 2) ((w.alloc (.cells us.toArray 5)).freeze ⟨w.heap.size,us.toArray.size,none⟩ 1):=by
   simp[convert,run_underlying (K5 hT he),run_underlying (a5F hke hx3),markStringish,hsh,Result.andThen]
  simp only[e2,Sem.run_bind,hrun,Result.andThen_ok,Sem.run_pure]) ?_
 rw[d2];obtain⟨f1,f2,f3,f4⟩:=b2w (w.alloc (.cells us.toArray 5)) w.heap.size us.toArray.size
 have hbel:Below w.heap.size w ((w.alloc (.cells us.toArray 5)).freeze ⟨w.heap.size,us.toArray.size,none⟩ 1):=by
  have hb:Below w.heap.size w (w.alloc (.cells us.toArray 5)):=(Below.refl _ _).alloc (d3Q _) _;exact⟨f1.trans hb.os,f2.trans hb.tape,f3.trans hb.output,by rw[f4];exact hb.size,λc hc=>(a6j (by omega)).trans (hb.block c hc)⟩
 have hcell:∀j v,us[j]?=some v->((w.alloc (.cells us.toArray 5)).freeze ⟨w.heap.size,us.toArray.size,none⟩ 1).cell? ((⟨w.heap.size,0,none⟩:Addr).add j)=some v:=λj v hj=>by
  rw[Addr.add_lit];unfold World.cell?;rw[b2v hb1]
  simpa using hj
 have hk2:C3 I w ((w.alloc (.cells us.toArray 5)).freeze ⟨w.heap.size,us.toArray.size,none⟩ 1):=λb k hbk i _=>hbel.cell (p:=⟨b,i,none⟩) (h.lt b k hbk).1
 have hat2:=hat.mono (λ_ _ h=>h) hk2;have h2:=h.grow hbel (I':=I) (λ_ _ h=>h) (λ_ _ h=>.inl h);generalize hw2:(w.alloc (.cells us.toArray 5)).freeze ⟨w.heap.size,us.toArray.size,none⟩ 1=w2 at *;have h3:=(h2.put (x:=.jk) (v:=.slice (some ⟨w.heap.size,0,none⟩) 2 2) (.jk _) (some 63)).put (x:=.jk) (v:=.slice (some ⟨w.heap.size,0,none⟩) 2 2) (.jk _) (some 64);have e3:((a.put (some 63) (.slice (some ⟨w.heap.size,0,none⟩) 2 2)).put (some 64) (.slice (some ⟨w.heap.size,0,none⟩) 2 2)).eval (.tmp 64)=.slice (some ⟨w.heap.size,0,none⟩) 2 2:=a4Q _ _ _ (by show 64<(a.tmps.setIfInBounds 63 _).size;rw[d52];omega)
 have hsz2:68<=((a.put (some 63) (.slice (some ⟨w.heap.size,0,none⟩) 2 2)).put (some 64) (.slice (some ⟨w.heap.size,0,none⟩) 2 2)).tmps.size:=by
  show 68<=((a.tmps.setIfInBounds 63 _).setIfInBounds 64 _).size;rw[d52,d52];exact hsz
 generalize (a.put (some 63) (.slice (some ⟨w.heap.size,0,none⟩) 2 2)).put (some 64) (.slice (some ⟨w.heap.size,0,none⟩) 2 2)=a2 at *;obtain⟨s1,hs1⟩:∃s1,s1=(s.put (some 63) .jk).put (some 64) .jk:=⟨_,rfl⟩;rw[<-hs1] at h3
 have hget1:s1.get (.tmp 0)=.d (.sl 1 ys):=by
  rw[hs1,<-hs];show y8 (H5 (H5 s.t 63 .jk) 64 .jk) 0=y8 s.t 0;cases s.t with
  | nil=>rfl
  | cons x l=>rfl
 refine b2x (v:=a2.eval (.tmp 0)) (w':=w2) g3 (λc hc=>by rw[p3] at hc;cases hc) (by
  unfold execOp;rw[p3]
  simp only[Sem.run_pure]) ?_
 rw[d3];have h4:=h3.put (h3.get (.tmp 0)) (some 65);have e4:(a2.put (some 65) (a2.eval (.tmp 0))).eval (.tmp 64)=.slice (some ⟨w.heap.size,0,none⟩) 2 2:=(c9X _ _ _ _ (by decide)).trans e3;have e5:(a2.put (some 65) (a2.eval (.tmp 0))).eval (.tmp 65)=a2.eval (.tmp 0):=a4Q _ _ _ (by omega);have hsrc0:=h3.get (.tmp 0);rw[hget1] at hsrc0;obtain⟨hd,-⟩:=a8A h3 hsrc0 (o:=some 1) (rows:=ys) rfl;obtain⟨A,cap,hyv,hcap,hrows⟩:=(show AtD I w2 (a2.eval (.tmp 0)) (.sl 1 ys) from hd).slice;rw[hyv] at e4 e5
 rcases hrows with rfl|⟨b,off,vs,rfl,hI,hrl2,hl2,hc2,hds⟩
 ·exact absurd rfl hne
 rw[hyv] at h4 ⊢;generalize a2.put (some 65) (.slice (some ⟨b,off,none⟩) ys.length cap)=a3 at *;obtain⟨s2,hs2⟩:∃s2,s2=s1.put (some 65) (s1.get (.tmp 0)):=⟨_,rfl⟩;rw[<-hs2] at h4;obtain⟨i,z,hi,his,hiz,hzc,hzl,hby⟩:=a2G hke;rw[hes] at his hzl;have hun:=K5 hT he;have hyl:0<ys.length:=d5N.2 hne;have hr:=run_append_grow (P:=Tryz.prog) w2 22 o4.type 5 i z hun hi hiz ⟨w.heap.size,0,none⟩ 2 2 us (by rw[his,hul]) hcell ⟨b,off,none⟩ ys.length cap vs (by rw[his,hl2]) (λj u hu=>by rw[Addr.add_lit];exact hc2 j u hu) (by omega) (by omega) (growslice_fits (by omega) (by have:(2+ys.length) * i.bytes<=137438953472 * 1024:=Nat.mul_le_mul (by omega) hby;omega));have hge:=grownCap_ge w2 (2+ys.length) 2 5;have hcm:=grownCap_le_maxLen w2 (2+ys.length) 2 5 (by unfold maxLen;omega);generalize grownCap w2 (2+ys.length) 2 5=cp at *
 refine b2x (v:=.slice (some ⟨w2.heap.size,0,none⟩) (2+ys.length) cp) (w':=w2.drew.alloc (.cells (us.toArray++vs.toArray++Builtin.zeroCells z.cells (cp - (2+ys.length))) 5)) g4 (λc hc=>by rw[p4] at hc;cases hc) (by
  unfold execOp;rw[p4]
  simp only[resolve,invoke,builtin,Sem.run_bind,Sem.run_pure,Result.andThen_ok,List.map_toArray,d4a,d47,e4,e5,hr]) ?_
 rw[d4]
 have hown:(w2.drew.alloc (.cells (us.toArray++vs.toArray++Builtin.zeroCells z.cells (cp - (2+ys.length))) 5)).ownsRow 0 5 1 (.slice (some ⟨w2.heap.size,0,none⟩) (2+ys.length) cp) (2+ys.length) (us++vs):=by
  have hlen:(us++vs).length=(2+ys.length) * 1:=by rw[d3K,hul,hl2];omega
  refine⟨hlen,.inr ⟨w2.heap.size,_,_,rfl,d4o _,heap_alloc_new w2.drew _,hge,hcm,?_,?_⟩⟩
  ·have hz1:z.cells.size=1:=by rw[hzc];simpa using hzl
   simp only[Array.size_append,d5d,size_zeroCells,hz1,hul,hl2];omega
  ·simp only[d5t,d4q];rw[<-d4q,<-hlen];exact d6s
 have hbel3:Below w2.heap.size w2 (w2.drew.alloc (.cells (us.toArray++vs.toArray++Builtin.zeroCells z.cells (cp - (2+ys.length))) 5)):=(Below.refl _ _).drew.alloc (d3Q _) _;have hsz3:(w2.drew.alloc (.cells (us.toArray++vs.toArray++Builtin.zeroCells z.cells (cp - (2+ys.length))) 5)).heap.size=w2.heap.size+1:=by simp
 generalize w2.drew.alloc (.cells (us.toArray++vs.toArray++Builtin.zeroCells z.cells (cp - (2+ys.length))) 5)=w3 at *;have hk3:C3 I w2 w3:=λb k hbk i _=>hbel3.cell (p:=⟨b,i,none⟩) (h4.lt b k hbk).1
 have h5:=h4.grow hbel3 (I':=λb k=>I b k\/(b=w2.heap.size/\k<=2+ys.length)) (λ_ _ h=>.inl h) (λb k hk=>by
  rcases hk with hk|⟨hk,_⟩
  ·exact .inl hk
  ·exact .inr ⟨by omega,by omega⟩)
 have hatx:F8 (λb k=>I b k\/(b=w2.heap.size/\k<=2+ys.length)) w3 (us++vs) ([[D.sc (.int .u8 40)],[.sc (.int .u8 10)]]++ys).flatten:=by
  rw[d53];exact(hat2.mono (λ_ _ h=>.inl h) hk3).append (hds.mono (λ_ _ h=>.inl h) hk3)
 have h6:=h5.newObj (.row true 5 ([[.sc (.int .u8 40)],[.sc (.int .u8 10)]]++ys)) (.slice (some ⟨w2.heap.size,0,none⟩) (2+ys.length) cp) ⟨us++vs,by
   rw[v7,hes];show w3.ownsRow 0 5 1 _ ([[D.sc (.int .u8 40)],[.sc (.int .u8 10)]]++ys).length _;rw[show ([[D.sc (.int .u8 40)],[.sc (.int .u8 10)]]++ys).length=2+ys.length by rw[d3K];rfl]
   exact hown,λr hr=>by
   rw[hes]
   rcases d4s.1 hr with hr|hr
   ·rw[hes] at hr1;exact hr1 r hr
   ·exact hrl2 r hr,hatx,λb' hb'=>by
   rw[v7] at hb';have hb':=Option.some.inj hb';subst hb';have hll:([[D.sc (.int .u8 40)],[.sc (.int .u8 10)]]++ys).length=2+ys.length:=by rw[d3K];rfl
   refine⟨λ_=>.inr ⟨rfl,by rw[hll,hes];omega⟩,λk hk=>?_,.inl (by have:=h4.fr.size;exact this)⟩
   rcases hk with hk|⟨_,hk⟩
   ·exact absurd (h4.lt _ _ hk).1 (d5P _)
   ·exact⟨rfl,by rw[hll,hes];omega⟩⟩ (λj b' hj hb hb'=>by
   have hb':w2.heap.size=b':=hb';have h4':=h4.blk_lt hj hb
   omega)
 have h7:=h6.put (x:=.own (w8 s2.o)) (v:=.slice (some ⟨w2.heap.size,0,none⟩) (2+ys.length) cp) (.own _ _ _ _ (by rw[A0,v7];rfl)) (some 66)
 have hsz4:68<=a3.tmps.size:=by
  have h8:=h4.tmp.1;rw[hs2,hs1] at h8;have e:(H5 (H5 (H5 s.t 63 .jk) 64 .jk) 65 (s1.get (.tmp 0))).length=s.t.length:=by rw[a0l,a0l,a0l,d4k,d4k,d4k]
  have h8:a3.tmps.toList.length=(H5 (H5 (H5 s.t 63 .jk) 64 .jk) 65 (((s.put (some 63) .jk).put (some 64) .jk).get (.tmp 0))).length:=h8;rw[<-hs1,e,d4K] at h8;omega
 have e6:=a4Q a3 66 (.slice (some ⟨w2.heap.size,0,none⟩) (2+ys.length) cp) (by omega);have e7:∀v,((a3.put (some 66) (.slice (some ⟨w2.heap.size,0,none⟩) (2+ys.length) cp)).put (some 67) v).eval (.tmp 67)=v:=λv=>a4Q _ 67 v (by show 67<(a3.tmps.setIfInBounds 66 _).size;rw[d52];omega)
 generalize a3.put (some 66) (.slice (some ⟨w2.heap.size,0,none⟩) (2+ys.length) cp)=a4 at *;obtain⟨s3,hs3⟩:∃s3,s3=(s2.obj (.row true 5 ([[.sc (.int .u8 40)],[.sc (.int .u8 10)]]++ys))).put (some 66) (.own (w8 s2.o)):=⟨_,rfl⟩;rw[<-hs3] at h7;obtain⟨k,hk⟩:∃k,k=w8 s2.o:=⟨_,rfl⟩
 have hk3:s3.o[k]?=some (.row true 5 ([[.sc (.int .u8 40)],[.sc (.int .u8 10)]]++ys)):=by
  rw[hs3,hk];show (B4 s2.o _)[w8 s2.o]?=_;rw[a0U,A0,d3V (d3Q _),d4V];rfl
 have hxl:([[D.sc (.int .u8 40)],[D.sc (.int .u8 10)]]++ys).length=2+ys.length:=by rw[d3K];rfl
 have hgk:upd g s2.o.length (.slice (some ⟨w2.heap.size,0,none⟩) (2+ys.length) cp) k=.slice (some ⟨w2.heap.size,0,none⟩) (2+ys.length) cp:=by rw[hk,A0,v7]
 obtain⟨i5,j1,j2,j3,j4⟩:=info_parts (show (Tryz.prog.info? 5).map (λi=>(i.zero,i.size,i.bytes))=some (some (.int .u8 0),1,1) by kernel_rfl);obtain⟨v5,w5,hr5,hown5,hsp5⟩:=b0a (P:=Tryz.prog) w3 22 9 o5.type 5 i5 hun (by kernel_rfl) j1 j2 j3 j4 (.slice (some ⟨w2.heap.size,0,none⟩) (2+ys.length) cp) (2+ys.length) (us++vs) hown t (by unfold maxLen;omega) (by omega)
 refine b2x (v:=v5) (w':=w5) g5 (λc hc=>by rw[p5] at hc;cases hc) (by
  unfold execOp;rw[p5]
  simp only[resolve,invoke,builtin,Sem.run_bind,Sem.run_pure,Result.andThen_ok,List.map_toArray,d4a,d47,e6,show a4.eval (.const (.string t))=.string t from rfl,hr5]) ?_
 rw[d5];obtain⟨I6,g6',hg6,h8⟩:=h7.appended (k:=k) (z:=true) (e:=5) (ys:=rU (btl t)) hk3 (us:=us++vs) (by rw[hgk,hes,hxl];exact hown) (λr hr=>c87 _ r hr) (b6l t) (v':=v5) (w':=w5) (by rw[hes,hxl,b2V,P3];exact hown5) (by rw[hgk];exact hsp5);obtain⟨A5,c5,hv5⟩:=a1n hown5;have h9:=h8.put (x:=.own k) (v:=v5) (by rw[hv5];exact .own _ _ _ _ (by rw[hg6,hv5];rfl)) (some 67);have e8:=e7 v5
 refine b2x (v:=v5) (w':=w5) g6 (λc hc=>by rw[p6] at hc;cases hc) (by
  unfold execOp;rw[p6]
  simp only[e8,Sem.run_pure]) ?_
 rw[d6];have h10:=h9.put (h9.get (.tmp 67)) (some 8);rw[e8] at h10;refine hQ _ _ _ ⟨_,_,h10⟩ ?_
 have e:c9Y s ([[.sc (.int .u8 40)],[.sc (.int .u8 10)]]++ys) (([[.sc (.int .u8 40)],[.sc (.int .u8 10)]]++ys)++rU (btl t))=S.put (S.put ⟨I8 k s3.t,(E7 k s3.o).set k (.row true 5 (([[.sc (.int .u8 40)],[.sc (.int .u8 10)]]++ys)++rU (btl t)))⟩ (some 67) (.own k)) (some 8) ((S.put ⟨I8 k s3.t,(E7 k s3.o).set k (.row true 5 (([[.sc (.int .u8 40)],[.sc (.int .u8 10)]]++ys)++rU (btl t)))⟩ (some 67) (.own k)).get (.tmp 67)):=by
  rw[<-J0];unfold c9Y;dsimp only;rw[hk,hs3,hs2,hs1]
 rw[<-e];exact hK
end
end
section
structure TsX (ts:List Tok) (G:Ty->Bool) (N:Int):Prop where
 ends:y5 ts
 names:a0c ts
 len:ts.length<=65537
 at_:∀i,i+1<ts.length->0<=(r9 ts i).at_/\(r9 ts i).at_<N
 num:∀i,i<ts.length->(r9 ts i).kind=2->0<=(r9 ts i).n
 kind:∀n (p:PE),p.1<ts.length->(H3 ts n p).2.2=0->G (H3 ts n p).1=true
section
variable {ts:List Tok} {G:Ty->Bool} {N:Int} (hX:TsX ts G N)
def OkX (G:Ty->Bool) (N:Int) (r:PL×PE):Prop:=r.2.2=0->Y4 G N false r.1
theorem c4d {n:Nat} {p:PE} (h:(H3 ts n p).2.2=0):p.2=0:=by
 by_cases h0:p.2=0
 ·exact h0
 ·unfold H3 at h;rw[d3G h0] at h;exact absurd h h0
def GP (G:Ty->Bool) (N:Int) (m:Pm):Prop:=A3 m.1=true/\(if m.2.1=true then G m.2.2.1=true else m.2.2.1=v8)/\0<=m.2.2.2/\m.2.2.2<N
theorem b0L {p:PE} {r:PL×PE} (h:FitP ts p r) (h0:r.2.2=0):p.1+1<ts.length:=by
 have h1:=(h.ok h0).2;have h2:=h.hi;omega
include hX
theorem a1V {p:PE} (hp:p.1<ts.length) (h:(j7 ts p).2.2=0):A3 (j7 ts p).1=true/\p.2=0/\p.1+1<ts.length/\(j7 ts p).2=(p.1+1,0):=by
 unfold j7 at h ⊢
 split at h
 ·rename_i hc;rw[d3I hc];exact⟨hX.names p.1 hp hc.2,hc.1,hX.ends p.1 hp (by rw[hc.2];decide),rfl⟩
 ·exact absurd h (C8 5 (by decide) p).2
theorem b8L (n:Nat) {p:PE} (hp:p.1<ts.length) (h:(A6 ts n p).2.2=0):GP G N (A6 ts n p).1:=by
 unfold A6 at h ⊢
 split at h
 ·rename_i hc;rw[d3I hc];obtain⟨a1,a2,a3⟩:=b08 hX.ends hp hc;obtain⟨b1,b2,b3⟩:=r8 hX.ends a1;obtain⟨c1,c2,c3⟩:=l8 (s:=a2a) hX.ends b1;have h1:=A2 h;have h2:=c4d h1;have h3:=A2 h2;refine⟨(a1V hX a1 h3).1,?_,hX.at_ p.1 (o9 hX.ends hp hc).1⟩;rw[d3I rfl];exact hX.kind _ _ c1 h1
 ·rename_i hc;rw[d3G hc];obtain⟨w1,w2,w3,w4⟩:=a1V hX hp h;exact⟨w1,rfl,hX.at_ p.1 w3⟩
theorem b5v (n:Nat):∀(k:Nat) (s:List Pm×PE),s.2.1<ts.length->(s.2.2=0->∀m∈s.1,GP G N m)->(E4 ts n k s).2.2=0->∀m∈(E4 ts n k s).1,GP G N m
 | 0,s,h,hs=>hs
 | k+1,s,h,hs=>by
  rw[E4]
  split
  ·rename_i hc;refine b5v n k _ (Y8 hX.ends n h).1 λh0 m hm=>?_
   rcases d4s.1 hm with hm|hm
   ·exact hs hc.1 m hm
   ·rw[d4e.1 hm];exact b8L hX n h h0
  ·exact hs
theorem c0s (n:Nat) {p:PE} (hp:p.1<ts.length) (h:(G0 ts n p).2.2=0):∀m∈(G0 ts n p).1,GP G N m:=by
 unfold G0 at h ⊢;exact b5v hX n _ _ (Y8 hX.ends n hp).1 (λh0 m hm=>by rw[d4e.1 hm];exact b8L hX n hp h0) (A2 h)
omit hX in
theorem c7P {ar:ByteArray} {h:Bool} {a:Ty} (hw:A3 ar=true) (ha:if h=true then G a=true else a=v8):ndB G false 35 ⟨#[]⟩ ar 0 h a 1=true/\∀nm,A3 nm=true->ndB G false 36 nm ar 0 h a 1=true:=by
 have e:(if h=true then decide (0<1) && G a else decide (1<2) && a0A a)=true:=by
  cases h
  ·rw[d3G (by decide)] at ha;rw[d3G (by decide),ha];rfl
  ·rw[d3I rfl] at ha;rw[d3I rfl,ha];rfl
 refine⟨?_,λnm hn=>?_⟩
 ·unfold ndB;rw[show shM 35=some (false,true,1,1) from rfl];dsimp only;rw[d3G (show ¬(35:Int)=33 by decide),d3G (show ¬(35:Int)=34 by decide),e,d3G (show ¬(35:Int)=40 by decide),d3G (show ¬(1:Nat)=99 by decide),show a1U ar true=true from hw];rfl
 ·unfold ndB;rw[show shM 36=some (true,true,1,1) from rfl];dsimp only;rw[d3G (show ¬(36:Int)=33 by decide),d3G (show ¬(36:Int)=34 by decide),e,d3G (show ¬(36:Int)=40 by decide),d3G (show ¬(1:Nat)=99 by decide),show a1U ar true=true from hw,show a1U nm true=true from hn];rfl
omit hX in
theorem c7Q {pl:Int} {r:Bool} {w:ByteArray} {x:PL} (hx:Y4 G N false x) (hp:0<=pl/\pl<N) (hw:r=true->A3 w=true):∀(f:Bool) (l:List Pm),(∀m∈l,GP G N m)->Y4 G N false (fnW pl r w x f l)
 | _,[],_=>by rw[fnW];exact hx
 | f,m::l,h=>by
  rw[fnW];obtain⟨m1,m2,m3⟩:=h m (d3L ..);have ih:=c7Q hx hp hw false l λm hm=>h m (d3M _ hm)
  have hpl:0<=(if f=true then pl else m.2.2.2)/\(if f=true then pl else m.2.2.2)<N:=by
   cases f
   ·exact m3
   ·exact hp
  by_cases hc:f=true/\r=true
  ·rw[d3I hc,d3I hc];refine a0q ((c7P m1 m2).2 w (hw hc.2)) rfl hpl λy hy=>?_
   rw[d4e.1 hy];exact ih
  ·rw[d3G hc,d3G hc];refine a0q (c7P m1 m2).1 rfl hpl λy hy=>?_
   rw[d4e.1 hy];exact ih
variable {ex:PF} (he:∀p:PE,p.2≠0->ex p=(zPL,p)) (hf:E3 ts ex) (hg:∀p:PE,p.1<ts.length->OkX G N (ex p))
omit hX in
include he in
theorem a59 {p:PE} (h:(ex p).2.2=0):p.2=0:=by
 by_cases h0:p.2=0
 ·exact h0
 ·rw[he p h0] at h;exact h
include he hg
theorem b0M (n:Nat) (pl:Int) (r:Bool) (hpl:0<=pl/\pl<N) {p:PE} (hp:p.1<ts.length):OkX G N (G4 ts n ex pl r p):=by
 have hq:(if r=true then (j7 ts p).2 else p).1<ts.length:=by
  split
  ·exact(r8 hX.ends hp).1
  ·exact hp
 intro h;unfold G4 at h ⊢;have h:(ex (G0 ts n (if r=true then (j7 ts p).2 else p)).2).2.2=0:=h;obtain⟨a1,a2,a3,a4⟩:=a0G hX.ends n hq;have h2:=a59 he h;refine c7Q (hg _ a1 h) hpl (λhr=>?_) true _ (c0s hX n hq h2);have h3:=(a4 h2).1;rw[d3I hr] at h3 ⊢;exact(a1V hX hp h3).1
end
end
section
section
variable {G:Ty->Bool} {N:Int}
theorem a2g {op:Int} {nm:ByteArray} {n a:Int} (h:ndB G false op nm N9 n false v8 0=true) (h48:(op == 48)=false) (hp:0<=a/\a<N):Y4 G N false (a1L op nm n a):=a0q (ks:=[]) h h48 hp λx hx=>by cases hx
theorem c6R {nm:ByteArray} (h:A3 nm=true):ndB G false 32 nm N9 0 false v8 0=true:=b5r false (show shM 32=some (true,false,0,0) from rfl) rfl rfl (by decide) rfl (by rw[d3G (by decide)];exact h) rfl
theorem b8M:ndB G false 41 ⟨#[]⟩ N9 0 false v8 0=true:=b5r false (show shM 41=some (false,false,0,0) from rfl) rfl rfl (by decide) rfl rfl rfl
theorem c6S {n:Int} (h:0<=n):ndB G false 33 ⟨#[]⟩ N9 n false v8 0=true:=by
 unfold ndB;rw[show shM 33=some (false,false,0,0) from rfl];dsimp only;rw[d3I rfl,d3S h];rfl
theorem b8N {n:Int} (h:n=0\/n=1):ndB G false 34 ⟨#[]⟩ N9 n false v8 0=true:=by
 rcases h with rfl|rfl <;> rfl
theorem d2f {a:Ty} (h:G a=true):ndB G false 51 ⟨#[]⟩ ⟨#[]⟩ 0 true a 1=true:=by
 unfold ndB;rw[show shM 51=some (false,false,1,2) from rfl];dsimp only;rw[d3G (show ¬(51:Int)=33 by decide),d3G (show ¬(51:Int)=34 by decide),d3I rfl,h];rfl
def ChQ (G:Ty->Bool) (N:Int) (l:List PL):Prop:=∃x0 bs,l=x0::bs/\Y4 G N false x0/\(∀y∈bs,Y4 G N true y)/\∀y∈bs.dropLast,opM y.1≠50
def ChP (G:Ty->Bool) (N:Int) (l:List PL):Prop:=∃x0 bs,l=x0::bs/\Y4 G N false x0/\(∀y∈bs,Y4 G N true y)/\∀y∈bs,opM y.1≠50
theorem ChP.q {l:List PL} (h:ChP G N l):ChQ G N l:=by
 obtain⟨x0,bs,h1,h2,h3,h4⟩:=h;exact⟨x0,bs,h1,h2,h3,λy hy=>h4 y (List.dropLast_subset _ hy)⟩
theorem ChP.snoc {l:List PL} (h:ChP G N l) {y:PL} (hy:Y4 G N true y):ChQ G N (l++[y])/\(opM y.1≠50->ChP G N (l++[y])):=by
 obtain⟨x0,bs,rfl,h2,h3,h4⟩:=h
 have h5:∀z∈bs++[y],Y4 G N true z:=λz hz=>by
  rcases d4s.1 hz with hz|hz
  ·exact h3 z hz
  ·rw[d4e.1 hz];exact hy
 refine⟨⟨x0,bs++[y],rfl,h2,h5,λz hz=>?_⟩,λho=>⟨x0,bs++[y],rfl,h2,h5,λz hz=>?_⟩⟩
 ·rw[List.dropLast_concat] at hz;exact h4 z hz
 ·rcases d4s.1 hz with hz|hz
  ·exact h4 z hz
  ·rw[d4e.1 hz];exact ho
theorem b5w:∀ {bs:List PL},(∀y∈bs,Y4 G N true y)->(∀y∈bs.dropLast,opM y.1≠50)->rtK G true false (bs.map λp=>p.1)=true
 | [],_,_=>by rw[d47,rtK]
 | [y],h,_=>by
  rw[d4a,d47,rtK,show rtM G (true && !false) y.1=true from(h y (d3L ..)).1,rtK]
  simp
 | y::z::bs,h,h2=>by
  have ih:=b5w (bs:=z::bs) (λx hx=>h x (d3M _ hx)) (λx hx=>h2 x (by rw[List.dropLast_cons_of_ne_nil (by simp)];exact d3M _ hx));have ho:opM y.1≠50:=h2 y (by rw[List.dropLast_cons_of_ne_nil (by simp)];exact d3L ..);rw[d4a,rtK,show rtM G (true && !false) y.1=true from(h y (d3L ..)).1,ih,show (opM y.1 != 50)=true from bne_iff_ne.2 ho];rfl
theorem c0t {pl:Int} {l:List PL} (h:ChQ G N l) (hp:0<=pl/\pl<N):Y4 G N false (A9 48 ⟨#[]⟩ ⟨#[]⟩ pl l):=by
 obtain⟨x0,bs,rfl,h2,h3,h4⟩:=h;refine⟨?_,a8u hp λx hx=>?_⟩
 ·show rtM G false (.mk 48 ⟨#[]⟩ ⟨#[]⟩ 0 false v8 ((x0::bs).map λp=>p.1))=true;rw[rtM,b5r false (show shM 48=some (false,false,99,0) from rfl) rfl rfl (by decide) rfl rfl (by rw[d3I rfl,d4g];exact d3S (by simp)),d4a,rtK,show rtM G (((48:Int) == 48) && !true) x0.1=true from h2.1,show rtK G ((48:Int) == 48) false (bs.map λp=>p.1)=true from b5w h3 h4];rfl
 ·rcases d3R.1 hx with rfl|hx
  ·exact h2.2
  ·exact(h3 x hx).2
end
section
variable {ts:List Tok} {G:Ty->Bool} {N:Int} (hX:TsX ts G N) {ex:PF} (he:∀p:PE,p.2≠0->ex p=(zPL,p)) (hf:E3 ts ex) (hg:∀p:PE,p.1<ts.length->OkX G N (ex p))
def GF (G:Ty->Bool) (N:Int) (f:Fd):Prop:=A3 f.1=true/\(0<=f.2.1/\f.2.1<N)/\Y4 G N false f.2.2
theorem c4e {x:PL} (hx:Y4 G N false x):∀l:List Fd,(∀f∈l,GF G N f)->Y4 G N false (fdW x l)
 | [],_=>by rw[fdW];exact hx
 | f::l,h=>by
  rw[fdW];obtain⟨f1,f2,f3⟩:=h f (d3L ..);exact a6h (op:=42) (b:=true) rfl (by decide) (by rw[d3G (by decide)];exact f1) f2 f3 (c4e hx l λf hf=>h f (d3M _ hf))
include hX he hf hg
theorem b5x:∀(k:Nat) (s:List Fd×PE),s.2.1<ts.length->(s.2.2=0->∀f∈s.1,GF G N f)->(C2 ts ex k s).2.1<ts.length/\((C2 ts ex k s).2.2=0->∀f∈(C2 ts ex k s).1,GF G N f)
 | 0,s,h,hs=>⟨h,hs⟩
 | k+1,s,h,hs=>by
  rw[C2]
  split
  ·rename_i hc;obtain⟨a1,a2⟩:=b8A hX.ends hf h hc;obtain⟨k1,k2⟩:=o9 hX.ends h hc;obtain⟨b1,b2,b3⟩:=r8 hX.ends (p:=(s.2.1+1,0)) k1;obtain⟨c1,c2,c3⟩:=l8 (s:=E0) hX.ends b1;refine b5x k _ a1 λh0 f hf'=>?_
   rcases d4s.1 hf' with hf'|hf'
   ·exact hs k2 f hf'
   ·rw[d4e.1 hf'];obtain⟨w1,w2,w3,w4⟩:=a1V hX k1 (A2 (a59 he h0));exact⟨w1,hX.at_ _ w3,hg _ c1 h0⟩
  ·exact⟨h,hs⟩
theorem c0u (pl:Int) (w:ByteArray) (hpl:0<=pl/\pl<N) {p:PE} (hp:p.1<ts.length) (hw:p.2=0->A3 w=true):OkX G N (T9 ts ex pl w p):=by
 obtain⟨c1,c2,c3⟩:=l8 (s:=E0) hX.ends hp
 have hF:=b5x hX he hf hg ts.length ([(w,pl,(ex (l6 ts E0 p)).1)],(ex (l6 ts E0 p)).2) (hf _ c1).hi (λh0 f hf'=>by
  rw[d4e.1 hf']
  exact⟨hw (A2 (a59 he h0)),hpl,hg _ c1 h0⟩)
 intro h;have h2:=A2 h;have h:(l6 ts Z3 (H9 ts ex (a6e ts ex pl w p).2).2).2=0:=h;show Y4 G N false (fdW (H9 ts ex (a6e ts ex pl w p).2).1 (a6e ts ex pl w p).1);unfold a6e at h h2 ⊢;generalize C2 ts ex ts.length ([(w,pl,(ex (l6 ts E0 p)).1)],(ex (l6 ts E0 p)).2)=F at *;unfold H9 at h h2 ⊢
 split at h2
 ·rename_i hb;rw[d3I hb];exact c4e (hg _ (o9 hX.ends hF.1 hb).1 h2) _ (hF.2 (a7V hb))
 ·rename_i hb;rw[d3G hb] at h ⊢;have h3:=(l8 (s:=Z3) hX.ends hF.1);have h4:F.2.1+1<ts.length:=by have:=(h3.2.2 h).2;omega
  exact c4e (a2g b8M rfl (hX.at_ _ h4)) _ (hF.2 h2)
theorem d2g {p:PE} (hp:p.1<ts.length) (h:(U0 ts ex p).2.2=0):Y4 G N true (U0 ts ex p).1/\opM (U0 ts ex p).1.1=if B1 ts N5 p=true then 50 else 49:=by
 unfold U0 at h ⊢
 split at h
 ·rename_i hc;rw[d3I hc,d3I hc];obtain⟨k1,k2⟩:=o9 hX.ends hp hc;obtain⟨b1,b2,b3⟩:=r8 hX.ends (p:=(p.1+1,0)) k1;obtain⟨c1,c2,c3⟩:=l8 (s:=a0h) hX.ends b1;obtain⟨w1,w2,w3,w4⟩:=a1V hX k1 (A2 (a59 he h));refine⟨a0q (b5r true (show shM 50=some (false,true,1,0) from rfl) rfl rfl (by decide) w1 rfl rfl) rfl (hX.at_ _ k1) λy hy=>?_,rfl⟩;rw[d4e.1 hy];exact hg _ c1 h
 ·rename_i hc;rw[d3G hc,d3G hc];obtain⟨a1,_,_⟩:=r8 hX.ends hp;obtain⟨b1,b2,b3⟩:=r8 hX.ends a1;obtain⟨c1,c2,c3⟩:=l8 (s:=a0h) hX.ends b1;have h2:=A2 (a59 he h);obtain⟨w1,w2,w3,w4⟩:=a1V hX a1 h2;obtain⟨v1,v2,v3,v4⟩:=a1V hX hp (b35 h2);refine⟨a0q (b5r true (show shM 49=some (true,true,1,0) from rfl) rfl rfl (by decide) w1 (by rw[d3G (by decide)];exact v1) rfl) rfl (hX.at_ _ v3) λy hy=>?_,rfl⟩;rw[d4e.1 hy];exact hg _ c1 h
theorem c7R:∀(k:Nat) (f:Bool) (s:List PL×PE),s.2.1<ts.length->(s.2.2=0->ChP G N s.1)->(chL ts ex k f s).2.2=0->ChQ G N (chL ts ex k f s).1
 | 0,f,s,h,hs=>λh0=>(hs h0).q
 | k+1,f,s,h,hs=>by
  rw[chL]
  split
  ·rename_i hc
   have hq:(chQ ts f s.2).1<ts.length:=by
    unfold chQ
    split
    ·exact h
    ·exact(l8 (s:=a6V) hX.ends h).1
   have ha:=c3C hX.ends hf he hq;have hb:=λh0=>d2g hX he hf hg hq h0
   split
   ·exact λh0=>((hs hc.1).snoc (hb h0).1).1
   ·rename_i hel;refine c7R k false _ ha.hi λh0=>((hs hc.1).snoc (hb h0).1).2 ?_
    rw[(hb h0).2,d3G hel]
    decide
  ·exact λh0=>(hs h0).q
theorem c4f (pl:Int) (hpl:0<=pl/\pl<N) {p:PE} (hp:p.1<ts.length):OkX G N (Q8 ts ex pl p):=by
 unfold Q8;intro h;have h2:=A2 h;exact c0t (c7R hX he hf hg ts.length true ([(ex p).1],l6 ts a2E (ex p).2) (l8 (s:=a2E) hX.ends (hf p hp).hi).1 (λh0=>⟨(ex p).1,[],rfl,hg p hp (A2 h0),λy hy=>(by cases hy),λy hy=>(by cases hy)⟩) h2) hpl
theorem c6T (n:Nat) (pl:Int) (hpl:0<=pl/\pl<N) {p:PE} (hp:p.1<ts.length):OkX G N (U3 ts n ex pl p):=by
 unfold U3
 split
 ·rename_i h;refine λh2=>a0q (d2f (hX.kind _ _ (o9 hX.ends (hf p hp).hi h).1 (A2 h2))) rfl hpl λx hx=>?_
  rw[d4e.1 hx];exact hg p hp (a7V h)
 ·exact λh2=>hg p hp (A2 h2)
theorem c4g (pl:Int) (hpl:0<=pl/\pl<N) {p:PE} (hp:p.1<ts.length):OkX G N (P5 ts ex pl p):=by
 unfold P5
 split
 ·exact λ_=>a2g b8M rfl hpl
 ·obtain⟨b1,b2,b3⟩:=r8 hX.ends hp
  split
  ·rename_i h;obtain⟨k1,k2⟩:=o9 hX.ends b1 h;intro h2;have h3:=A2 h2;have h4:=A2 (a59 he h3);obtain⟨w1,w2,w3,w4⟩:=a1V hX hp k2;exact a6h (op:=45) (b:=true) rfl (by decide) (by rw[d3G (by decide)];exact w1) hpl (hg _ k1 h4) (hg _ (l8 (s:=M7) hX.ends (hf _ k1).hi).1 h3)
  ·exact c0u hX he hf hg pl _ hpl b1 λh0=>(a1V hX hp h0).1
theorem c9Z (n:Nat) {p:PE} (hp:p.1<ts.length):OkX G N (I3 ts n ex p):=by
 unfold I3
 split
 ·exact λh=>by rename_i h2;exact absurd h h2
 split
 ·rename_i h;exact λ_=>a2g (c6R (hX.names _ hp h)) rfl (hX.at_ _ (hX.ends _ hp (by rw[h];decide)))
 split
 ·rename_i h;exact λ_=>a2g (c6S (hX.num _ hp h)) rfl (hX.at_ _ (hX.ends _ hp (by rw[h];decide)))
 split
 ·rename_i h;exact λ_=>a2g (b8N (.inr rfl)) rfl (hX.at_ _ (o9 hX.ends hp h).1)
 split
 ·rename_i h;exact λ_=>a2g (b8N (.inl rfl)) rfl (hX.at_ _ (o9 hX.ends hp h).1)
 split
 ·rename_i h;have k:=(o9 hX.ends hp h).1;exact c6T hX he hf hg n _ (hX.at_ _ k) (p:=(p.1+1,0)) k
 split
 ·rename_i h;have k:=(o9 hX.ends hp h).1;exact c4g hX he hf hg _ (hX.at_ _ k) (p:=(p.1+1,0)) k
 split
 ·rename_i h;have k:=(o9 hX.ends hp h).1;exact c4f hX he hf hg _ (hX.at_ _ k) (p:=(p.1+1,0)) k
 ·exact λh=>absurd h (C8 5 (by decide) p).2
theorem d0a (n:Nat) {sm:PF} (hs:E3 ts sm) (hsg:∀p:PE,p.1<ts.length->OkX G N (sm p)) {p:PE} (hp:p.1<ts.length):OkX G N (a1e ts n ex sm p):=by
 unfold a1e
 split
 ·exact λh=>by rename_i h2;exact absurd h h2
 split
 ·rename_i h;have k:=(o9 hX.ends hp h).1;exact b0M hX he hg n _ _ (hX.at_ _ k) (p:=(p.1+1,0)) k
 split
 ·rename_i h;have k:=(o9 hX.ends hp h).1;exact b0M hX he hg n _ _ (hX.at_ _ k) (p:=(p.1+1,0)) k
 split
 ·rename_i h;have k:=(o9 hX.ends hp h).1;obtain⟨b1,_,_⟩:=r8 hX.ends (p:=(p.1+1,0)) k;have c1:=(l8 (s:=E0) hX.ends b1).1;have d1:=(l8 (s:=gIn) hX.ends (hf _ c1).hi).1;unfold c0m;intro h2;have h3:=A2 (a59 he h2);obtain⟨w1,w2,w3,w4⟩:=a1V hX (p:=(p.1+1,0)) k (A2 (a59 he h3));exact a6h (op:=38) (b:=true) rfl (by decide) (by rw[d3G (by decide)];exact w1) (hX.at_ _ k) (hg _ c1 h3) (hg _ d1 h2)
 split
 ·rename_i h;have k1:=(o9 hX.ends hp h).1;have c1:=(l8 (s:=a39) hX.ends (hf (p.1+1,0) k1).hi).1;have d1:=(l8 (s:=N5) hX.ends (hf _ c1).hi).1;unfold ifW;intro h2;have h3:=A2 (a59 he h2);have h4:=A2 (a59 he h3);refine a0q (b5r false (show shM 39=some (false,false,3,0) from rfl) rfl rfl (by decide) rfl rfl rfl) rfl (hX.at_ _ k1) λx hx=>?_
  rcases d3R.1 hx with rfl|hx
  ·exact hg _ k1 h4
  rcases d3R.1 hx with rfl|hx
  ·exact hg _ c1 h3
  ·rw[d4e.1 hx];exact hg _ d1 h2
 ·have ha:=hsg p hp;have hin:(sm p).2.2=0->0<=(r9 ts p.1).at_/\(r9 ts p.1).at_<N:=λh=>hX.at_ _ (b0L (hs p hp) h)
  unfold a86
  split
  ·rename_i h;exact λh2=>a6h (op:=40) (b:=true) rfl (by decide) rfl (hin (a7V h)) (ha (a7V h)) (hsg _ (o9 hX.ends (hs p hp).hi h).1 h2)
  split
  ·rename_i h;exact λh2=>a6h (op:=40) (b:=true) rfl (by decide) rfl (hin (a7V h)) (ha (a7V h)) (hsg _ (o9 hX.ends (hs p hp).hi h).1 h2)
  ·exact ha
end
end
section
section
variable {ts:List Tok} {G:Ty->Bool} {N:Int} (hX:TsX ts G N)
include hX
theorem b8O {a:Int}:∀(k:Nat) (s:PL×PE),s.2.1<ts.length->(s.2.2=0->0<=a/\a<N)->OkX G N s->OkX G N (J5 ts a k s)
 | 0,s,_,_,h=>h
 | k+1,s,hs,ha,h=>by
  rw[J5];cases hg:w9 ts W6 s.2 with
  | none=>exact h
  | some g =>
   obtain⟨g1,g2,g3⟩:=K7 hX.ends hs hg;refine b8O k _ (r8 hX.ends (p:=(s.2.1+1,0)) g2).1 (λ_=>ha g1) λh2=>?_
   have hw:=(a1V hX (p:=(s.2.1+1,0)) g2 h2).1;show Y4 G N false (A9 (a1M g) (j7 ts (s.2.1+1,0)).1 ⟨#[]⟩ a [s.1])
   rcases (show a1M g=43\/a1M g=44 by unfold a1M;split;exact .inl rfl;exact .inr rfl) with e|e
   ·rw[e];exact b37 (op:=43) rfl (by decide) hw (ha g1) (h g1)
   ·rw[e];exact b37 (op:=44) rfl (by decide) hw (ha g1) (h g1)
theorem b6O {sg:List ByteArray} {nx:PF} (hsg:∀g∈sg,(a5s.any λs=>s.data.toList == g.data.toList)=true) (hf:E3 ts nx) (hn:∀p:PE,p.1<ts.length->OkX G N (nx p)) {a:Int}:∀(k:Nat) (s:PL×PE),s.2.1<ts.length->(s.2.2=0->0<=a/\a<N)->OkX G N s->OkX G N (a0g sg nx ts a k s)
 | 0,s,hs,_,h=>h
 | k+1,s,hs,ha,h=>by
  rw[a0g];cases hg:w9 ts sg s.2 with
  | none=>exact h
  | some g =>
   obtain⟨g1,g2,g3⟩:=K7 hX.ends hs hg;exact b6O hsg hf hn k _ (hf (s.2.1+1,0) g2).hi (λ_=>ha g1) λh2=>a6h (op:=40) (b:=true) rfl (by decide) (by rw[d3I rfl];exact hsg g g3) (ha g1) (h g1) (hn (s.2.1+1,0) g2 h2)
theorem c4h {pr:PF} (hf:E3 ts pr) (hn:∀p:PE,p.1<ts.length->OkX G N (pr p)) {a:Int}:∀(k:Nat) (s:PL×PE),s.2.1<ts.length->(s.2.2=0->0<=a/\a<N)->OkX G N s->OkX G N (a04 pr ts a k s)
 | 0,s,hs,_,h=>h
 | k+1,s,hs,ha,h=>by
  rw[a04]
  split
  ·rename_i hc;exact c4h hf hn k _ (hf s.2 hs).hi (λ_=>ha hc.1) λh2=>a6h (op:=37) (b:=false) rfl (by decide) rfl (ha hc.1) (h hc.1) (hn s.2 hs h2)
  ·exact h
theorem d2h (m:Nat) {nx pr:PF} (hn:∀p:PE,p.1<ts.length->OkX G N (nx p)) (hr:∀p:PE,p.1<ts.length->OkX G N (pr p)) {p:PE} (hp:p.1<ts.length):OkX G N (a2F ts m nx pr p):=by
 have key:∀(op:Int),op=46\/op=47->p.1+1<ts.length->OkX G N (a4O ts m op pr p):=λop ho k1=>by
  obtain⟨b1,b2,b3⟩:=r8 hX.ends (p:=(p.1+1,0)) k1;unfold a4O
  split
  ·rename_i h;intro h2;exfalso;have h2:(M5 m (j7 ts (p.1+1,0)).2).2=0:=h2;unfold M5 at h2
   split at h2
   ·exact(C8 6 (by decide) _).2 h2
   ·rename_i h3;exact(h.resolve_left h3) h2
  ·rename_i h;have hw:=(a1V hX (p:=(p.1+1,0)) k1 (d4Z.1 λh'=>h (.inr h'))).1;intro h2
   rcases ho with rfl|rfl
   ·exact b37 rfl (by decide) hw (hX.at_ _ k1) (hr _ b1 h2)
   ·exact b37 rfl (by decide) hw (hX.at_ _ k1) (hr _ b1 h2)
 unfold a2F
 split
 ·rename_i h;exact key 46 (.inl rfl) (o9 hX.ends hp h).1
 split
 ·rename_i h;exact key 47 (.inr rfl) (o9 hX.ends hp h).1
 ·exact hn p hp
theorem d2i:∀n,(∀p:PE,p.1<ts.length->OkX G N ((J1 ts n).1 p))/\(∀p:PE,p.1<ts.length->OkX G N ((J1 ts n).2 p))
 | 0=>by
  have h:∀p:PE,p.1<ts.length->OkX G N (zPL,F6 6 p):=λp _ h=>absurd h (C8 6 (by decide) p).2
  exact⟨h,h⟩
 | n+1=>by
  obtain⟨g1,g2⟩:=d2i n;have hE:=hX.ends;obtain⟨h1,h2,h3⟩:=a1f hE n;have hat:E3 ts (I3 ts (n+1) (J1 ts n).1):=λp hp=>a4N hE (n+1) h1 h2 hp
  have hP:E3 ts (a1T ts n (J1 ts n).1 (J1 ts n).2):=(a1f hE (n+1)).2.2;have gP:∀p:PE,p.1<ts.length->OkX G N (a1T ts n (J1 ts n).1 (J1 ts n).2 p):=λp hp=>d2h hX n (λq hq=>b8O hX _ _ (hat q hq).hi (λh=>hX.at_ _ (b0L (hat q hq) h)) (c9Z hX h2 h1 g1 (n+1) hq)) g2 hp
  have gA:∀p:PE,p.1<ts.length->OkX G N (a4b (a1T ts n (J1 ts n).1 (J1 ts n).2) ts p):=λp hp=>c4h hX hP gP _ _ (hP p hp).hi (λh=>hX.at_ _ (b0L (hP p hp) h)) (gP p hp)
  have hA:=b5b hP;have gM:∀p:PE,p.1<ts.length->OkX G N (a4L (a4b (a1T ts n (J1 ts n).1 (J1 ts n).2) ts) ts p):=λp hp=>b6O hX (by decide) hA gA _ _ (hA p hp).hi (λh=>hX.at_ _ (b0L (hA p hp) h)) (gA p hp)
  have hM:=(a1O hE hP).1;have gS:∀p:PE,p.1<ts.length->OkX G N (b5o ts (a1T ts n (J1 ts n).1 (J1 ts n).2) p):=λp hp=>b6O hX (by decide) hM gM _ _ (hM p hp).hi (λh=>hX.at_ _ (b0L (hM p hp) h)) (gM p hp)
  exact⟨λp hp=>d0a hX h2 h1 g1 (n+1) (a1O hE hP).2 gS hp,gP⟩
end
end
def b6P (t:Tok):Prop:=t.kind=2->0<=t.n
theorem c4i (l:List Int):0<=(a2q l).1:=by
 unfold a2q
 split
 ·exact d6v _
 ·rename_i h
  split
  ·exact d6v _
  ·have ha:l.all I4=true:=d4Z.1 λh'=>h (.inr h')
   have hd:a5W l:=λx hx=>(a5c x).1 (d4f.1 ha x hx)
   exact(c5v hd).1
theorem c4j (s:ByteArray) (a:Int):b6P (L8 s a).1:=by
 unfold L8
 split
 ·exact λ_=>c4i _
 split
 ·exact λh=>absurd (show (3:Int)=2 from h) (by decide)
 split
 ·exact λh=>absurd (show (1:Int)=2 from h) (by decide)
 split
 ·exact λh=>absurd (show (1:Int)=2 from h) (by decide)
 ·exact λh=>absurd (show (1:Int)=2 from h) (by decide)
theorem b5y (l:List Int):∀(m a:Nat) (rem:Bool) (out:List Tok),l.length - a<=m->(∀t∈out,b6P t)->∀t∈(n8 l a rem out).1,b6P t
 | m,a,rem,out,hm,ho=>by
  rw[a09];unfold body
  by_cases ha:a<l.length
  ·rw[d3I ha]
   have go:∀(a':Nat) (rem:Bool) (out':List Tok),a<a'->(∀t∈out',b6P t)->∀t∈(n8 l a' rem out').1,b6P t:=λa' rem' out' h1 h2=>by
    match m,hm with
    | 0,hm=>omega
    | m+1,hm=>exact b5y l m a' rem' out' (by omega) h2
   have snoc:∀t,b6P t->∀x∈out++[t],b6P x:=λt ht x hx=>by
    rcases d4s.1 hx with hx|hx
    ·exact ho x hx
    ·cases d4e.1 hx;exact ht
   by_cases h0:nx l a=0
   ·rw[d3I h0];exact λt ht=>by cases ht
   rw[d3G h0]
   by_cases h1:rem=true
   ·rw[d3I h1];exact go _ _ _ (by omega) ho
   rw[d3G h1]
   by_cases h2:J9 (gb l a)=true
   ·rw[d3I h2];exact go _ _ _ (by omega) ho
   rw[d3G h2]
   by_cases h3:gb l a=35
   ·rw[d3I h3];exact go _ _ _ (by omega) ho
   rw[d3G h3]
   by_cases h4:H2 (gb l a)=true
   ·rw[d3I h4]
    by_cases h5:(L8 (strOfNums (G9 l a)) a).2=0
    ·rw[d3I h5];have:=a5d ha h4;exact go _ _ _ (by omega) (snoc _ (c4j _ _))
    ·rw[d3G h5];exact λt ht=>by cases ht
   rw[d3G h4]
   by_cases h6:C4 (l.drop a)=0
   ·rw[d3I h6];exact λt ht=>by cases ht
   rw[d3G h6];exact go _ _ _ (by omega) (snoc _ λh=>absurd (show (3:Int)=2 from h) (by decide))
  ·rw[d3G ha]
   exact λt ht=>by
    rcases d4s.1 ht with ht|ht
    ·exact ho t ht
    ·rw[d4e.1 ht];exact λh=>absurd (show (4:Int)=2 from h) (by decide)
theorem tsX {l:List Int} {G:Ty->Bool} (h:(n8 l 0 false []).2.2=0) (hl:l.length<=65536) (hk:∀n (p:PE),p.1<(n8 l 0 false []).1.length->(H3 (n8 l 0 false []).1 n p).2.2=0->G (H3 (n8 l 0 false []).1 n p).1=true):TsX (n8 l 0 false []).1 G (l.length:Int):=by
 obtain⟨h1,h2,h3,h4⟩:=a5e l h;have ha:=c8K l h;refine⟨h1,h2,by omega,λi hi=>⟨(ha.lo i (by omega)).1,?_⟩,λi hi=>?_,hk⟩
 ·have h5:=ha.up i (i+1) (by omega) hi;have h6:=(ha.lo (i+1) hi).2;omega
 ·exact b5y l l.length 0 false [] (by omega) (λt ht=>by cases ht) _ (d3U (W5 hi))
theorem c4k {G:Ty->Bool} (l:List UInt8) (hl:l.length<=65536) (h:(pxW l).2.2.2=0) (hk:∀n (p:PE),p.1<(n8 (G3 l) 0 false []).1.length->(H3 (n8 (G3 l) 0 false []).1 n p).2.2=0->G (H3 (n8 (G3 l) 0 false []).1 n p).1=true) :
  rtM G false (pxW l).1=true/\(∀p∈(pxW l).2.1,0<=p/\p<(l.length:Int))/\(pxW l).2.1.length=(m7 (pxW l).1).length:=by
 have hln:(G3 l).length=l.length:=by unfold G3;rw[d4g]
 have hok:=a5e (G3 l);have hts:=λh0=>tsX (l:=G3 l) (G:=G) h0 (by omega) hk
 rw[hln] at hts;unfold pxW at h ⊢;generalize n8 (G3 l) 0 false []=r at *;dsimp only at h ⊢
 by_cases h0:r.2.2=0
 ·rw[d3G (λh=>h h0)] at h ⊢;obtain⟨hE,hNm,hpos,hle⟩:=hok h0;have hx:=(d2i (hts h0) 200).1 (0,0) hpos;have hgd:=(b8D hE (by omega) 200).1 (0,0) hpos;generalize (J1 r.1 200).1 (0,0)=E at *
  by_cases hE0:E.2.2=0
  ·rw[d3G (λh=>h hE0)] at h ⊢
   by_cases hk4:(r9 r.1 E.2.1).kind=4
   ·rw[d3G (λh=>h hk4)] at h ⊢
    by_cases h5:5000<E.1.2.length
    ·rw[d3I h5] at h;exact absurd (show (7:Int)=0 from h) (by decide)
    ·rw[d3G h5];exact⟨(hx hE0).1,(hx hE0).2,(hgd hE0).1⟩
   ·rw[d3I hk4] at h;exact absurd (show (5:Int)=0 from h) (by decide)
  ·rw[d3I hE0] at h;exact absurd h hE0
 ·rw[d3I h0] at h;exact absurd h h0
end Go.Proofs.YtdjnoafijjepcaaGreat.Vm
end
section
namespace Go.Proofs.YtdjnoafijjepcaaGreat.Vm
open Go.RowKit
set_option maxRecDepth 100000
set_option maxHeartbeats 8000000
theorem c0v {t x:Ty} (h:x∈t.kids):x∈t.parts:=by
 rw[B5];exact d3M _ (d40.2 ⟨x,h,by rw[J4];exact d3L ..⟩)
theorem b0N {tl:Ty}:∀ {fs:List (ByteArray×Ty)} {x:Ty},x∈(a0E fs tl).parts->x.op=11\/(∃f∈fs,x∈f.2.parts)\/x∈tl.parts
 | [],x,h=>.inr (.inr h)
 | f::fs,x,h=>by
  rw[a2v,B5] at h
  rcases d3R.1 h with rfl|h
  ·exact .inl rfl
  ·simp only[Ty.kids,d4m,d4t,d4d,d4s] at h
   rcases h with h|h
   ·exact .inr (.inl ⟨f,d3L ..,h⟩)
   ·rcases b0N h with h|⟨g,hg,h⟩|h
    ·exact .inl h
    ·exact .inr (.inl ⟨g,d3M _ hg,h⟩)
    ·exact .inr (.inr h)
theorem a8w {W:ByteArray->Bool}:∀(n:Nat) (t:Ty) (s:Int),t.parts.length<=n->B6 W t s=true->∀x∈(y9 t).parts,a1H x=true->x∈t.parts:=by
 intro n
 induction n with
 | zero=>intro t s h;have:=F9 t;omega
 | succ n ih =>
  intro t s hn h x hx hv;have hself:t∈t.parts:=by rw[J4];exact d3L ..
  by_cases h11:t.op=11
  ·obtain⟨rfl,-⟩:=a7J h h11;have hsp:=(a2y h).self;rw[b3s h] at hx
   rcases b0N hx with h1|⟨f,hf,h1⟩|h1
   ·rw[a7K] at hv;omega
   ·obtain⟨f0,hf0,rfl⟩:=d4U.1 hf;have hm:=T4 hf0;have h2:=a0d _ t (d3Q _) f0 hm;exact a0O (ih f0.2 116 (by omega) ((a6M h).1 f0 hm).2 x h1 hv) (a3X _ t (d3Q _) f0 hm)
   ·exact a0O h1 (c29 hsp)
  ·rw[a1t h11,B5] at hx
   rcases d3R.1 hx with rfl|hx
   ·have hv':t.op=7\/t.op=10:=by rw[a7K] at hv;exact hv
    rw[b4N h hv',d47];rw[show Ty.mk t.op t.name t.n []=t by conv=>rhs;rw[Ty.eta t,b4N h hv']];exact hself
   ·simp only[Ty.kids] at hx;obtain⟨y,hy,hxy⟩:=d40.1 hx;obtain⟨z,hz,rfl⟩:=d4U.1 hy;obtain⟨k,hk,h1,h2,h3,h4,h5,h6⟩:=a0f h;obtain⟨c,hc⟩:=a2w W _ _ h6 z hz;have:=(J7 t).2 z hz;exact a0O (ih z c (by omega) hc x hxy hv) (c0v hz)
def c0w (t:Ty):Bool:=G2 t 116 && t.parts.all λx=>!(a1H x)
theorem c6U {t:Ty} (h:∀x∈t.parts,a1H x=false):a2L t=true:=by
 unfold a2L;rw[d4f];intro x hx;rw[d4f];intro y hy
 have h7:(x.op == 7)=false:=by
  have:=h x hx;unfold a1H at this;rw[d5G] at this;exact this.1
 unfold a2t;rw[h7];rfl
theorem d2j {t:Ty} (h:Rt t 116):c0w (y9 t)=true:=by
 have hs:=b4M _ t 116 (d3Q _) h.1
 have hv:∀x∈(y9 t).parts,a1H x=false:=λx hx=>by
  cases hb:a1H x
  ·rfl
  ·have:=h.2 x (a8w _ t 116 (d3Q _) h.1 x hx hb);rw[a7K] at hb;omega
 unfold c0w G2;rw[hs,c6U hv,d4f.2 λx hx=>by rw[hv x hx];rfl];rfl
theorem c6V {ts:List Tok} (hE:y5 ts) (hN:a0c ts) (n:Nat) (p:PE) (hp:p.1<ts.length) (h:(H3 ts n p).2.2=0):c0w (H3 ts n p).1=true:=by
 have h0:=c4d h;unfold H3 at h ⊢;rw[d3I h0] at h ⊢;have hr:=b07 hE hN n (p.1,0) hp;unfold T8 at h ⊢
 split at h
 ·rename_i hc;exact absurd h hc
 ·rename_i hc;rw[d3G hc];exact d2j (hr (d4Z.1 hc))
theorem c6W (l:List UInt8) (hl:l.length<=65536) (h:(pxW l).2.2.2=0):rtM c0w false (pxW l).1=true/\(∀p∈(pxW l).2.1,0<=p/\p<(l.length:Int))/\(pxW l).2.1.length=(m7 (pxW l).1).length:=by
 refine c4k l hl h ?_
 by_cases h0:(n8 (G3 l) 0 false []).2.2=0
 ·obtain⟨h1,h2,h3,h4⟩:=a5e (G3 l) h0;exact λn p hp hk=>c6V h1 h2 n p hp hk
 ·exfalso;unfold pxW at h;dsimp only at h;rw[d3I h0] at h;exact h0 h
end Go.Proofs.YtdjnoafijjepcaaGreat.Vm
end
section
namespace Go.Proofs.YtdjnoafijjepcaaGreat.Vm
open Go.RowKit
set_option maxRecDepth 100000
set_option maxHeartbeats 4000000
section
structure Sh (ts us:List Tok):Prop where
 ends:y5 ts
 k1:∀i,i<ts.length->((r9 us (i+1)).kind=1↔(r9 ts i).kind=1)
 k2:∀i,i<ts.length->((r9 us (i+1)).kind=2↔(r9 ts i).kind=2)
 tx:∀i,i<ts.length->(r9 ts i).kind=1->(r9 us (i+1)).text=(r9 ts i).text
 nn:∀i,i<ts.length->(r9 ts i).kind=2->(r9 us (i+1)).n=(r9 ts i).n
 sg:∀i,i<ts.length->∀s:ByteArray,(s.data.toList == [41])=false->Z5 (r9 us (i+1)) s=Z5 (r9 ts i) s
 sr:∀i,i<ts.length->∀s:ByteArray,Z5 (r9 ts i) s=true->Z5 (r9 us (i+1)) s=true
 len:ts.length<=us.length
def SmS (b m:Nat) (p q:PE):Prop:=p.2=0->q=(p.1+1,0)\/(q.2=6/\b+m<=p.1)
def SmV {α β:Type} (V:α->β->Prop) (b m:Nat) (r:α×PE) (s:β×PE):Prop:=SmS b m r.2 s.2/\(r.2.2=0->s.2.2=0->V r.1 s.1)
theorem SmS.z {b m:Nat} {p q:PE} (h:p.2≠0):SmS b m p q:=λh0=>absurd h0 h
theorem SmS.ok {b m i:Nat}:SmS b m (i,0) (i+1,0):=λ_=>.inl rfl
theorem SmS.le {b m k:Nat} {p q:PE} (h:SmS b m p q) (hk:k<=m):SmS b k p q:=λh0=>(h h0).imp id λh=>⟨h.1,by omega⟩
theorem SmS.six {b m:Nat} {p q:PE} (h:q.2=6) (hl:p.2=0->b+m<=p.1):SmS b m p q:=λh0=>.inr ⟨h,hl h0⟩
theorem SmV.z {α β:Type} {V:α->β->Prop} {b m:Nat} {r:α×PE} {s:β×PE} (h:r.2.2≠0):SmV V b m r s:=⟨.z h,λh0=>absurd h0 h⟩
theorem SmS.eq {b m:Nat} {p q:PE} (h:SmS b m p q) (h0:p.2=0) (h1:q.2=0):q=(p.1+1,0):=(h h0).resolve_right λh=>by rw[h1] at h;exact absurd h.1 (by decide)
theorem I5 {q:PE} (h:q.2=6):q.2≠0:=by rw[h];decide
structure Pc {α β:Type} (ts:List Tok) (V:α->β->Prop) (M:Nat) (f:PE->α×PE) (g:PE->β×PE):Prop where
 hi:∀p:PE,p.1<ts.length->(f p).2.1<ts.length
 lo:∀p:PE,p.1<ts.length->(f p).2.2=0->p.2=0/\p.1<(f p).2.1
 er:∀p:PE,p.2≠0->(g p).2.2=p.2
 sm:∀i,i<ts.length->SmV V i M (f (i,0)) (g (i+1,0))
theorem Pc.at {α β:Type} {ts:List Tok} {V:α->β->Prop} {M:Nat} {f:PE->α×PE} {g:PE->β×PE} (h:Pc ts V M f g) {b m:Nat} {p q:PE} (hp:p.1<ts.length) (hs:SmS b m p q) (hm:p.2=0->b+m<=p.1+M):SmV V b m (f p) (g q):=by
 by_cases h0:(f p).2.2=0
 ·obtain⟨h1,h2⟩:=h.lo p hp h0;obtain⟨a,c⟩:=p;have h1:c=0:=h1;subst h1
  rcases hs rfl with e|⟨e1,e2⟩
  ·have e:q=(a+1,0):=e;subst e;have h3:=h.sm a hp;refine⟨λh0=>(h3.1 h0).imp id λh4=>⟨h4.1,?_⟩,h3.2⟩;have:=hm rfl;have h4:=h4.2;simp only at this;omega
  ·refine⟨λ_=>.inr ⟨(h.er q (I5 e1)).trans e1,?_⟩,λ_ h5=>?_⟩
   ·simp only at e2 h2;omega
   ·rw[h.er q (I5 e1),e1] at h5;exact absurd h5 (by decide)
 ·exact .z h0
section
variable {ts us:List Tok} (hS:Sh ts us) {b m:Nat} {p q:PE}
include hS
theorem M8 (s:ByteArray) (hs:(s.data.toList == [41])=false) {i:Nat} (hi:i<ts.length):B1 us s (i+1,0)=B1 ts s (i,0):=by
 unfold B1;show ((0:Int) == 0 && Z5 (r9 us (i+1)) s)=((0:Int) == 0 && Z5 (r9 ts i) s);rw[hS.sg i hi s hs]
theorem G8 (s:ByteArray) (hp:p.1<ts.length) (h:SmS b m p q):SmS b (m+1) (l6 ts s p) (l6 us s q):=by
 intro h0;have h1:=A2 h0;have h2:=(l8 hS.ends hp).2.2 h0;obtain⟨a,c⟩:=p;have h1:c=0:=h1;subst h1
 have hg:Z5 (r9 ts a) s=true:=by
  unfold l6 at h0;rw[d3G (λh=>h rfl)] at h0
  by_cases hg:Z5 (r9 ts a) s=true
  ·exact hg
  ·rw[d3G hg] at h0;exact absurd (show (5:Int)=0 from h0) (by decide)
 have e:l6 ts s (a,0)=(a+1,0):=by unfold l6;rw[d3G (λh=>h rfl),d3I hg]
 rw[e]
 rcases h rfl with e1|⟨e1,e2⟩
 ·have e1:q=(a+1,0):=e1;subst e1;refine .inl ?_;unfold l6;rw[d3G (λh=>h rfl),d3I (hS.sr a hp s hg)]
 ·refine .inr ⟨by rw[b34 (I5 e1)];exact e1,?_⟩;show b+(m+1)<=a+1;simp only at e2;omega
theorem a1g (hp:p.1<ts.length) (h:SmS b m p q):SmV Eq b (m+1) (j7 ts p) (j7 us q):=by
 by_cases h0:(j7 ts p).2.2=0
 ·have h1:=b35 h0;obtain⟨a,c⟩:=p;have h1:c=0:=h1;subst h1
  have hk:(r9 ts a).kind=1:=by
   unfold j7 at h0
   by_cases hk:(0:Int)=0/\(r9 ts a).kind=1
   ·exact hk.2
   ·rw[d3G hk] at h0;exact absurd h0 (C8 5 (by decide) _).2
  have e:j7 ts (a,0)=((r9 ts a).text,(a+1,0)):=by unfold j7;rw[d3I ⟨rfl,hk⟩]
  rw[e]
  rcases h rfl with e1|⟨e1,e2⟩
  ·have e1:q=(a+1,0):=e1;subst e1;have e2:j7 us (a+1,0)=((r9 us (a+1)).text,(a+1+1,0)):=by unfold j7;rw[d3I ⟨rfl,(hS.k1 a hp).2 hk⟩]
   rw[e2];exact⟨λ_=>.inl rfl,λ_ _=>(hS.tx a hp hk).symm⟩
  ·rw[c3H (I5 e1)];refine⟨λ_=>.inr ⟨e1,?_⟩,λ_ h=>absurd (h:q.2=0) (I5 e1)⟩;show b+(m+1)<=a+1;simp only at e2;omega
 ·exact .z h0
omit hS in
theorem a5m {σ τ:Type} {V:σ->τ->Prop} {F:Nat->σ×PE->σ×PE} {G:Nat->τ×PE->τ×PE} {f:σ×PE->Option (σ×PE)} {g:τ×PE->Option (τ×PE)}
  (hF0:∀s,F 0 s=s) (hF:∀k s,F (k+1) s=(f s).elim s (F k)) (hG0:∀s,G 0 s=s) (hG:∀k s,G (k+1) s=(g s).elim s (G k))
  (e1:∀s,s.2.2≠0->f s=none) (e2:∀s,s.2.2≠0->g s=none)
  (mo:∀s s1,s.2.1<ts.length->f s=some s1->s1.2.1<ts.length/\(s1.2.2=0->s.2.1<s1.2.1))
  (st:∀s s',s.2.1<ts.length->s.2.2=0->b<=s.2.1->s'.2=(s.2.1+1,0)->V s.1 s'.1->(f s=none/\g s'=none)\/∃s1 s1',f s=some s1/\g s'=some s1'/\SmV V b m s1 s1') :
  ∀(k k':Nat) (s:σ×PE) (s':τ×PE),s.2.1<ts.length->(s.2.2=0->b<=s.2.1/\ts.length - s.2.1<=k/\ts.length - s.2.1<=k')->SmV V b m s s'->SmV V b m (F k s) (G k' s'):=by
 have hFe:∀k s,s.2.2≠0->F k s=s:=λk s h=>by
  cases k with
  | zero=>exact hF0 s
  | succ k=>rw[hF,e1 s h];rfl
 have hGe:∀k s,s.2.2≠0->G k s=s:=λk s h=>by
  cases k with
  | zero=>exact hG0 s
  | succ k=>rw[hG,e2 s h];rfl
 intro k
 induction k with
 | zero =>
  intro k' s s' hs hk h;rw[hF0]
  by_cases h0:s.2.2=0
  ·have:=hk h0;omega
  ·exact .z h0
 | succ k ih =>
  intro k' s s' hs hk h
  by_cases h0:s.2.2=0
  ·obtain⟨hb,hk1,hk2⟩:=hk h0;cases k' with
   | zero=>omega
   | succ k' =>
    rcases h.1 h0 with e|⟨e,e3⟩
    ·rw[hF,hG]
     rcases st s s' hs h0 hb e (h.2 h0 (by rw[e])) with⟨a1,a2⟩|⟨s1,s1',a1,a2,a3⟩
     ·rw[a1,a2];exact h
     ·rw[a1,a2];obtain⟨b1,b2⟩:=mo s s1 hs a1;refine ih k' s1 s1' b1 (λh1=>?_) a3;have:=b2 h1;omega
    ·rw[hGe _ s' (I5 e),hF];cases hf:f s with
     | none=>exact h
     | some s1 =>
      obtain⟨b1,b2⟩:=mo s s1 hs hf;have h4:SmV V b m s1 s':=⟨λh1=>.inr ⟨e,by have:=b2 h1;omega⟩,λ_ h1=>absurd h1 (I5 e)⟩;have:=ih k' s1 s' b1 (λh1=>by have:=b2 h1;omega) h4;rw[hGe _ s' (I5 e)] at this;exact this
  ·rw[hFe _ s h0];exact .z h0
structure RdOk (ts us:List Tok) (M:Nat) (rd rd':PE->Ty×PE):Prop where
 fit:a7Q ts rd
 er:∀p:PE,p.2≠0->(rd' p).2.2=p.2
 sm:∀i,i<ts.length->SmV Eq i M (rd (i,0)) (rd' (i+1,0))
omit hS in
theorem RdOk.pc {M:Nat} {rd rd':PE->Ty×PE} (h:RdOk ts us M rd rd'):Pc ts Eq M rd rd' where
 hi p hp:=(h.fit p hp).1.hi
 lo p hp h0:=by
  obtain⟨a,c⟩:=(h.fit p hp).1.ok h0;have:=F9 (rd p).1;exact⟨a,by omega⟩
 er:=h.er
 sm:=h.sm
section
variable {M:Nat} {rd rd':PE->Ty×PE} (hr:RdOk ts us M rd rd')
include hr
theorem b5z:Pc ts Eq (M+2) (G6 rd ts) (G6 rd' us) where
 hi p hp:=(Y7 hS.ends hr.fit p hp).hi
 lo p hp h0:=by
  obtain⟨a,c⟩:=(Y7 hS.ends hr.fit p hp).ok h0;exact⟨a,by omega⟩
 er q hq:=by
  unfold G6
  split
  ·unfold F6;rw[d3I hq]
  ·show (rd' (l6 us a3d (q.1+1,q.2))).2.2=q.2;rw[b34 (p:=(q.1+1,q.2)) hq,hr.er (q.1+1,q.2) hq]
 sm i hi:=by
  unfold G6
  by_cases hk:(r9 ts i).kind=1
  ·rw[d3G (λh=>h hk),d3G (λh=>h ((hS.k1 i hi).2 hk))];have h1:=hS.ends i hi (by rw[hk];decide);have w1:=G8 hS a3d (p:=(i+1,0)) (b:=i) (m:=M+2) h1 .ok;have w2:=l8 (s:=a3d) (p:=(i+1,0)) hS.ends h1;have h2:=hr.pc.at (b:=i) (m:=M+2) w2.1 (w1.le (by omega)) λh0=>by have:=(w2.2.2 h0).2;simp only at this;omega
   refine⟨h2.1,λa c=>?_⟩;show (((r9 ts i).text,_):ByteArray×Ty)=((r9 us (i+1)).text,_);rw[hS.tx i hi hk,h2.2 a c]
  ·rw[d3I hk];exact .z (C8 5 (by decide) _).2
theorem c0x (l l':List (ByteArray×Ty)) (k k':Nat) (hp:p.1<ts.length) (hk:p.2=0->b<=p.1/\ts.length - p.1<=k/\ts.length - p.1<=k') (h:SmV Eq b (M+2) (l,p) (l',q)):SmV Eq b (M+2) (J8 rd ts k p l) (J8 rd' us k' q l'):=by
 have key:=a5m (ts:=ts) (b:=b) (m:=M+2) (V:=Eq (α:=List (ByteArray×Ty))) (F:=λk s=>J8 rd ts k s.2 s.1) (G:=λk s=>J8 rd' us k s.2 s.1)
  (f:=λs=>if B1 ts a2s s.2=true then some (s.1++[(G6 rd ts (s.2.1+1,0)).1],(G6 rd ts (s.2.1+1,0)).2) else none)
  (g:=λs=>if B1 us a2s s.2=true then some (s.1++[(G6 rd' us (s.2.1+1,0)).1],(G6 rd' us (s.2.1+1,0)).2) else none)
  (λs=>rfl) (λk s=>by rw[J8];split <;> rfl) (λs=>rfl) (λk s=>by rw[J8];split <;> rfl)
  (λs hs=>by rw[a0u hs];rfl) (λs hs=>by rw[a0u hs];rfl)
  (λs s1 hs h1=>by
   by_cases hc:B1 ts a2s s.2=true
   ·rw[d3I hc] at h1;cases h1;obtain⟨c1,c2⟩:=B0 hS.ends hs hc;have hf:=Y7 hS.ends hr.fit (s.2.1+1,0) c2;exact⟨hf.hi,λh0=>by have:=(hf.ok h0).2;simp only at this ⊢;omega⟩
   ·rw[d3G hc] at h1;cases h1)
  (λs s' hs h0 hb he hv=>by
   obtain⟨x,i,c⟩:=s;obtain⟨x',q⟩:=s';have h0:c=0:=h0;subst h0;have he:q=(i+1,0):=he;subst he;have hv:x=x':=hv;subst hv;dsimp only;rw[M8 hS a2s rfl hs]
   by_cases hc:B1 ts a2s (i,0)=true
   ·right
    rw[d3I hc,d3I hc];refine⟨_,_,rfl,rfl,?_⟩;have c2:=(B0 (p:=(i,0)) hS.ends hs hc).2;have h2:=(b5z hS hr).at (b:=b) (m:=M+2) (p:=(i+1,0)) (q:=(i+1+1,0)) c2 .ok λ_=>by simp only at hb ⊢;omega
    exact⟨h2.1,λa c=>by show x++[_]=x++[_];rw[h2.2 a c]⟩
   ·left
    rw[d3G hc,d3G hc]
    exact⟨rfl,rfl⟩)
 exact key k k' (l,p) (l',q) hp hk h
end
end
end
section
theorem SmS.sh {b m:Nat} {p q:PE} (h:SmS (b+1) m p q):SmS b (m+1) p q:=λh0=>(h h0).imp id λh=>⟨h.1,by omega⟩
section
variable {ts us:List Tok} (hS:Sh ts us) {b m:Nat} {p q:PE}
section
variable {M:Nat} {rd rd':PE->Ty×PE} (hr:RdOk ts us M rd rd')
include hS hr
theorem c6X {i:Nat} (hi:i<ts.length):SmV Eq i (M+2) (a05 rd ts (i,0)) (a05 rd' us (i+1,0)):=by
 unfold a05
 by_cases hk:(r9 ts i).kind=1
 ·rw[d3I hk,d3I ((hS.k1 i hi).2 hk)];have hf:=Y7 hS.ends hr.fit (i,0) hi;have h1:=(b5z hS hr).sm i hi;have hl:=hS.len;exact c0x hS hr _ _ _ _ hf.hi (λh0=>by have:=(hf.ok h0).2;simp only at this ⊢;omega) ⟨h1.1,λa c=>by rw[h1.2 a c]⟩
 ·rw[d3G hk,d3G λh=>hk ((hS.k1 i hi).1 h)];exact⟨.ok,λ_ _=>rfl⟩
omit hr in
theorem d2k {l l':List (ByteArray×Ty)} (hp:p.1<ts.length) (h:SmV Eq b m (l,p) (l',q)):SmV Eq b m (tlW ts l p) (tlW us l' q):=by
 unfold tlW
 by_cases h0:p.2=0
 ·obtain⟨a,c⟩:=p;have h0:c=0:=h0;subst h0
  rcases h.1 rfl with e|⟨e,e2⟩
  ·have e:q=(a+1,0):=e;subst e;have hv:l=l':=h.2 rfl rfl;subst hv;rw[M8 hS b3e rfl hp]
   by_cases hc:B1 ts b3e (a,0)=true
   ·rw[d3I hc,d3I hc];have c2:=(B0 (p:=(a,0)) hS.ends hp hc).2;exact⟨(G8 hS a3V (p:=(a+1,0)) (b:=b) (m:=m) c2 .ok).le (by omega),λ_ _=>rfl⟩
   ·rw[d3G hc,d3G hc];exact⟨.ok,λ_ _=>rfl⟩
  ·rw[a0u (I5 e),d3G (show ¬(false=true) by decide)];refine⟨.six e λh0=>?_,λ_ h=>absurd h (I5 e)⟩;simp only at e2
   by_cases hc:B1 ts b3e (a,0)=true
   ·rw[d3I hc];have c2:=(B0 (p:=(a,0)) hS.ends hp hc).2;have:=(l8 (s:=a3V) (p:=(a+1,0)) hS.ends c2).2.1;show b+m<=(l6 ts a3V (a+1,0)).1;simp only at this;omega
   ·rw[d3G hc];exact e2
 ·rw[a0u h0,d3G (show ¬(false=true) by decide)];exact .z h0
theorem c4l {i:Nat} (hi:i<ts.length):SmV Eq i (M+2) (a25 rd ts (i,0)) (a25 rd' us (i+1,0)):=by
 unfold a25;exact d2k hS (a6S hS.ends hr.fit (i,0) hi).hi (c6X hS hr hi)
theorem c4m:Pc ts Eq (M+2) (T6 rd ts) (T6 rd' us) where
 hi p hp:=(a38 hS.ends hr.fit p hp).hi
 lo p hp h0:=by
  obtain⟨a,c⟩:=(a38 hS.ends hr.fit p hp).ok h0;have:=F9 (T6 rd ts p).1;exact⟨a,by omega⟩
 er q hq:=by
  unfold T6;rw[a0u hq,a0u hq,a0u hq,a0u hq,a0u hq,a0u hq];show (F6 5 q).2=q.2;unfold F6;rw[d3I hq]
 sm i hi:=by
  unfold T6;rw[M8 hS a7G rfl hi,M8 hS a4h rfl hi,M8 hS a3V rfl hi,M8 hS a52 rfl hi,M8 hS b3d rfl hi,M8 hS b42 rfl hi]
  by_cases h1:B1 ts a7G (i,0)=true
  ·rw[d3I h1,d3I h1];exact⟨.ok,λ_ _=>rfl⟩
  rw[d3G h1,d3G h1]
  by_cases h2:B1 ts a4h (i,0)=true
  ·rw[d3I h2,d3I h2];exact⟨.ok,λ_ _=>rfl⟩
  rw[d3G h2,d3G h2]
  by_cases h3:B1 ts a3V (i,0)=true
  ·rw[d3I h3,d3I h3];exact⟨.ok,λ_ _=>rfl⟩
  rw[d3G h3,d3G h3]
  by_cases h4:B1 ts a52 (i,0)=true
  ·rw[d3I h4,d3I h4];have c:=(B0 (p:=(i,0)) hS.ends hi h4).2;have h:=hr.pc.at (b:=i) (m:=M+1) (p:=(i+1,0)) (q:=(i+1+1,0)) c .ok λ_=>by simp only;omega
   exact⟨G8 hS a8m (hr.pc.hi _ c) h.1,λa c=>h.2 (A2 a) (A2 c)⟩
  rw[d3G h4,d3G h4]
  by_cases h5:B1 ts b3d (i,0)=true
  ·rw[d3I h5,d3I h5];have c:=(B0 (p:=(i,0)) hS.ends hi h5).2;have h:=c4l hS hr c;exact⟨(G8 hS b7W (a6T hS.ends hr.fit _ c).hi h.1.sh).le (by omega),λa c=>by show Ty.mk 5 N9 0 [_]=Ty.mk 5 N9 0 [_];rw[h.2 (A2 a) (A2 c)]⟩
  rw[d3G h5,d3G h5]
  by_cases h6:B1 ts b42 (i,0)=true
  ·rw[d3I h6,d3I h6];have c:=(B0 (p:=(i,0)) hS.ends hi h6).2;have h:=c4l hS hr c;exact⟨(G8 hS b7X (a6T hS.ends hr.fit _ c).hi h.1.sh).le (by omega),λa c=>by show Ty.mk 6 N9 0 [_]=Ty.mk 6 N9 0 [_];rw[h.2 (A2 a) (A2 c)]⟩
  rw[d3G h6,d3G h6];exact .z (C8 5 (by decide) _).2
end
include hS
theorem c4n:∀n' n,RdOk ts us (2 * n'+1) (A8 ts n) (A8 us n'):=by
 intro n'
 induction n' with
 | zero =>
  intro n;refine⟨T7 hS.ends n,λp hp=>?_,λi hi=>?_⟩
  ·show (F6 6 p).2=p.2;unfold F6;rw[d3I hp]
  ·refine⟨.six rfl λh0=>?_,λ_ h=>absurd (show (6:Int)=0 from h) (by decide)⟩;have:=((T7 hS.ends n (i,0) hi).1.ok h0).2;have h2:=F9 (A8 ts n (i,0)).1;simp only at this;omega
 | succ n' ih =>
  intro n;refine⟨T7 hS.ends n,λp hp=>?_,λi hi=>?_⟩
  ·rw[A8,d3I hp]
  ·cases n with
   | zero=>exact .z (show (6:Int)≠0 by decide)
   | succ n =>
    have hr:=ih n;have hA:=(c4m hS hr).sm i hi;have hfa:=a38 hS.ends hr.fit (i,0) hi;rw[A8,A8,d3G (show ¬((i,(0:Int)).2≠0) from λh=>h rfl),d3G (show ¬((i+1,(0:Int)).2≠0) from λh=>h rfl)];generalize T6 (A8 ts n) ts (i,0)=A at *;generalize T6 (A8 us n') us (i+1,0)=A' at *;obtain⟨t,a,c⟩:=A;obtain⟨t',q⟩:=A'
    by_cases h0:c=0
    ·subst h0;have hlo:=(hfa.ok rfl).2;have hp0:=F9 t;have hai:a<ts.length:=hfa.hi
     rcases hA.1 rfl with e|⟨e,e2⟩
     ·have e:q=(a+1,0):=e;subst e;show SmV Eq i _ (if B1 ts gTo (a,0)=true then _ else _) (if B1 us gTo (a+1,0)=true then _ else _);rw[M8 hS gTo rfl hai]
      by_cases hc:B1 ts gTo (a,0)=true
      ·rw[d3I hc,d3I hc];have c2:=(B0 (p:=(a,0)) hS.ends hai hc).2;have h:=hr.pc.at (b:=i) (m:=2 * (n'+1)+1) (p:=(a+1,0)) (q:=(a+1+1,0)) c2 .ok λ_=>by simp only at hlo ⊢;omega
       refine⟨h.1,λx y=>?_⟩;have h3:t=t':=hA.2 rfl rfl;show Ty.mk 4 N9 0 [t,(A8 ts n (a+1,0)).1]=Ty.mk 4 N9 0 [t',(A8 us n' (a+1+1,0)).1];rw[h3,h.2 x y]
      ·rw[d3G hc,d3G hc];exact hA
     ·show SmV Eq i _ (if B1 ts gTo (a,0)=true then _ else _) (if B1 us gTo q=true then _ else _);rw[a0u (I5 e),d3G (show ¬(false=true) by decide)]
      by_cases hc:B1 ts gTo (a,0)=true
      ·rw[d3I hc];have c2:=(B0 (p:=(a,0)) hS.ends hai hc).2;have h3:=(T7 hS.ends n (a+1,0) c2).1.lo;refine⟨.six e λ_=>?_,λ_ h=>absurd h (I5 e)⟩;show i+(2 * (n'+1)+1)<=(A8 ts n (a+1,0)).2.1;simp only at e2 h3;omega
      ·rw[d3G hc];exact hA
    ·show SmV Eq i _ (if B1 ts gTo (a,c)=true then _ else _) _;rw[a0u (p:=(a,c)) h0,d3G (show ¬(false=true) by decide)];exact .z h0
theorem a2Q (n n':Nat):Pc ts Eq (2 * n'+1) (H3 ts n) (H3 us n') where
 hi p hp:=(a28 hS.ends n hp).1
 lo p hp h0:=by
  have h1:=(a28 hS.ends n hp).2.2 h0;refine⟨h1,?_⟩;have e:(H3 ts n p).2.1=(A8 ts n (p.1,0)).2.1:=by unfold H3;rw[d3I h1];unfold T8;split <;> rfl
  have e2:(A8 ts n (p.1,0)).2.2=0:=by
   unfold H3 at h0;rw[d3I h1] at h0;unfold T8 at h0
   split at h0
   ·rename_i hc;exact absurd h0 hc
   ·rename_i hc;exact d4Z.1 hc
  have:=((T7 hS.ends n (p.1,0) hp).1.ok e2).2;have h2:=F9 (A8 ts n (p.1,0)).1;rw[e];simp only at this;omega
 er q hq:=by unfold H3;rw[d3G hq]
 sm i hi:=by
  have h:=(c4n hS n' n).sm i hi;unfold H3;rw[d3I rfl,d3I rfl];unfold T8;show SmV Eq i _ (_,_) (_,_)
  by_cases h0:(A8 ts n (i,0)).2.2=0
  ·rw[d3G (λhh=>hh h0)]
   by_cases h1:(A8 us n' (i+1,0)).2.2=0
   ·rw[d3G (λhh=>hh h1)];have e:=h.1.eq h0 h1;refine⟨λ_=>.inl ?_,λ_ _=>?_⟩
    ·show ((A8 us n' (i+1,0)).2.1,(0:Int))=((A8 ts n (i,0)).2.1+1,0);rw[e]
    ·show y9 _=y9 _;rw[h.2 h0 h1]
   ·rw[d3I h1]
    rcases h.1 h0 with e|⟨e,e2⟩
    ·exact absurd (by rw[e]) h1
    ·exact⟨.six e λ_=>e2,λ_ hh=>absurd hh h1⟩
  ·rw[d3I h0];exact .z h0
end
end
section
theorem SmS.big {b m:Nat} {p q:PE} (h:SmS b m p q) (hm:p.1<b+m) (h0:p.2=0):q=(p.1+1,0):=(h h0).resolve_right λh=>by omega
theorem Pc.er0 {α β:Type} {ts:List Tok} {V:α->β->Prop} {M:Nat} {f:PE->α×PE} {g:PE->β×PE} (h:Pc ts V M f g) {q:PE} (h0:(g q).2.2=0):q.2=0:=by
 by_cases h1:q.2=0
 ·exact h1
 ·rw[h.er q h1] at h0;exact absurd h0 h1
def vp (x:PL):Tm×Nat:=(x.1,x.2.length)
abbrev VP (x y:PL):Prop:=vp x=vp y
theorem W7 {op:Int} {nm ar:ByteArray} {n:Int} {h:Bool} {ann:Ty} {a c:Int} {ks kt:List PL} (hk:ks.map vp=kt.map vp):vp (C9 op nm ar n h ann a ks)=vp (C9 op nm ar n h ann c kt):=by
 have e1:∀l:List PL,l.map (λp=>p.1)=(l.map vp).map (λy=>y.1):=λl=>by rw[d5I];rfl
 have e2:∀l:List PL,(l.flatMap λp=>p.2).length=((l.map vp).map (λy=>y.2)).sum:=λl=>by rw[List.length_flatMap,d5I];rfl
 show ((Tm.mk op nm ar n h ann (ks.map λp=>p.1),(ks.flatMap λp=>p.2).length+1):Tm×Nat)=(Tm.mk op nm ar n h ann (kt.map λp=>p.1),(kt.flatMap λp=>p.2).length+1);rw[e1,e1 kt,e2,e2 kt,hk]
theorem b3B {x y:PL} (h:VP x y):[x].map vp=[y].map vp:=by show [vp x]=[vp y];rw[h]
theorem c0y {x y x2 y2:PL} (h:VP x y) (h2:VP x2 y2):[x,x2].map vp=[y,y2].map vp:=by show [vp x,vp x2]=[vp y,vp y2];rw[h,h2]
theorem d3s {x y x2 y2 x3 y3:PL} (h:VP x y) (h2:VP x2 y2) (h3:VP x3 y3):[x,x2,x3].map vp=[y,y2,y3].map vp:=by show [vp x,vp x2,vp x3]=[vp y,vp y2,vp y3];rw[h,h2,h3]
def pmK (m:Pm):ByteArray×Bool×Ty:=(m.1,m.2.1,m.2.2.1)
abbrev VM (l k:List Pm):Prop:=l.map pmK=k.map pmK
theorem c7T {pl pk:Int} {r:Bool} {w v:ByteArray} {x y:PL} (hx:VP x y) (hw:r=true->w=v):∀(f:Bool) (l k:List Pm),VM l k->VP (fnW pl r w x f l) (fnW pk r v y f k)
 | _,[],[],_=>by rw[fnW,fnW];exact hx
 | _,[],_::_,h=>by cases h
 | _,_::_,[],h=>by cases h
 | f,m::l,n::k,h=>by
  obtain⟨h1,h2⟩:=List.cons.inj h;have h3:m.1=n.1:=congrArg (λz=>z.1) h1;have h4:m.2.1=n.2.1:=congrArg (λz=>z.2.1) h1;have h5:m.2.2.1=n.2.2.1:=congrArg (λz=>z.2.2) h1;have ih:=c7T (pl:=pl) (pk:=pk) hx hw false l k h2;rw[fnW,fnW,h3,h4,h5]
  by_cases hc:f=true/\r=true
  ·rw[d3I hc,d3I hc,d3I hc];rw[hw hc.2] at ih ⊢;exact W7 (b3B ih)
  ·rw[d3G hc,d3G hc,d3G hc];exact W7 (b3B ih)
section
variable {ts us:List Tok} (hS:Sh ts us) {b m:Nat} {p q:PE}
include hS
theorem c6Y (hp:p.1<ts.length):(j7 ts p).2.1<ts.length:=(r8 hS.ends hp).1
theorem a2A (n n':Nat):Pc ts (λx y=>pmK x=pmK y) (2 * n'+3) (A6 ts (n+1)) (A6 us (n'+1)) where
 hi p hp:=(Y8 hS.ends _ hp).1
 lo p hp h0:=by obtain⟨a,c⟩:=(Y8 hS.ends _ hp).2.2 h0;exact⟨a,by omega⟩
 er q hq:=by
  unfold A6;rw[a0u hq,d3G (show ¬(false=true) by decide),c3H hq]
 sm i hi:=by
  unfold A6;rw[M8 hS a0i rfl hi]
  by_cases hc:B1 ts a0i (i,0)=true
  ·have hc':=(M8 hS a0i rfl hi).trans hc;rw[d3I hc,d3I hc,show skP ts a0i (i,0)=(i+1,0) by unfold skP;rw[d3I hc],show skP us a0i (i+1,0)=(i+1+1,0) by unfold skP;rw[d3I hc']];have c2:=(B0 (p:=(i,0)) hS.ends hi hc).2;have w:=a1g hS (p:=(i+1,0)) (b:=i) (m:=2 * n'+3) c2 .ok;have wl:=r8 hS.ends (p:=(i+1,0)) c2;have d:=G8 hS a2a wl.1 w.1;have dl:=l8 (s:=a2a) hS.ends wl.1
   have k:=(a2Q hS n n').at (b:=i) (m:=2 * n'+3) dl.1 (d.le (by omega)) λh0=>by
    obtain⟨a,c⟩:=dl.2.2 h0;have:=(wl.2.2 a).2;simp only at this;omega
   refine⟨(G8 hS a0j ((a2Q hS n n').hi _ dl.1) k.1).le (by omega),λx y=>?_⟩;have x:=A2 x;have y:=A2 y;have k0:=((a2Q hS n n').lo _ dl.1 x).1;have k1:=(a2Q hS n n').er0 y;show (_,true,_)=(_,true,_);rw[w.2 (A2 k0) (A2 k1)];exact congrArg _ (congrArg _ (k.2 x y))
  ·rw[d3G hc,d3G hc];have w:=a1g hS (p:=(i,0)) (b:=i) (m:=2 * n'+3) hi .ok;exact⟨w.1.le (by omega),λx y=>by show (_,false,v8)=(_,false,v8);rw[w.2 x y]⟩
theorem b6Q (n n':Nat) (k k':Nat) (s s':List Pm×PE) (hp:s.2.1<ts.length) (hk:s.2.2=0->b<=s.2.1/\ts.length - s.2.1<=k/\ts.length - s.2.1<=k') (h:SmV VM b (2 * n'+3) s s'):SmV VM b (2 * n'+3) (E4 ts (n+1) k s) (E4 us (n'+1) k' s'):=by
 refine a5m (ts:=ts) (b:=b) (m:=2 * n'+3) (V:=VM) (F:=E4 ts (n+1)) (G:=E4 us (n'+1))
  (f:=λs=>if s.2.2=0/\Z5 (r9 ts s.2.1) a0h=false then some (s.1++[(A6 ts (n+1) s.2).1],(A6 ts (n+1) s.2).2) else none)
  (g:=λs=>if s.2.2=0/\Z5 (r9 us s.2.1) a0h=false then some (s.1++[(A6 us (n'+1) s.2).1],(A6 us (n'+1) s.2).2) else none)
  (λs=>rfl) (λk s=>by rw[E4];split <;> rfl) (λs=>rfl) (λk s=>by rw[E4];split <;> rfl)
  (λs hs=>d3G λh=>hs h.1) (λs hs=>d3G λh=>hs h.1)
  (λs s1 hs h1=>by
   try dsimp only at h1
   by_cases hc:s.2.2=0/\Z5 (r9 ts s.2.1) a0h=false
   ·rw[d3I hc] at h1;cases h1;exact⟨(a2A hS n n').hi _ hs,λh0=>((a2A hS n n').lo _ hs h0).2⟩
   ·rw[d3G hc] at h1;cases h1)
  (λs s' hs h0 hb he hv=>by
   obtain⟨x,i,c⟩:=s;obtain⟨x',q⟩:=s';have h0:c=0:=h0;subst h0;have he:q=(i+1,0):=he;subst he;dsimp only;rw[hS.sg i hs a0h rfl]
   by_cases hc:(0:Int)=0/\Z5 (r9 ts i) a0h=false
   ·right
    rw[d3I hc,d3I hc];refine⟨_,_,rfl,rfl,?_⟩;have h2:=(a2A hS n n').at (b:=b) (m:=2 * n'+3) (p:=(i,0)) (q:=(i+1,0)) hs .ok λ_=>by simp only at hb ⊢;omega
    refine⟨h2.1,λa c=>?_⟩;show (x++[_]).map pmK=(x'++[_]).map pmK;rw[d45,d45,show x.map pmK=x'.map pmK from hv];exact congrArg _ (congrArg (λz=>[z]) (h2.2 a c))
   ·left
    rw[d3G hc,d3G hc]
    exact⟨rfl,rfl⟩) k k' s s' hp hk h
theorem a5n (n n':Nat):Pc ts VM (2 * n'+3) (G0 ts (n+1)) (G0 us (n'+1)) where
 hi p hp:=(a0G hS.ends _ hp).1
 lo p hp h0:=by obtain⟨a,c⟩:=(a0G hS.ends _ hp).2.2.2 h0;exact⟨a,by omega⟩
 er q hq:=by
  have h1:=(a2A hS n n').er q hq;have h2:(A6 us (n'+1) q).2.2≠0:=by rw[h1];exact hq
  unfold G0;rw[b09 (λh=>h2 h.1),b34 h2];exact h1
 sm i hi:=by
  unfold G0;have h1:=(a2A hS n n').sm i hi;have h2:=(a2A hS n n').hi (i,0) hi;have hl:=hS.len
  have hL:=b6Q hS n n' (b:=i) ts.length us.length ([(A6 ts (n+1) (i,0)).1],(A6 ts (n+1) (i,0)).2) ([(A6 us (n'+1) (i+1,0)).1],(A6 us (n'+1) (i+1,0)).2) h2 (λh0=>by
   have:=((a2A hS n n').lo (i,0) hi h0).2;simp only at this ⊢
   omega) ⟨h1.1,λa c=>congrArg (λz=>[z]) (h1.2 a c)⟩
  have hh:(E4 ts (n+1) ts.length ([(A6 ts (n+1) (i,0)).1],(A6 ts (n+1) (i,0)).2)).2.1<ts.length:=by
   have:=(a0G hS.ends (n+1) hi (p:=(i,0))).1
   have h3:(E4 ts (n+1) ts.length ([(A6 ts (n+1) (i,0)).1],(A6 ts (n+1) (i,0)).2)).2.1<=(G0 ts (n+1) (i,0)).2.1:=by
    unfold G0 l6;dsimp only
    split
    ·exact d3Q _
    split
    ·exact d6w _
    ·exact d3Q _
   omega
  exact⟨(G8 hS a0h hh hL.1).le (by omega),λa c=>hL.2 (A2 a) (A2 c)⟩
structure ExOk (ts us:List Tok) (n':Nat) (ex ex':PF):Prop where
 pc:Pc ts VP (2 * n'+1) ex ex'
 fit:E3 ts ex
 er:∀p:PE,p.2≠0->ex p=(zPL,p)
variable {n':Nat} {ex ex':PF} (hx:ExOk ts us n' ex ex')
include hx
theorem a8y (n:Nat) (pl pk:Int) (r:Bool) {j:Nat} (hj:j<ts.length) (hb:b+1<=j):SmV VP b (2 * n'+3) (G4 ts (n+1) ex pl r (j,0)) (G4 us (n'+1) ex' pk r (j+1,0)):=by
 have hq:(if r=true then (j7 ts (j,0)).2 else (j,0)).1<ts.length:=by
  split
  ·exact c6Y hS hj
  ·exact hj
 have w:=a1g hS (p:=(j,0)) (q:=(j+1,0)) (b:=b) (m:=2 * n'+3) hj .ok
 have hs:SmS b (2 * n'+3) (if r=true then (j7 ts (j,0)).2 else (j,0)) (if r=true then (j7 us (j+1,0)).2 else (j+1,0)):=by
  split
  ·exact w.1.le (by omega)
  ·exact .ok
 have hlo:(if r=true then (j7 ts (j,0)).2 else (j,0)).2=0->b+1<=(if r=true then (j7 ts (j,0)).2 else (j,0)).1:=by
  split
  ·exact λh=>by have:=(r8 hS.ends hj (p:=(j,0))).2.1;simp only at this;omega
  ·exact λ_=>hb
 have hww:(if r=true then (j7 ts (j,0)).2 else (j,0)).2=0->(if r=true then (j7 us (j+1,0)).2 else (j+1,0)).2=0->r=true->(if r=true then (j7 ts (j,0)).1 else ⟨#[]⟩)=(if r=true then (j7 us (j+1,0)).1 else ⟨#[]⟩):=λa c e=>by
  rw[d3I e] at a c ⊢;rw[d3I e];exact w.2 a c
 unfold G4;generalize (if r=true then (j7 ts (j,0)).2 else (j,0))=q1 at *;generalize (if r=true then (j7 us (j+1,0)).2 else (j+1,0))=q2 at *;generalize (if r=true then (j7 ts (j,0)).1 else ⟨#[]⟩)=w1 at *;generalize (if r=true then (j7 us (j+1,0)).1 else ⟨#[]⟩)=w2 at *;have hP:=(a5n hS n n').at hq hs λh0=>by have:=hlo h0;omega
 have hPi:=(a5n hS n n').hi q1 hq;have hPl:=(a5n hS n n').lo q1 hq;have hPe:=λh=>(a5n hS n n').er0 (q:=q2) h
 generalize G0 ts (n+1) q1=P at *;generalize G0 us (n'+1) q2=P' at *
 have hX:=hx.pc.at (m:=2 * n'+3) hPi hP.1 λh0=>by
  obtain⟨a,c⟩:=hPl h0;have:=hlo a;omega
 refine⟨hX.1,λa c=>?_⟩;have a1:=(hx.pc.lo _ hPi a).1;have c1:=hx.pc.er0 c;exact c7T (hX.2 a c) (λe=>hww (hPl a1).1 (hPe c1) e) true _ _ (hP.2 a1 c1)
omit hS hx in
theorem b8P (h:q.2≠0):H9 us ex' q=(a1L 41 ⟨#[]⟩ 0 (r9 us q.1).at_,q):=by unfold H9;rw[a0u h];rfl
theorem c6Z (hp:p.1<ts.length) (h:SmS b (2 * n'+3) p q) (hb:p.2=0->b+1<=p.1):SmV VP b (2 * n'+3) (H9 ts ex p) (H9 us ex' q):=by
 by_cases h0:p.2=0
 ·obtain⟨a,c⟩:=p;have h0:c=0:=h0;subst h0;have hb:=hb rfl;simp only at hb
  rcases h rfl with e|⟨e,e2⟩
  ·have e:q=(a+1,0):=e;subst e;unfold H9;rw[M8 hS M7 rfl hp]
   by_cases hc:B1 ts M7 (a,0)=true
   ·rw[d3I hc,d3I hc];have c2:=(B0 (p:=(a,0)) hS.ends hp hc).2;exact hx.pc.at (p:=(a+1,0)) (q:=(a+1+1,0)) c2 .ok λ_=>by simp only;omega
   ·rw[d3G hc,d3G hc];exact⟨.ok,λ_ _=>rfl⟩
  ·rw[b8P (I5 e)];refine⟨.six e λh0=>?_,λ_ h=>absurd h (I5 e)⟩;unfold H9 at h0 ⊢;simp only at e2
   by_cases hc:B1 ts M7 (a,0)=true
   ·rw[d3I hc] at h0 ⊢;have c2:=(B0 (p:=(a,0)) hS.ends hp hc).2;have:=(hx.pc.lo (a+1,0) c2 h0).2;show b+(2 * n'+3)<=(ex (a+1,0)).2.1;simp only at this;omega
   ·rw[d3G hc];exact e2
 ·refine .z ?_;unfold H9;rw[a0u h0];exact h0
def fdK (f:Fd):ByteArray×Tm×Nat:=(f.1,vp f.2.2)
abbrev VF (l k:List Fd):Prop:=l.map fdK=k.map fdK
omit hS hx in
theorem c7U {x y:PL} (hx:VP x y):∀(l k:List Fd),VF l k->VP (fdW x l) (fdW y k)
 | [],[],_=>by rw[fdW,fdW];exact hx
 | [],_::_,h=>by cases h
 | _::_,[],h=>by cases h
 | f::l,g::k,h=>by
  obtain⟨h1,h2⟩:=List.cons.inj h;have h3:f.1=g.1:=congrArg (λz=>z.1) h1;have h4:vp f.2.2=vp g.2.2:=congrArg (λz=>z.2) h1;rw[fdW,fdW,h3];exact W7 (c0y h4 (c7U hx l k h2))
theorem b6R (k k':Nat) (s s':List Fd×PE) (hp:s.2.1<ts.length) (hk:s.2.2=0->b<=s.2.1/\ts.length - s.2.1<=k/\ts.length - s.2.1<=k') (h:SmV VF b (2 * n'+3) s s'):SmV VF b (2 * n'+3) (C2 ts ex k s) (C2 us ex' k' s'):=by
 refine a5m (ts:=ts) (b:=b) (m:=2 * n'+3) (V:=VF) (F:=C2 ts ex) (G:=C2 us ex')
  (f:=λs=>if B1 ts P4 s.2=true then some (s.1++[((j7 ts (s.2.1+1,0)).1,(r9 ts (s.2.1+1)).at_,(ex (l6 ts E0 (j7 ts (s.2.1+1,0)).2)).1)],(ex (l6 ts E0 (j7 ts (s.2.1+1,0)).2)).2) else none)
  (g:=λs=>if B1 us P4 s.2=true then some (s.1++[((j7 us (s.2.1+1,0)).1,(r9 us (s.2.1+1)).at_,(ex' (l6 us E0 (j7 us (s.2.1+1,0)).2)).1)],(ex' (l6 us E0 (j7 us (s.2.1+1,0)).2)).2) else none)
  (λs=>rfl) (λk s=>by rw[C2];split <;> rfl) (λs=>rfl) (λk s=>by rw[C2];split <;> rfl)
  (λs hs=>by rw[a0u hs];rfl) (λs hs=>by rw[a0u hs];rfl)
  (λs s1 hs h1=>by
   try dsimp only at h1
   by_cases hc:B1 ts P4 s.2=true
   ·rw[d3I hc] at h1;cases h1;have c2:=(B0 hS.ends hs hc).2;have wl:=r8 hS.ends (p:=(s.2.1+1,0)) c2;have dl:=l8 (s:=E0) hS.ends wl.1;refine⟨hx.pc.hi _ dl.1,λh0=>?_⟩;have:=(hx.pc.lo _ dl.1 h0).2;have h3:=dl.2.1;have h4:=wl.2.1;simp only at h4 ⊢;omega
   ·rw[d3G hc] at h1;cases h1)
  (λs s' hs h0 hb he hv=>by
   obtain⟨x,i,c⟩:=s;obtain⟨x',q⟩:=s';have h0:c=0:=h0;subst h0;have he:q=(i+1,0):=he;subst he;dsimp only;rw[M8 hS P4 rfl hs]
   by_cases hc:B1 ts P4 (i,0)=true
   ·right
    rw[d3I hc,d3I hc];refine⟨_,_,rfl,rfl,?_⟩;have c2:=(B0 (p:=(i,0)) hS.ends hs hc).2;have w:=a1g hS (p:=(i+1,0)) (q:=(i+1+1,0)) (b:=b) (m:=2 * n'+3) c2 .ok;have wl:=r8 hS.ends (p:=(i+1,0)) c2;have d:=G8 hS E0 wl.1 w.1;have dl:=l8 (s:=E0) hS.ends wl.1
    have e:=hx.pc.at (b:=b) (m:=2 * n'+3) dl.1 (d.le (by omega)) λh0=>by
     obtain⟨a,c⟩:=dl.2.2 h0;have:=(wl.2.2 a).2;simp only at this hb;omega
    refine⟨e.1,λa c=>?_⟩;have a1:=A2 (hx.pc.lo _ dl.1 a).1;have c1:=A2 (hx.pc.er0 c);show (x++[_]).map fdK=(x'++[_]).map fdK;rw[d45,d45,show x.map fdK=x'.map fdK from hv];show _++[(_,_)]=_++[(_,_)];rw[w.2 a1 c1];exact congrArg _ (congrArg (λz=>[(_,z)]) (e.2 a c))
   ·left
    rw[d3G hc,d3G hc]
    exact⟨rfl,rfl⟩) k k' s s' hp hk h
theorem b0O:∀(k:Nat) (s:List Fd×PE),s.2.1<ts.length->(C2 ts ex k s).2.1<ts.length/\((C2 ts ex k s).2.2=0->s.2.2=0/\s.2.1<=(C2 ts ex k s).2.1)
 | 0,s,h=>⟨h,λh0=>⟨h0,d3Q _⟩⟩
 | k+1,s,h=>by
  rw[C2]
  by_cases hc:B1 ts P4 s.2=true
  ·rw[d3I hc];have c2:=(B0 hS.ends h hc).2;have wl:=r8 hS.ends (p:=(s.2.1+1,0)) c2;have dl:=l8 (s:=E0) hS.ends wl.1;have ih:=b0O k (s.1++[((j7 ts (s.2.1+1,0)).1,(r9 ts (s.2.1+1)).at_,(ex (l6 ts E0 (j7 ts (s.2.1+1,0)).2)).1)],(ex (l6 ts E0 (j7 ts (s.2.1+1,0)).2)).2) (hx.pc.hi _ dl.1);refine⟨ih.1,λh0=>⟨a7V hc,?_⟩⟩;have h1:=ih.2 h0;have h2:=(hx.pc.lo _ dl.1 h1.1).2;have h3:=dl.2.1;have h4:=wl.2.1;have h5:=h1.2;simp only at h4 h5;omega
  ·rw[d3G hc];exact⟨h,λh0=>⟨h0,d3Q _⟩⟩
theorem b6S (pl pk:Int) (w v:ByteArray) (hp:p.1<ts.length) (h:SmS b (2 * n'+3) p q) (hb:p.2=0->b+1<=p.1) (hw:p.2=0->q.2=0->w=v):SmV VP b (2 * n'+3) (T9 ts ex pl w p) (T9 us ex' pk v q):=by
 unfold T9 a6e;have d:=G8 hS E0 hp h;have dl:=l8 (s:=E0) hS.ends hp
 have e:=hx.pc.at (b:=b) (m:=2 * n'+3) dl.1 (d.le (by omega)) λh0=>by
  obtain⟨a,c⟩:=dl.2.2 h0;have:=hb a;omega
 have hl:=hS.len;have eh:=hx.pc.hi _ dl.1
 have el:(ex (l6 ts E0 p)).2.2=0->b+1<=(ex (l6 ts E0 p)).2.1:=λh0=>by
  obtain⟨a,c⟩:=hx.pc.lo _ dl.1 h0;have:=dl.2.1;have:=hb (A2 a);omega
 have L:=b6R hS hx (b:=b) ts.length us.length ([(w,pl,(ex (l6 ts E0 p)).1)],(ex (l6 ts E0 p)).2) ([(v,pk,(ex' (l6 us E0 q)).1)],(ex' (l6 us E0 q)).2) eh (λh0=>by
  have:=el h0;simp only
  omega) ⟨e.1,λa c=>by
   have a1:=A2 (hx.pc.lo _ dl.1 a).1;have c1:=A2 (hx.pc.er0 c);show [(w,_)]=[(v,_)];rw[hw a1 c1]
   exact congrArg (λz=>[(v,z)]) (e.2 a c)⟩
 have Lh:=(b0O hS hx ts.length ([(w,pl,(ex (l6 ts E0 p)).1)],(ex (l6 ts E0 p)).2) eh);generalize C2 ts ex ts.length ([(w,pl,(ex (l6 ts E0 p)).1)],(ex (l6 ts E0 p)).2)=F at *;generalize C2 us ex' us.length ([(v,pk,(ex' (l6 us E0 q)).1)],(ex' (l6 us E0 q)).2)=F' at *
 have B:=c6Z hS hx Lh.1 L.1 λh0=>by
  have h1:=Lh.2 h0;have:=el h1.1;have:=h1.2;simp only at this;omega
 have Bh:(H9 ts ex F.2).2.1<ts.length:=by
  unfold H9
  by_cases hc:B1 ts M7 F.2=true
  ·rw[d3I hc];exact hx.pc.hi _ (B0 hS.ends Lh.1 hc).2
  ·rw[d3G hc];exact Lh.1
 refine⟨(G8 hS Z3 Bh B.1).le (by omega),λa c=>?_⟩;have a:=A2 a;have c:=A2 c
 have a1:F.2.2=0:=by
  unfold H9 at a
  by_cases hc:B1 ts M7 F.2=true
  ·exact a7V hc
  ·rw[d3G hc] at a;exact a
 have c1:F'.2.2=0:=by
  unfold H9 at c
  by_cases hc:B1 us M7 F'.2=true
  ·exact a7V hc
  ·rw[d3G hc] at c;exact c
 exact c7U (B.2 a c) _ _ (L.2 a1 c1)
end
end
section
section
variable {ts us:List Tok} (hS:Sh ts us) {b m:Nat} {p q:PE}
include hS
variable {n':Nat} {ex ex':PF} (hx:ExOk ts us n' ex ex')
include hx
theorem a8a:Pc ts VP (2 * n'+3) (U0 ts ex) (U0 us ex') where
 hi p hp:=(c3C hS.ends hx.fit hx.er hp).hi
 lo p hp h0:=by obtain⟨a,c⟩:=(c3C hS.ends hx.fit hx.er hp).ok h0;exact⟨a,by omega⟩
 er q hq:=by
  unfold U0;rw[a0u hq,d3G (show ¬(false=true) by decide)];show (ex' (l6 us a0h (j7 us (j7 us q).2).2)).2.2=q.2;rw[c3H hq,c3H hq,b34 (p:=q) hq,hx.pc.er q hq]
 sm i hi:=by
  unfold U0;rw[M8 hS N5 rfl hi]
  by_cases hc:B1 ts N5 (i,0)=true
  ·rw[d3I hc,d3I hc];have c2:=(B0 (p:=(i,0)) hS.ends hi hc).2;have w:=a1g hS (p:=(i+1,0)) (q:=(i+1+1,0)) (b:=i) (m:=2 * n'+3) c2 .ok;have wl:=r8 hS.ends (p:=(i+1,0)) c2;have d:=G8 hS a0h wl.1 w.1;have dl:=l8 (s:=a0h) hS.ends wl.1
   have e:=hx.pc.at (b:=i) (m:=2 * n'+3) dl.1 (d.le (by omega)) λh0=>by
    obtain⟨a,c⟩:=dl.2.2 h0;have:=(wl.2.2 a).2;simp only at this;omega
   refine⟨e.1,λa c=>?_⟩;have a1:=A2 (hx.pc.lo _ dl.1 a).1;have c1:=A2 (hx.pc.er0 c);show vp (C9 50 _ (j7 ts (i+1,0)).1 0 false v8 _ _)=vp (C9 50 _ (j7 us (i+1+1,0)).1 0 false v8 _ _);rw[w.2 a1 c1];exact W7 (b3B (e.2 a c))
  ·rw[d3G hc,d3G hc];have w:=a1g hS (p:=(i,0)) (q:=(i+1,0)) (b:=i) (m:=2 * n'+3) hi .ok;have wl:=r8 hS.ends (p:=(i,0)) hi;have w2:=a1g hS wl.1 w.1;have wl2:=r8 hS.ends wl.1;have d:=G8 hS a0h wl2.1 w2.1;have dl:=l8 (s:=a0h) hS.ends wl2.1
   have e:=hx.pc.at (b:=i) (m:=2 * n'+3) dl.1 (d.le (by omega)) λh0=>by
    obtain⟨a,c⟩:=dl.2.2 h0;obtain⟨a2,c2⟩:=wl2.2.2 a;have:=(wl.2.2 a2).2;simp only at this;omega
   refine⟨e.1,λa c=>?_⟩;have a1:=A2 (hx.pc.lo _ dl.1 a).1;have c1:=A2 (hx.pc.er0 c);show vp (C9 49 (j7 ts (i,0)).1 (j7 ts (j7 ts (i,0)).2).1 0 false v8 _ _)=vp (C9 49 (j7 us (i+1,0)).1 (j7 us (j7 us (i+1,0)).2).1 0 false v8 _ _);rw[w2.2 a1 c1,w.2 (b35 a1) (b35 c1)];exact W7 (b3B (e.2 a c))
abbrev VL (l k:List PL):Prop:=l.map vp=k.map vp
omit hx in
theorem d0b {f:Bool} (hp:p.1<ts.length) (h:SmS b m p q):SmS b m (chQ ts f p) (chQ us f q):=by
 unfold chQ
 split
 ·exact h
 ·exact(G8 hS a6V hp h).le (by omega)
omit hx in
theorem c4o {f:Bool} (hp:p.1<ts.length):(chQ ts f p).1<ts.length/\p.1<=(chQ ts f p).1/\((chQ ts f p).2=0->p.2=0):=by
 unfold chQ
 split
 ·exact⟨hp,d3Q _,id⟩
 ·have:=l8 (s:=a6V) hS.ends hp;exact⟨this.1,this.2.1,A2⟩
omit hS hx in
theorem b6T {ex:PF} {ts:List Tok} {f:Bool} {s:List PL×PE} (h:s.2.2≠0) (k:Nat):chL ts ex k f s=s:=by
 cases k with
 | zero=>rfl
 | succ k=>rw[chL,d3G λhh=>h hh.1]
theorem b6U:∀(k:Nat) (f:Bool) (s:List PL×PE),s.2.1<ts.length->(chL ts ex k f s).2.1<ts.length/\((chL ts ex k f s).2.2=0->s.2.2=0/\s.2.1<=(chL ts ex k f s).2.1)
 | 0,f,s,h=>⟨h,λh0=>⟨h0,d3Q _⟩⟩
 | k+1,f,s,h=>by
  rw[chL];obtain⟨c1,c2,c3⟩:=c4o hS (f:=f) h
  by_cases hc:s.2.2=0/\Z5 (r9 ts s.2.1) a1d=false
  ·rw[d3I hc];have ha:=(a8a hS hx).hi _ c1;have hl:=(a8a hS hx).lo _ c1
   by_cases he:B1 ts N5 (chQ ts f s.2)=true
   ·rw[d3I he];exact⟨ha,λh0=>⟨hc.1,by have:=(hl h0).2;simp only;omega⟩⟩
   ·rw[d3G he];have ih:=b6U k false (s.1++[(U0 ts ex (chQ ts f s.2)).1],(U0 ts ex (chQ ts f s.2)).2) ha;refine⟨ih.1,λh0=>⟨hc.1,?_⟩⟩;have h1:=ih.2 h0;have h2:=(hl h1.1).2;have h3:=h1.2;simp only at h3;omega
  ·rw[d3G hc];exact⟨h,λh0=>⟨h0,d3Q _⟩⟩
theorem d0c:∀(k k':Nat) (f:Bool) (s s':List PL×PE),s.2.1<ts.length->(s.2.2=0->b<=s.2.1/\ts.length - s.2.1<=k/\ts.length - s.2.1<=k')->SmV VL b (2 * n'+3) s s'->SmV VL b (2 * n'+3) (chL ts ex k f s) (chL us ex' k' f s'):=by
 intro k
 induction k with
 | zero =>
  intro k' f s s' hs hk h
  by_cases h0:s.2.2=0
  ·have:=hk h0;omega
  ·exact .z h0
 | succ k ih =>
  intro k' f s s' hs hk h
  by_cases h0:s.2.2=0
  ·obtain⟨hb,hk1,hk2⟩:=hk h0;cases k' with
   | zero=>omega
   | succ k' =>
    obtain⟨x,i,c⟩:=s;have h0:c=0:=h0;subst h0;obtain⟨x',q⟩:=s'
    rcases h.1 rfl with e|⟨e,e2⟩
    ·have e:q=(i+1,0):=e;subst e;have hv:x.map vp=x'.map vp:=h.2 rfl rfl;rw[chL,chL];dsimp only at hb hs ⊢;rw[hS.sg i hs a1d rfl]
     by_cases hc:(0:Int)=0/\Z5 (r9 ts i) a1d=false
     ·rw[d3I hc,d3I hc];have hq:=d0b hS (f:=f) (p:=(i,0)) (q:=(i+1,0)) (b:=b) (m:=ts.length) hs .ok;obtain⟨c1,c2,c3⟩:=c4o hS (f:=f) (p:=(i,0)) hs;generalize chQ ts f (i,0)=d at *;generalize chQ us f (i+1,0)=d' at *
      by_cases hd:d.2=0
      ·have e:=hq.big (by omega) hd;subst e;obtain⟨a,c⟩:=d;have hd:c=0:=hd;subst hd;simp only at c2;have hA:=(a8a hS hx).at (b:=b) (m:=2 * n'+3) (p:=(a,0)) (q:=(a+1,0)) c1 .ok λ_=>by simp only;omega
       have hAi:=(a8a hS hx).hi (a,0) c1;have hAl:=(a8a hS hx).lo (a,0) c1
       have hN:SmV VL b (2 * n'+3) (x++[(U0 ts ex (a,0)).1],(U0 ts ex (a,0)).2) (x'++[(U0 us ex' (a+1,0)).1],(U0 us ex' (a+1,0)).2):=⟨hA.1,λu v=>by
        show (x++[_]).map vp=(x'++[_]).map vp;rw[d45,d45,hv]
        exact congrArg _ (b3B (hA.2 u v))⟩
       show SmV VL b _ (if B1 ts N5 (a,0)=true then _ else _) (if B1 us N5 (a+1,0)=true then _ else _);rw[M8 hS N5 rfl c1]
       by_cases he:B1 ts N5 (a,0)=true
       ·rw[d3I he,d3I he];exact hN
       ·rw[d3G he,d3G he];refine ih k' false _ _ hAi (λh1=>?_) hN;have:=(hAl h1).2;simp only at this hk1 hk2 ⊢;omega
      ·have hne:(U0 ts ex d).2.2≠0:=λh1=>hd ((a8a hS hx).lo d c1 h1).1
       rw[a0u hd,d3G (show ¬(false=true) by decide),b6T hne];exact .z hne
     ·rw[d3G hc,d3G hc];exact h
    ·rw[b6T (I5 e)];have hh:=b6U hS hx (k+1) f (x,(i,0)) hs;refine⟨.six e λh1=>?_,λ_ h1=>absurd h1 (I5 e)⟩;have:=(hh.2 h1).2;simp only at this e2;omega
  ·rw[b6T h0];exact .z h0
theorem c0z (pl pk:Int) {j:Nat} (hj:j<ts.length) (hb:b+1<=j):SmV VP b (2 * n'+3) (Q8 ts ex pl (j,0)) (Q8 us ex' pk (j+1,0)):=by
 unfold Q8;have e:=hx.pc.at (b:=b) (m:=2 * n'+2) (p:=(j,0)) (q:=(j+1,0)) hj .ok λ_=>by simp only;omega
 have eh:=hx.pc.hi (j,0) hj;have el:=hx.pc.lo (j,0) hj;have d:=G8 hS a2E eh e.1;have dl:=l8 (s:=a2E) hS.ends eh;have hl:=hS.len
 have L:=d0c hS hx (b:=b) ts.length us.length true ([(ex (j,0)).1],l6 ts a2E (ex (j,0)).2) ([(ex' (j+1,0)).1],l6 us a2E (ex' (j+1,0)).2) dl.1 (λh0=>by
  have:=(el (A2 h0)).2;have:=dl.2.1;simp only at *
  omega) ⟨d,λa c=>b3B (e.2 (A2 a) (A2 c))⟩
 have Lh:=b6U hS hx ts.length true ([(ex (j,0)).1],l6 ts a2E (ex (j,0)).2) dl.1;exact⟨(G8 hS a1d Lh.1 L.1).le (by omega),λa c=>W7 (L.2 (A2 a) (A2 c))⟩
theorem c4p (n:Nat) (pl pk:Int) {j:Nat} (hj:j<ts.length) (hb:b+1<=j):SmV VP b (2 * n'+3) (U3 ts (n+1) ex pl (j,0)) (U3 us (n'+1) ex' pk (j+1,0)):=by
 unfold U3;have e:=hx.pc.at (b:=b) (m:=2 * n'+2) (p:=(j,0)) (q:=(j+1,0)) hj .ok λ_=>by simp only;omega
 have eh:=hx.pc.hi (j,0) hj;have el:=hx.pc.lo (j,0) hj;generalize ex (j,0)=E at *;generalize ex' (j+1,0)=E' at *;obtain⟨x,a,c⟩:=E;obtain⟨x',q⟩:=E'
 by_cases h0:c=0
 ·subst h0;have ha:=(el rfl).2;simp only at ha;have eh:a<ts.length:=eh
  rcases e.1 rfl with e1|⟨e1,e2⟩
  ·have e1:q=(a+1,0):=e1;subst e1;show SmV VP b _ (if B1 ts a2a (a,0)=true then _ else _) (if B1 us a2a (a+1,0)=true then _ else _);rw[M8 hS a2a rfl eh]
   by_cases hc:B1 ts a2a (a,0)=true
   ·rw[d3I hc,d3I hc];have c2:=(B0 (p:=(a,0)) hS.ends eh hc).2;have k:=(a2Q hS n n').at (b:=b) (m:=2 * n'+3) (p:=(a+1,0)) (q:=(a+1+1,0)) c2 .ok λ_=>by simp only;omega
    refine⟨(G8 hS a0j ((a2Q hS n n').hi _ c2) k.1).le (by omega),λu v=>?_⟩;show vp (C9 51 ⟨#[]⟩ ⟨#[]⟩ 0 true (H3 ts n (a+1,0)).1 pl [x])=vp (C9 51 ⟨#[]⟩ ⟨#[]⟩ 0 true (H3 us n' (a+1+1,0)).1 pk [x']);rw[k.2 (A2 u) (A2 v)];exact W7 (b3B (e.2 rfl rfl))
   ·rw[d3G hc,d3G hc];exact⟨G8 hS a0j eh e.1,λu v=>e.2 rfl rfl⟩
  ·show SmV VP b _ (if B1 ts a2a (a,0)=true then _ else _) (if B1 us a2a q=true then _ else _);rw[a0u (I5 e1),d3G (show ¬(false=true) by decide)]
   by_cases hc:B1 ts a2a (a,0)=true
   ·rw[d3I hc];have c2:=(B0 (p:=(a,0)) hS.ends eh hc).2;have kh:=(a2Q hS n n').hi (a+1,0) c2;refine⟨.six (by show (l6 us a0j q).2=6;rw[b34 (I5 e1)];exact e1) λh1=>?_,λ_ h=>?_⟩
    ·have h1:(l6 ts a0j (H3 ts n (a+1,0)).2).2=0:=h1;have w:=(l8 (s:=a0j) hS.ends kh).2.2 h1;have:=((a2Q hS n n').lo (a+1,0) c2 w.1).2;show b+(2 * n'+3)<=(l6 ts a0j (H3 ts n (a+1,0)).2).1;simp only at this e2;have:=w.2;omega
    ·have h:(l6 us a0j q).2=0:=h;rw[b34 (I5 e1)] at h;exact absurd h (I5 e1)
   ·rw[d3G hc];exact⟨G8 hS a0j eh e.1,λu v=>absurd (show q.2=0 from A2 v) (I5 e1)⟩
 ·show SmV VP b _ (if B1 ts a2a (a,c)=true then _ else _) _;rw[a0u (p:=(a,c)) h0,d3G (show ¬(false=true) by decide)];exact .z λh=>h0 (A2 (p:=(a,c)) h)
theorem c00 (pl pk:Int) {j:Nat} (hj:j<ts.length) (hb:b+1<=j):SmV VP b (2 * n'+3) (P5 ts ex pl (j,0)) (P5 us ex' pk (j+1,0)):=by
 unfold P5;rw[M8 hS Z3 rfl hj]
 by_cases h1:B1 ts Z3 (j,0)=true
 ·rw[d3I h1,d3I h1];exact⟨.ok,λ_ _=>rfl⟩
 rw[d3G h1,d3G h1];have w:=a1g hS (p:=(j,0)) (q:=(j+1,0)) (b:=b) (m:=ts.length) hj .ok;have wl:=r8 hS.ends (p:=(j,0)) hj;generalize j7 ts (j,0)=W at *;generalize j7 us (j+1,0)=W' at *
 by_cases h0:W.2.2=0
 ·have e:=w.1.big (by omega) h0;have hwv:=w.2 h0 (by rw[e]);obtain⟨nm,a,c⟩:=W;obtain⟨nm',q⟩:=W';have h0:c=0:=h0;subst h0;have e:q=(a+1,0):=e;subst e;have hwv:nm=nm':=hwv;subst hwv;have ha:a=j+1:=(wl.2.2 rfl).2;have hal:a<ts.length:=wl.1;show SmV VP b _ (if B1 ts b5l (a,0)=true then _ else _) (if B1 us b5l (a+1,0)=true then _ else _);rw[M8 hS b5l rfl hal]
  by_cases h2:B1 ts b5l (a,0)=true
  ·rw[d3I h2,d3I h2];have c2:=(B0 (p:=(a,0)) hS.ends hal h2).2;have A:=hx.pc.at (b:=b) (m:=2 * n'+3) (p:=(a+1,0)) (q:=(a+1+1,0)) c2 .ok λ_=>by simp only;omega
   have Ah:=hx.pc.hi (a+1,0) c2;have d:=G8 hS M7 Ah A.1;have dl:=l8 (s:=M7) hS.ends Ah
   have B:=hx.pc.at (b:=b) (m:=2 * n'+3) dl.1 (d.le (by omega)) λh=>by
    have:=(hx.pc.lo (a+1,0) c2 (A2 h)).2;have:=dl.2.1;simp only at *;omega
   refine⟨(G8 hS Z3 (hx.pc.hi _ dl.1) B.1).le (by omega),λu v=>?_⟩;have u:=A2 u;have v:=A2 v;exact W7 (c0y (A.2 (A2 (hx.pc.lo _ dl.1 u).1) (A2 (hx.pc.er0 v))) (B.2 u v))
  ·rw[d3G h2,d3G h2];exact b6S hS hx pl pk nm nm (p:=(a,0)) (q:=(a+1,0)) hal .ok (λ_=>by simp only;omega) λ_ _=>rfl
 ·rw[a0u h0,d3G (show ¬(false=true) by decide)];refine .z λh=>h0 ?_
  have h:(l6 ts Z3 (H9 ts ex (a6e ts ex pl W.1 W.2).2).2).2=0:=h
  rw[show (a6e ts ex pl W.1 W.2).2=W.2 by
   unfold a6e;rw[b34 h0,hx.er _ h0];cases ts.length with
   | zero=>rfl
   | succ k=>rw[C2];dsimp only;rw[a0u h0];rfl,b8P h0] at h
  exact A2 h
theorem c7a (n:Nat):Pc ts VP (2 * n'+3) (I3 ts (n+1) ex) (I3 us (n'+1) ex') where
 hi p hp:=(a4N hS.ends (n+1) hx.fit hx.er hp).hi
 lo p hp h0:=by obtain⟨a,c⟩:=(a4N hS.ends (n+1) hx.fit hx.er hp).ok h0;exact⟨a,by omega⟩
 er q hq:=by unfold I3;rw[d3I hq]
 sm i hi:=by
  unfold I3;rw[d3G (show ¬((i,(0:Int)).2≠0) from λh=>h rfl),d3G (show ¬((i+1,(0:Int)).2≠0) from λh=>h rfl)];rw[M8 hS b2q rfl hi,M8 hS a7S rfl hi,M8 hS a0i rfl hi,M8 hS a7T rfl hi,M8 hS b2r rfl hi]
  by_cases h1:(r9 ts i).kind=1
  ·rw[d3I h1,d3I ((hS.k1 i hi).2 h1),hS.tx i hi h1];exact⟨.ok,λ_ _=>rfl⟩
  rw[d3G h1,d3G λh=>h1 ((hS.k1 i hi).1 h)]
  by_cases h2:(r9 ts i).kind=2
  ·rw[d3I h2,d3I ((hS.k2 i hi).2 h2),hS.nn i hi h2];exact⟨.ok,λ_ _=>rfl⟩
  rw[d3G h2,d3G λh=>h2 ((hS.k2 i hi).1 h)]
  by_cases h3:B1 ts b2q (i,0)=true
  ·rw[d3I h3,d3I h3];exact⟨.ok,λ_ _=>rfl⟩
  rw[d3G h3,d3G h3]
  by_cases h4:B1 ts a7S (i,0)=true
  ·rw[d3I h4,d3I h4];exact⟨.ok,λ_ _=>rfl⟩
  rw[d3G h4,d3G h4]
  by_cases h5:B1 ts a0i (i,0)=true
  ·rw[d3I h5,d3I h5];exact c4p hS hx n _ _ (B0 (p:=(i,0)) hS.ends hi h5).2 (d3Q _)
  rw[d3G h5,d3G h5]
  by_cases h6:B1 ts a7T (i,0)=true
  ·rw[d3I h6,d3I h6];exact c00 hS hx _ _ (B0 (p:=(i,0)) hS.ends hi h6).2 (d3Q _)
  rw[d3G h6,d3G h6]
  by_cases h7:B1 ts b2r (i,0)=true
  ·rw[d3I h7,d3I h7];exact c0z hS hx _ _ (B0 (p:=(i,0)) hS.ends hi h7).2 (d3Q _)
  rw[d3G h7,d3G h7];exact .z (C8 5 (by decide) _).2
end
section
variable {ts us:List Tok} (hS:Sh ts us) {M:Nat}
theorem b6V {f:PF} {g:PF} (hf:E3 ts f) (he:∀p:PE,p.2≠0->(g p).2.2=p.2) (hs:∀i,i<ts.length->SmV VP i M (f (i,0)) (g (i+1,0))):Pc ts VP M f g where
 hi p hp:=(hf p hp).hi
 lo p hp h0:=by obtain⟨a,c⟩:=(hf p hp).ok h0;exact⟨a,by omega⟩
 er:=he
 sm:=hs
include hS
theorem b0P {i:Nat} (hi:i<ts.length):∀l:List ByteArray,(l.all λs=>!(s.data.toList == [41]))=true->w9 us l (i+1,0)=w9 ts l (i,0)
 | [],_=>rfl
 | s::l,h=>by
  rw[d6y,d3N] at h;rw[w9,w9,M8 hS s (by simpa using h.1) hi,b0P hi l h.2]
theorem c7b {nx nx':PF} (hn:Pc ts VP M nx nx') (hf:E3 ts nx):Pc ts VP M (a1N nx ts) (a1N nx' us):=by
 have hE:=hS.ends;refine b6V (c7F hE hf) (λq hq=>?_) λi hi=>?_
 ·unfold a1N;have h1:=hn.er q hq
  have:∀k,J5 us (r9 us q.1).at_ k (nx' q)=nx' q:=λk=>by
   cases k with
   | zero=>rfl
   | succ k=>rw[J5,Y6 (by rw[h1];exact hq)]
  rw[this,h1]
 ·unfold a1N;have hl:=hS.len;have h1:=hn.sm i hi
  refine a5m (ts:=ts) (b:=i) (m:=M) (V:=VP) (F:=J5 ts (r9 ts i).at_) (G:=J5 us (r9 us (i+1)).at_)
   (f:=λs=>(w9 ts W6 s.2).map λg=>(A9 (a1M g) (j7 ts (s.2.1+1,0)).1 N9 (r9 ts i).at_ [s.1],(j7 ts (s.2.1+1,0)).2))
   (g:=λs=>(w9 us W6 s.2).map λg=>(A9 (a1M g) (j7 us (s.2.1+1,0)).1 N9 (r9 us (i+1)).at_ [s.1],(j7 us (s.2.1+1,0)).2))
   (λs=>rfl) (λk s=>by rw[J5];cases w9 ts W6 s.2 <;> rfl) (λs=>rfl) (λk s=>by rw[J5];cases w9 us W6 s.2 <;> rfl)
   (λs hs=>by rw[Y6 hs];rfl) (λs hs=>by rw[Y6 hs];rfl)
   (λs s1 hs h=>by
    try dsimp only at h
    cases hg:w9 ts W6 s.2 with
    | none=>rw[hg] at h;cases h
    | some g =>
     rw[hg] at h;cases h;obtain⟨g1,g2,g3⟩:=K7 hE hs hg;have wl:=r8 hE (p:=(s.2.1+1,0)) g2
     exact⟨wl.1,λ_=>by have:=wl.2.1;simp only at this ⊢;omega⟩)
   (λs s' hs h0 hb he hv=>by
    obtain⟨x,a,c⟩:=s;obtain⟨x',q⟩:=s';have h0:c=0:=h0;subst h0;have he:q=(a+1,0):=he;subst he;dsimp only;rw[b0P hS hs W6 rfl];cases hg:w9 ts W6 (a,0) with
    | none=>exact .inl ⟨rfl,rfl⟩
    | some g =>
     right
     obtain⟨g1,g2,g3⟩:=K7 (p:=(a,0)) hE hs hg;refine⟨_,_,rfl,rfl,?_⟩;have w:=a1g hS (p:=(a+1,0)) (q:=(a+1+1,0)) (b:=i) (m:=M) g2 .ok;refine⟨w.1.le (by omega),λu v=>?_⟩;show vp (C9 (a1M g) (j7 ts (a+1,0)).1 N9 0 false v8 _ [x])=vp (C9 (a1M g) (j7 us (a+1+1,0)).1 N9 0 false v8 _ [x']);rw[w.2 u v]
     exact W7 (b3B hv)) ts.length us.length _ _ (hn.hi (i,0) hi) (λh0=>by
    have:=(hn.lo (i,0) hi h0).2;simp only at this
    omega) h1
theorem c4q {i:Nat} (hi:i<ts.length):H8 (r9 us (i+1))=H8 (r9 ts i):=by
 have hb:∀t:Tok,H8 t=(t.kind == 1 || (t.kind == 2 || a2N.any λs=>Z5 t s)):=λt=>by
  unfold H8 Z5;cases h:(t.kind == 3)
  ·simp
  ·simp
 have hk:∀k:Int,(k=1\/k=2)->((r9 us (i+1)).kind == k)=((r9 ts i).kind == k):=λk hk=>by
  rw[d5r,d4H,d4H]
  rcases hk with rfl|rfl
  ·exact hS.k1 i hi
  ·exact hS.k2 i hi
 rw[hb,hb,hk 1 (.inl rfl),hk 2 (.inr rfl)];unfold a2N;simp only[d6z,List.any_nil];rw[hS.sg i hi _ rfl,hS.sg i hi _ rfl,hS.sg i hi _ rfl,hS.sg i hi _ rfl,hS.sg i hi _ rfl,hS.sg i hi _ rfl,hS.sg i hi _ rfl]
theorem d0d {nx nx':PF} (hn:Pc ts VP M nx nx') (hf:E3 ts nx):Pc ts VP M (a4b nx ts) (a4b nx' us):=by
 have hE:=hS.ends;refine b6V (b5b hf) (λq hq=>?_) λi hi=>?_
 ·unfold a4b;have h1:=hn.er q hq
  have:∀k,a04 nx' us (r9 us q.1).at_ k (nx' q)=nx' q:=λk=>by
   cases k with
   | zero=>rfl
   | succ k=>rw[a04,d3G λh=>by rw[h1] at h;exact hq h.1]
  rw[this,h1]
 ·unfold a4b;have hl:=hS.len;have h1:=hn.sm i hi
  refine a5m (ts:=ts) (b:=i) (m:=M) (V:=VP) (F:=a04 nx ts (r9 ts i).at_) (G:=a04 nx' us (r9 us (i+1)).at_)
   (f:=λs=>if s.2.2=0/\H8 (r9 ts s.2.1)=true then some (A9 37 N9 N9 (r9 ts i).at_ [s.1,(nx s.2).1],(nx s.2).2) else none)
   (g:=λs=>if s.2.2=0/\H8 (r9 us s.2.1)=true then some (A9 37 N9 N9 (r9 us (i+1)).at_ [s.1,(nx' s.2).1],(nx' s.2).2) else none)
   (λs=>rfl) (λk s=>by rw[a04];split <;> rfl) (λs=>rfl) (λk s=>by rw[a04];split <;> rfl)
   (λs hs=>d3G λh=>hs h.1) (λs hs=>d3G λh=>hs h.1)
   (λs s1 hs h=>by
    try dsimp only at h
    by_cases hc:s.2.2=0/\H8 (r9 ts s.2.1)=true
    ·rw[d3I hc] at h;cases h;exact⟨hn.hi _ hs,λh0=>(hn.lo _ hs h0).2⟩
    ·rw[d3G hc] at h;cases h)
   (λs s' hs h0 hb he hv=>by
    obtain⟨x,a,c⟩:=s;obtain⟨x',q⟩:=s';have h0:c=0:=h0;subst h0;have he:q=(a+1,0):=he;subst he;dsimp only;rw[c4q hS hs]
    by_cases hc:(0:Int)=0/\H8 (r9 ts a)=true
    ·right
     rw[d3I hc,d3I hc];refine⟨_,_,rfl,rfl,?_⟩;have w:=hn.at (b:=i) (m:=M) (p:=(a,0)) (q:=(a+1,0)) hs .ok λ_=>by simp only at hb ⊢;omega
     exact⟨w.1,λu v=>W7 (c0y hv (w.2 u v))⟩
    ·left
     rw[d3G hc,d3G hc]
     exact⟨rfl,rfl⟩) ts.length us.length _ _ (hn.hi (i,0) hi) (λh0=>by
    have:=(hn.lo (i,0) hi h0).2;simp only at this
    omega) h1
theorem c4r {sg:List ByteArray} (hg:(sg.all λs=>!(s.data.toList == [41]))=true) {nx nx':PF} (hn:Pc ts VP M nx nx') (hf:E3 ts nx):Pc ts VP M (λp=>a0g sg nx ts (r9 ts p.1).at_ ts.length (nx p)) (λp=>a0g sg nx' us (r9 us p.1).at_ us.length (nx' p)):=by
 have hE:=hS.ends;refine b6V (c6n (a:=λp=>(r9 ts p.1).at_) hE hf) (λq hq=>?_) λi hi=>?_
 ·have h1:=hn.er q hq
  try dsimp only
  rw[b4Y (by rw[h1];exact hq),h1]
 ·have hl:=hS.len;have h1:=hn.sm i hi
  refine a5m (ts:=ts) (b:=i) (m:=M) (V:=VP) (F:=a0g sg nx ts (r9 ts i).at_) (G:=a0g sg nx' us (r9 us (i+1)).at_)
   (f:=λs=>(w9 ts sg s.2).map λg=>(A9 40 g N9 (r9 ts i).at_ [s.1,(nx (s.2.1+1,0)).1],(nx (s.2.1+1,0)).2))
   (g:=λs=>(w9 us sg s.2).map λg=>(A9 40 g N9 (r9 us (i+1)).at_ [s.1,(nx' (s.2.1+1,0)).1],(nx' (s.2.1+1,0)).2))
   (λs=>rfl) (λk s=>by rw[a0g];cases w9 ts sg s.2 <;> rfl) (λs=>rfl) (λk s=>by rw[a0g];cases w9 us sg s.2 <;> rfl)
   (λs hs=>by rw[Y6 hs];rfl) (λs hs=>by rw[Y6 hs];rfl)
   (λs s1 hs h=>by
    try dsimp only at h
    cases hg:w9 ts sg s.2 with
    | none=>rw[hg] at h;cases h
    | some g =>
     rw[hg] at h;cases h;obtain⟨g1,g2,g3⟩:=K7 hE hs hg
     exact⟨hn.hi (s.2.1+1,0) g2,λh0=>by have:=(hn.lo (s.2.1+1,0) g2 h0).2;simp only at this ⊢;omega⟩)
   (λs s' hs h0 hb he hv=>by
    obtain⟨x,a,c⟩:=s;obtain⟨x',q⟩:=s';have h0:c=0:=h0;subst h0;have he:q=(a+1,0):=he;subst he;dsimp only;rw[b0P hS hs sg hg];cases hg:w9 ts sg (a,0) with
    | none=>exact .inl ⟨rfl,rfl⟩
    | some g =>
     right
     obtain⟨g1,g2,g3⟩:=K7 (p:=(a,0)) hE hs hg;refine⟨_,_,rfl,rfl,?_⟩;have w:=hn.at (b:=i) (m:=M) (p:=(a+1,0)) (q:=(a+1+1,0)) g2 .ok λ_=>by simp only at hb ⊢;omega
     exact⟨w.1,λu v=>W7 (c0y hv (w.2 u v))⟩) ts.length us.length _ _ (hn.hi (i,0) hi) (λh0=>by
    have:=(hn.lo (i,0) hi h0).2;simp only at this
    omega) h1
theorem c4s {n n':Nat} {pr pr':PF} (hr:Pc ts VP (2 * n'+1) pr pr') (op:Int) {i:Nat} (c2:i+1<ts.length):SmV VP i (2 * n'+3) (a4O ts n op pr (i,0)) (a4O us n' op pr' (i+1,0)):=by
 have hE:=hS.ends;unfold a4O;have w:=a1g hS (p:=(i+1,0)) (q:=(i+1+1,0)) (b:=i) (m:=ts.length) c2 .ok;have wl:=r8 hE (p:=(i+1,0)) c2;show SmV VP i _ (if n=0\/(j7 ts (i+1,0)).2.2≠0 then (zPL,M5 n (j7 ts (i+1,0)).2) else _) (if n'=0\/(j7 us (i+1+1,0)).2.2≠0 then (zPL,M5 n' (j7 us (i+1+1,0)).2) else _);generalize j7 ts (i+1,0)=W at *;generalize j7 us (i+1+1,0)=W' at *
 by_cases hc:n=0\/W.2.2≠0
 ·rw[d3I hc];refine .z ?_;show (M5 n W.2).2≠0;unfold M5
  by_cases h0:n=0
  ·rw[d3I h0];exact(C8 6 (by decide) _).2
  ·rw[d3G h0];exact hc.resolve_left h0
 ·rw[d3G hc];have h0:W.2.2=0:=d4Z.1 λh=>hc (.inr h)
  have e:=w.1.big (by omega) h0;have hv:=w.2 h0 (by rw[e]);have hlo:=(wl.2.2 h0).2;obtain⟨nm,a,c⟩:=W;obtain⟨nm',q⟩:=W';have h0:c=0:=h0;subst h0;have e:q=(a+1,0):=e;subst e;have hv:nm=nm':=hv;subst hv;have ha:a=i+1+1:=hlo
  by_cases hz:n'=0
  ·rw[d3I (.inl hz)];subst hz;refine⟨.six rfl λh1=>?_,λ_ h=>absurd (show (6:Int)=0 from h) (by decide)⟩;have:=(hr.lo (a,0) wl.1 h1).2;show i+(2 * 0+3)<=(pr (a,0)).2.1;simp only at this;omega
  ·rw[d3G (show ¬(n'=0\/(0:Int)≠0) from λh=>h.elim hz λh=>h rfl)];have A:=hr.at (b:=i) (m:=2 * n'+3) (p:=(a,0)) (q:=(a+1,0)) wl.1 .ok λ_=>by simp only;omega
   exact⟨A.1,λu v=>W7 (b3B (A.2 u v))⟩
theorem c7c {n n':Nat} {nx nx' pr pr':PF} (hn:Pc ts VP (2 * n'+3) nx nx') (hr:Pc ts VP (2 * n'+1) pr pr') {i:Nat} (hi:i<ts.length):SmV VP i (2 * n'+3) (a2F ts n nx pr (i,0)) (a2F us n' nx' pr' (i+1,0)):=by
 unfold a2F;rw[M8 hS gAt rfl hi,M8 hS a85 rfl hi]
 by_cases h1:B1 ts gAt (i,0)=true
 ·rw[d3I h1,d3I h1];exact c4s hS hr 46 (B0 (p:=(i,0)) hS.ends hi h1).2
 rw[d3G h1,d3G h1]
 by_cases h2:B1 ts a85 (i,0)=true
 ·rw[d3I h2,d3I h2];exact c4s hS hr 47 (B0 (p:=(i,0)) hS.ends hi h2).2
 rw[d3G h2,d3G h2];exact hn.sm i hi
theorem d0e {b:Nat} {sm sm':PF} (hs:Pc ts VP M sm sm') {a c:Int} {r r':PL×PE} (hr:r.2.1<ts.length) (hb:r.2.2=0->b<=r.2.1) (h:SmV VP b M r r'):SmV VP b M (a86 ts sm a r) (a86 us sm' c r'):=by
 by_cases h0:r.2.2=0
 ·obtain⟨x,i,z⟩:=r;have h0:z=0:=h0;subst h0;obtain⟨x',q⟩:=r';have hb:=hb rfl;simp only at hb
  have key:∀g:ByteArray,B1 ts g (i,0)=true->SmV VP b M (A9 40 g ⟨#[]⟩ a [x,(sm (i+1,0)).1],(sm (i+1,0)).2) (x',q)\/q=(i+1,0):=λg hg=>by
   rcases h.1 rfl with e|⟨e,e2⟩
   ·exact .inr e
   ·left
    refine⟨.six e λh1=>?_,λ_ h=>absurd h (I5 e)⟩;have c2:=(B0 (p:=(i,0)) hS.ends hr hg).2;have:=(hs.lo (i+1,0) c2 h1).2;simp only at this e2;show b+M<=(sm (i+1,0)).2.1;omega
  have ok:∀g:ByteArray,B1 ts g (i,0)=true->q=(i+1,0)->SmV VP b M (A9 40 g ⟨#[]⟩ a [x,(sm (i+1,0)).1],(sm (i+1,0)).2) (A9 40 g ⟨#[]⟩ c [x',(sm' (i+1+1,0)).1],(sm' (i+1+1,0)).2):=λg hg e=>by
   subst e;have c2:=(B0 (p:=(i,0)) hS.ends hr hg).2;have A:=hs.at (b:=b) (m:=M) (p:=(i+1,0)) (q:=(i+1+1,0)) c2 .ok λ_=>by simp only;omega
   exact⟨A.1,λu v=>W7 (c0y (h.2 rfl rfl) (A.2 u v))⟩
  unfold a86
  rcases h.1 rfl with e|⟨e,e2⟩
  ·have e:q=(i+1,0):=e;have hsk:∀s:ByteArray,(s.data.toList == [41])=false->B1 us s q=B1 ts s (i,0):=λs hs=>by rw[e];exact M8 hS s hs hr
   dsimp only;rw[hsk a3A rfl,hsk a3B rfl]
   by_cases h1:B1 ts a3A (i,0)=true
   ·rw[d3I h1,d3I h1];rw[show q.1=i+1 by rw[e]];exact ok _ h1 e
   rw[d3G h1,d3G h1]
   by_cases h2:B1 ts a3B (i,0)=true
   ·rw[d3I h2,d3I h2];rw[show q.1=i+1 by rw[e]];exact ok _ h2 e
   rw[d3G h2,d3G h2];exact h
  ·dsimp only;rw[a0u (s:=a3A) (ts:=us) (I5 e),a0u (s:=a3B) (ts:=us) (I5 e),d3G (show ¬(false=true) by decide),d3G (show ¬(false=true) by decide)];have hq:q≠(i+1,0):=λe3=>by rw[e3] at e;exact absurd (show (0:Int)=6 from e) (by decide)
   by_cases h1:B1 ts a3A (i,0)=true
   ·rw[d3I h1];exact(key _ h1).resolve_right hq
   rw[d3G h1]
   by_cases h2:B1 ts a3B (i,0)=true
   ·rw[d3I h2];exact(key _ h2).resolve_right hq
   rw[d3G h2];exact h
 ·refine .z ?_;unfold a86;rw[a0u h0,a0u h0];exact h0
theorem c7d {n n':Nat} {ex ex' sm sm':PF} (hx:ExOk ts us n' ex ex') (hs:Pc ts VP (2 * n'+3) sm sm') {i:Nat} (hi:i<ts.length):SmV VP i (2 * n'+3) (a1e ts (n+1) ex sm (i,0)) (a1e us (n'+1) ex' sm' (i+1,0)):=by
 have hE:=hS.ends;unfold a1e;rw[d3G (show ¬((i,(0:Int)).2≠0) from λh=>h rfl),d3G (show ¬((i+1,(0:Int)).2≠0) from λh=>h rfl)];rw[M8 hS a8r rfl hi,M8 hS a8s rfl hi,M8 hS b5m rfl hi,M8 hS gIf rfl hi]
 by_cases h1:B1 ts a8r (i,0)=true
 ·rw[d3I h1,d3I h1];exact a8y hS hx n _ _ false (B0 (p:=(i,0)) hE hi h1).2 (d3Q _)
 rw[d3G h1,d3G h1]
 by_cases h2:B1 ts a8s (i,0)=true
 ·rw[d3I h2,d3I h2];exact a8y hS hx n _ _ true (B0 (p:=(i,0)) hE hi h2).2 (d3Q _)
 rw[d3G h2,d3G h2]
 by_cases h3:B1 ts b5m (i,0)=true
 ·rw[d3I h3,d3I h3];have c2:=(B0 (p:=(i,0)) hE hi h3).2;have w:=a1g hS (p:=(i+1,0)) (q:=(i+1+1,0)) (b:=i) (m:=2 * n'+3) c2 .ok;have wl:=r8 hE (p:=(i+1,0)) c2;have d:=G8 hS E0 wl.1 w.1;have dl:=l8 (s:=E0) hE wl.1
  have A:=hx.pc.at (b:=i) (m:=2 * n'+3) dl.1 (d.le (by omega)) λh0=>by
   obtain⟨a,c⟩:=dl.2.2 h0;have:=(wl.2.2 a).2;simp only at this;omega
  have Ah:=hx.pc.hi _ dl.1;have f:=G8 hS gIn Ah A.1;have fl:=l8 (s:=gIn) hE Ah
  have B:=hx.pc.at (b:=i) (m:=2 * n'+3) fl.1 (f.le (by omega)) λh0=>by
   have h4:=A2 h0;have h5:=hx.pc.lo _ dl.1 h4;have h6:=dl.2.1;have h7:=wl.2.1;have:=fl.2.1;simp only at h7;omega
  unfold c0m;refine⟨B.1,λu v=>?_⟩;have u1:=A2 (hx.pc.lo _ fl.1 u).1;have v1:=A2 (hx.pc.er0 v);have u2:=A2 (hx.pc.lo _ dl.1 u1).1;have v2:=A2 (hx.pc.er0 v1);show vp (C9 38 (j7 ts (i+1,0)).1 ⟨#[]⟩ 0 false v8 _ _)=vp (C9 38 (j7 us (i+1+1,0)).1 ⟨#[]⟩ 0 false v8 _ _);rw[w.2 u2 v2];exact W7 (c0y (A.2 u1 v1) (B.2 u v))
 rw[d3G h3,d3G h3]
 by_cases h4:B1 ts gIf (i,0)=true
 ·rw[d3I h4,d3I h4];have c2:=(B0 (p:=(i,0)) hE hi h4).2;have A:=hx.pc.at (b:=i) (m:=2 * n'+2) (p:=(i+1,0)) (q:=(i+1+1,0)) c2 .ok λ_=>by simp only;omega
  have Ah:=hx.pc.hi (i+1,0) c2;have Al:=hx.pc.lo (i+1,0) c2;have d:=G8 hS a39 Ah A.1;have dl:=l8 (s:=a39) hE Ah
  have B:=hx.pc.at (b:=i) (m:=2 * n'+3) dl.1 d λh0=>by
   have:=(Al (A2 h0)).2;have:=dl.2.1;simp only at *;omega
  have Bh:=hx.pc.hi _ dl.1;have f:=G8 hS N5 Bh B.1;have fl:=l8 (s:=N5) hE Bh
  have C:=hx.pc.at (b:=i) (m:=2 * n'+3) fl.1 (f.le (by omega)) λh0=>by
   have h5:=hx.pc.lo _ dl.1 (A2 h0);have h6:=(Al (A2 h5.1)).2;have:=dl.2.1;have:=fl.2.1;simp only at h6;omega
  unfold ifW;refine⟨C.1,λu v=>?_⟩;have u1:=A2 (hx.pc.lo _ fl.1 u).1;have v1:=A2 (hx.pc.er0 v);have u2:=A2 (hx.pc.lo _ dl.1 u1).1;have v2:=A2 (hx.pc.er0 v1);exact W7 (d3s (A.2 u2 v2) (B.2 u1 v1) (C.2 u v))
 rw[d3G h4,d3G h4];exact d0e hS hs (hs.hi (i,0) hi) (λh0=>by have:=(hs.lo (i,0) hi h0).2;simp only at this;omega) (hs.sm i hi)
theorem d2l:∀n' n,Pc ts VP (2 * n'+1) (J1 ts n).1 (J1 us n').1/\Pc ts VP (2 * n'+1) (J1 ts n).2 (J1 us n').2:=by
 have hE:=hS.ends;intro n'
 induction n' with
 | zero =>
  intro n;obtain⟨f1,f2,f3⟩:=a1f hE n
  have h:∀f:PF,E3 ts f->Pc ts VP (2 * 0+1) f (λp=>(zPL,F6 6 p)):=λf hf=>b6V hf (λp hp=>by
   show (F6 6 p).2=p.2;unfold F6
   rw[d3I hp]) λi hi=>⟨.six rfl λh0=>by have:=((hf (i,0) hi).ok h0).2;simp only at this;omega,λ_ h=>absurd (show (6:Int)=0 from h) (by decide)⟩
  exact⟨h _ f1,h _ f3⟩
 | succ n' ih =>
  intro n;have hf:=a1f hE n
  have hg:∀p:PE,p.2≠0->((J1 us (n'+1)).1 p).2.2=p.2:=λp hp=>by
   rw[J1];show (a1e us (n'+1) _ _ p).2.2=p.2;rw[b2s _ _ _ _ _ hp]
  cases n with
  | zero =>
   have hz:∀g:PF,(∀p:PE,p.2≠0->(g p).2.2=p.2)->Pc ts VP (2 * (n'+1)+1) (λp=>(zPL,F6 6 p)) g:=λg hg=>b6V hf.1 hg λi hi=>.z (show (6:Int)≠0 by decide)
   refine⟨hz _ hg,hz _ λp hp=>?_⟩;rw[J1];show (a2F us n' (a1N (I3 us (n'+1) (J1 us n').1) us) (J1 us n').2 p).2.2=p.2;unfold a2F a1N;rw[a0u hp,a0u hp,d3G (show ¬(false=true) by decide),d3G (show ¬(false=true) by decide)];have h1:I3 us (n'+1) (J1 us n').1 p=(zPL,p):=by unfold I3;rw[d3I hp]
   rw[h1];cases us.length with
   | zero=>rfl
   | succ k=>rw[J5,Y6 hp]
  | succ n =>
   obtain⟨g1,g2⟩:=ih n;obtain⟨h1,h2,h3⟩:=a1f hE n;have hx:ExOk ts us n' (J1 ts n).1 (J1 us n').1:=⟨g1,h1,h2⟩;have hat:E3 ts (I3 ts (n+1) (J1 ts n).1):=λp hp=>a4N hE (n+1) h1 h2 hp
   have hP:E3 ts (a1T ts n (J1 ts n).1 (J1 ts n).2):=(a1f hE (n+1)).2.2;have hpo:=c7b hS (c7a hS hx n) hat
   have gP:Pc ts VP (2 * n'+3) (a1T ts n (J1 ts n).1 (J1 ts n).2) (a1T us n' (J1 us n').1 (J1 us n').2):=b6V hP (λp hp=>by
    show (a2F us n' (a1N (I3 us (n'+1) (J1 us n').1) us) (J1 us n').2 p).2.2=p.2;unfold a2F;rw[a0u hp,a0u hp,d3G (show ¬(false=true) by decide),d3G (show ¬(false=true) by decide)]
    exact hpo.er p hp) λi hi=>c7c hS hpo g2 hi
   have gA:=d0d hS gP hP;have hA:=b5b hP;have gM:Pc ts VP (2 * n'+3) (a4L (a4b (a1T ts n (J1 ts n).1 (J1 ts n).2) ts) ts) (a4L (a4b (a1T us n' (J1 us n').1 (J1 us n').2) us) us):=c4r hS (sg:=a24) rfl gA hA;have hM:=(a1O hE hP).1;have gS:Pc ts VP (2 * n'+3) (b5o ts (a1T ts n (J1 ts n).1 (J1 ts n).2)) (b5o us (a1T us n' (J1 us n').1 (J1 us n').2)):=c4r hS (sg:=a56) rfl gM hM;exact⟨b6V (a1f hE (n+1)).1 hg λi hi=>c7d hS hx gS hi,gP⟩
end
end
end Go.Proofs.YtdjnoafijjepcaaGreat.Vm
end
section
namespace Go.Proofs.YtdjnoafijjepcaaGreat
open Go.RowKit
set_option maxRecDepth 100000
set_option maxHeartbeats 4000000
theorem a5A (p:Int->Bool):∀l:List Int,(l.takeWhile p).length<=l.length
 | []=>d3Q _
 | x::l=>by
  rw[d5u]
  split
  ·have:=a5A p l
   simp;exact this
  ·simp
theorem b8Q (x m:List Int):V (x++m) x.length↔V x x.length:=by
 match x with
 | []=>simp[V]
 | [a]=>simp[V,gb]
 | [a,b]=>simp[V,gb]
 | [a,b,c]=>simp[V,gb]
 | [a,b,c,d]=>simp[V,gb]
 | a::b::c::d::e::t=>simp[V]
theorem c7e {x m:List Int} (hb:Byt (x++m)) (hv:V x x.length):nx (x++m) 0=x.length:=by
 have:=b2W hb x.length (by simp) ((b8Q x m).2 hv);unfold nx;rw[d5b,this]
 simp
theorem d2m {x:List Int} (hv:V x x.length):x≠[]:=by
 rintro rfl
 simp[V] at hv
theorem c7f {l:List Int} {a:Nat} (hb:Byt l) (h0:nx l a≠0):V ((l.drop a).take (nx l a)) (nx l a)/\nx l a<=(l.drop a).length:=by
 rcases c2f (a32 hb a) with h|⟨n,hn,h1,h4,hv⟩
 ·exact absurd (by unfold nx;rw[h];rfl) h0
 ·have hnx:nx l a=n:=by
   unfold nx;rw[b2W (a32 hb a) n hn hv]
   simp
  rw[hnx];refine⟨?_,hn⟩;have hl:((l.drop a).take n).length=n:=by rw[d4n];omega
  have:=(b8Q ((l.drop a).take n) ((l.drop a).drop n)).1;rw[d46,hl] at this;exact this hv
abbrev a0v:=Int×ByteArray×Int
def Tok.core (t:Tok):a0v:=(t.kind,t.text,t.n)
theorem b2y (s:ByteArray) (a:Int):(L8 s a).1.core=(L8 s 0).1.core/\(L8 s a).2=(L8 s 0).2/\(L8 s a).1.at_=a:=by
 unfold L8 Tok.core
 repeat' split
 all_goals exact⟨rfl,rfl,rfl⟩
inductive Sc:List Int->Bool->List Int->List (a0v×List Int)->Prop
 | fin (rem:Bool):Sc [] rem [] []
 | remk {x m pre:List Int} {cs:List (a0v×List Int)}:V x x.length->Sc m (gb x 0 != 10) pre cs->Sc (x++m) true (x++pre) cs
 | blank {c:Int} {m pre:List Int} {cs:List (a0v×List Int)}:J9 c=true->Sc m false pre cs->Sc (c::m) false (c::pre) cs
 | hash {m pre:List Int} {cs:List (a0v×List Int)}:Sc m true pre cs->Sc (35::m) false (35::pre) cs
 | run {x m pre:List Int} {cs:List (a0v×List Int)}:x≠[]->(∀c∈x,H2 c=true)->(∀c,m.head?=some c->H2 c=false)->(L8 (strOfNums x) 0).2=0->Sc m false pre cs->Sc (x++m) false [] (((L8 (strOfNums x) 0).1.core,x++pre)::cs)
 | sign {x m pre:List Int} {cs:List (a0v×List Int)}:x≠[]->C4 (x++m)=x.length->Sc m false pre cs->Sc (x++m) false [] (((3,strOfNums x,0),x++pre)::cs)
def place:Nat->List (a0v×List Int)->List Tok
 | _,[]=>[]
 | p,(t,c)::cs=>⟨t.1,t.2.1,t.2.2,p⟩::place (p+c.length) cs
theorem a6k:∀(p:Nat) (cs:List (a0v×List Int)),(place p cs).map Tok.core=cs.map λc=>c.1
 | _,[]=>rfl
 | p,(t,c)::cs=>by simp[place,a6k,Tok.core]
theorem a5B (p:Int->Bool):∀(x m:List Int),(∀c∈x,p c=true)->(∀c,m.head?=some c->p c=false)->(x++m).takeWhile p=x
 | [],m,_,h=>by
  cases m with
  | nil=>rfl
  | cons c m =>
   have:=h c rfl
   simp[this]
 | c::x,m,h1,h2=>by
  rw[d43,d5u,h1 c (by simp),d3I rfl,a5B p x m (λd hd=>h1 d (by simp[hd])) h2]
theorem b50 (p:Int->Bool):∀l:List Int,l=l.takeWhile p++l.drop (l.takeWhile p).length/\(∀c∈l.takeWhile p,p c=true)/\∀c,(l.drop (l.takeWhile p).length).head?=some c->p c=false
 | []=>⟨rfl,by simp,by simp⟩
 | x::l=>by
  obtain⟨h1,h2,h3⟩:=b50 p l;rw[d5u]
  by_cases hx:p x=true
  ·rw[d3I hx];refine⟨by simpa using h1,λc hc=>?_,by simpa using h3⟩
   rcases d3R.1 hc with rfl|hc
   ·exact hx
   ·exact h2 c hc
  ·rw[d3G hx];refine⟨rfl,by simp,λc hc=>?_⟩
   simp at hc
   subst hc
   simpa using hx
theorem b6W {l:List Int} (h:C4 l≠0):J9 (gb l 0)=false/\gb l 0≠35/\H2 (gb l 0)=false/\gb l 0<128:=by
 have hc:gb l 0∈a6G\/gb l 0=61\/gb l 0=58\/gb l 0=45:=by
  unfold C4 at h
  split at h
  ·rename_i h2;have:=h2.2
   simp[a81] at this
   omega
  ·split at h
   ·exact .inl ‹_›
   ·exact absurd rfl h
 rw[b0d,c5t]
 rcases hc with hc|hc|hc|hc
 ·simp[a6G] at hc;omega
 all_goals omega
theorem c4t {t:Tok} {c:a0v} {a:Int} (h1:t.core=c) (h2:t.at_=a):(⟨c.1,c.2.1,c.2.2,a⟩:Tok)=t:=by subst h1;subst h2;rfl
theorem b6X {l:List Int} (hb:Byt l):∀(n a:Nat) (rem:Bool) (out:List Tok),l.length - a<=n->a<=l.length->(n8 l a rem out).2.2=0 ->
  ∃pre cs,Sc (l.drop a) rem pre cs/\n8 l a rem out=(out++place (a+pre.length) cs++[⟨4,⟨#[]⟩,0,l.length⟩],0,0):=by
 intro n
 induction n with
 | zero =>
  intro a rem out hn ha _;rw[a34 (by omega),d4w (by omega)];exact⟨[],[],.fin _,by simp[place]⟩
 | succ n ih =>
  intro a rem out hn ha h0
  rcases d4F a l.length with hlt|hge
  ·by_cases hx:nx l a=0
   ·rw[b0c hlt hx] at h0;simp at h0
   ·have hd:l.drop a=gb l a::l.drop (a+1):=by
     rw[d4c hlt];simp[gb,hlt]
    have hbd:=c2g hx;have hle:=hbd.2.2 hlt;cases rem
    ·rcases b6p (gb l a) with h|⟨h,h35⟩|⟨h,h35,hr⟩|⟨h,h35,hr⟩
     ·rw[a3U hlt hx h] at h0 ⊢;obtain⟨pre,cs,h1,h2⟩:=ih (a+1) false out (by omega) (by omega) h0;refine⟨gb l a::pre,cs,?_,?_⟩
      ·rw[hd];exact .blank h h1
      ·rw[h2];simp[d48,d5Z 1]
     ·rw[a7E hlt hx h35] at h0 ⊢;obtain⟨pre,cs,h1,h2⟩:=ih (a+1) true out (by omega) (by omega) h0;refine⟨35::pre,cs,?_,?_⟩
      ·rw[hd,h35];exact .hash h1
      ·rw[h2];simp[d48,d5Z 1]
     ·have hp:=a5d hlt hr;obtain⟨t1,t2,t3⟩:=b50 H2 (l.drop a);have hrl:(l.drop a).takeWhile H2=G9 l a:=rfl;rw[hrl,d5i] at t1 t3;rw[hrl] at t2
      have hlen:a+(G9 l a).length<=l.length:=by
       have:=a5A H2 (l.drop a);rw[hrl,d4l] at this;omega
      obtain⟨rc1,rc2,rc3⟩:=b2y (strOfNums (G9 l a)) a;rw[a6H hlt hx h h35 hr] at h0 ⊢
      by_cases hc:(L8 (strOfNums (G9 l a)) a).2=0
      ·rw[d3I hc] at h0 ⊢;obtain⟨pre,cs,h1,h2⟩:=ih (a+(G9 l a).length) false _ (by omega) (by omega) h0;refine⟨[],((L8 (strOfNums (G9 l a)) 0).1.core,G9 l a++pre)::cs,?_,?_⟩
       ·have h':=Sc.run (x:=G9 l a) (λe=>by rw[e] at hp;simp at hp) t2 t3 (rc2 ▸ hc) h1;rw[<-t1] at h';exact h'
       ·rw[h2];have e:(⟨(L8 (strOfNums (G9 l a)) 0).1.core.1,(L8 (strOfNums (G9 l a)) 0).1.core.2.1,(L8 (strOfNums (G9 l a)) 0).1.core.2.2,(a:Int)⟩:Tok)=(L8 (strOfNums (G9 l a)) a).1:=c4t rc1 rc3;simp only[place,d3Y,d4E,e,d3K,d4q,d43,d44,d48]
      ·rw[d3G hc] at h0;exact absurd h0 hc
     ·by_cases hs:C4 (l.drop a)=0
      ·rw[a8l hlt hx h h35 hr hs] at h0;simp at h0
      ·rw[a7F hlt hx h h35 hr hs] at h0 ⊢;have hle:=b2Y hlt;obtain⟨pre,cs,h1,h2⟩:=ih (a+C4 (l.drop a)) false _ (by omega) (by omega) h0;have hlen:((l.drop a).take (C4 (l.drop a))).length=C4 (l.drop a):=by rw[d4n,d4l];omega
       have e:l.drop a=(l.drop a).take (C4 (l.drop a))++l.drop (a+C4 (l.drop a)):=by
        rw[<-d5i,d46]
       refine⟨[],((3,strOfNums ((l.drop a).take (C4 (l.drop a))),0),(l.drop a).take (C4 (l.drop a))++pre)::cs,?_,?_⟩
       ·have h':=Sc.sign (x:=(l.drop a).take (C4 (l.drop a))) (m:=l.drop (a+C4 (l.drop a))) (λe=>by rw[e] at hlen;exact hs hlen.symm) (by rw[<-e,hlen]) h1;rw[<-e] at h';exact h'
       ·rw[h2];simp only[place,d3Y,d4E,d3K,hlen,d4q,d43,d44,d48]
    ·rw[a49 hlt hx] at h0 ⊢;obtain⟨pre,cs,h1,h2⟩:=ih (a+nx l a) (gb l a != 10) out (by omega) (by omega) h0;obtain⟨hv,hl⟩:=c7f hb hx;have hlen:((l.drop a).take (nx l a)).length=nx l a:=by rw[d4n];omega
     refine⟨(l.drop a).take (nx l a)++pre,cs,?_,?_⟩
     ·have e:l.drop a=(l.drop a).take (nx l a)++l.drop (a+nx l a):=by
       rw[<-d5i,d46]
      have h10:(gb l a != 10)=(gb ((l.drop a).take (nx l a)) 0 != 10):=by
       rw[c4P _ _ _ (by omega),a07,d4E]
      rw[h10] at h1;have h':=Sc.remk (x:=(l.drop a).take (nx l a)) (by rw[hlen];exact hv) h1;rw[<-e] at h';exact h'
     ·rw[h2,d3K,hlen];simp[d48]
  ·rw[a34 hge,d4w hge];exact⟨[],[],.fin _,by simp[place]⟩
theorem b6Y {l:List Int} (hb:Byt l) {m:List Int} {rem:Bool} {pre:List Int} {cs:List (a0v×List Int)} (h:Sc m rem pre cs) :
  ∀(a:Nat) (out:List Tok),a<=l.length->l.drop a=m->n8 l a rem out=(out++place (a+pre.length) cs++[⟨4,⟨#[]⟩,0,l.length⟩],0,0):=by
 induction h with
 | fin rem =>
  intro a out ha hd
  have:l.length<=a:=by
   have:=congrArg List.length hd;rw[d4l] at this
   simp at this
   omega
  rw[a34 this];simp[place]
 | @remk x m pre cs hv h1 ih =>
  intro a out ha hd;have hx:=d2m hv;have hxl:0<x.length:=d5N.2 hx
  have hl:a+x.length<=l.length:=by
   have:=congrArg List.length hd;rw[d4l,d3K] at this;omega
  have hn:nx l a=x.length:=by
   have:=c7e (x:=x) (m:=m) (by rw[<-hd];exact a32 hb a) hv;rw[<-hd] at this;unfold nx at this ⊢
   rwa [d5b] at this
  have hg:gb l a=gb x 0:=by
   have:gb (l.drop a) 0=gb (x++m) 0:=by rw[hd]
   rw[a07,d4E,a4r hxl] at this;exact this
  rw[a49 (by omega) (by omega),hn,hg,ih (a+x.length) out hl (by rw[<-d5i,hd,d5X]),d3K,d48]
 | @blank c m pre cs hc h1 ih =>
  intro a out ha hd
  have hl:a+1<=l.length:=by
   have:=congrArg List.length hd;rw[d4l,d3O] at this;omega
  have hg:gb l a=c:=by
   have:gb (l.drop a) 0=gb (c::m) 0:=by rw[hd]
   rw[a07,d4E] at this;exact this
  have hasc:gb l a<128:=by rw[hg];have:=(a35 c).1 hc;omega
  rw[a3U (by omega) (by rw[a01 hb (by omega) hasc];omega) (by rw[hg];exact hc),ih (a+1) out hl (by rw[<-d5i,hd];rfl),d3O,d48,d5Z 1]
 | @hash m pre cs h1 ih =>
  intro a out ha hd
  have hl:a+1<=l.length:=by
   have:=congrArg List.length hd;rw[d4l,d3O] at this;omega
  have hg:gb l a=35:=by
   have:gb (l.drop a) 0=gb (35::m) 0:=by rw[hd]
   rw[a07,d4E] at this;exact this
  rw[a7E (by omega) (by rw[a01 hb (by omega) (by omega)];omega) hg,ih (a+1) out hl (by rw[<-d5i,hd];rfl),d3O,d48,d5Z 1]
 | @run x m pre cs hx hall hhd hc h1 ih =>
  intro a out ha hd;have hxl:0<x.length:=d5N.2 hx
  have hl:a+x.length<=l.length:=by
   have:=congrArg List.length hd;rw[d4l,d3K] at this;omega
  have hra:G9 l a=x:=by unfold G9;rw[hd];exact a5B H2 x m hall hhd
  have hg:gb l a=gb x 0:=by
   have:gb (l.drop a) 0=gb (x++m) 0:=by rw[hd]
   rw[a07,d4E,a4r hxl] at this;exact this
  have hr:H2 (gb l a)=true:=by rw[hg];exact hall _ (b5F hxl)
  obtain⟨hb1,hb2,hb3⟩:=b0e hr;obtain⟨rc1,rc2,rc3⟩:=b2y (strOfNums x) a;rw[a6H (by omega) (by rw[a01 hb (by omega) hb3];omega) hb1 hb2 hr,hra,d3I (by rw[rc2];exact hc),ih (a+x.length) _ hl (by rw[<-d5i,hd,d5X])];have e:(⟨(L8 (strOfNums x) 0).1.core.1,(L8 (strOfNums x) 0).1.core.2.1,(L8 (strOfNums x) 0).1.core.2.2,(a:Int)⟩:Tok)=(L8 (strOfNums x) a).1:=c4t rc1 rc3;simp only[place,d3Y,d4E,e,d3K,d4q,d43,d44,d48]
 | @sign x m pre cs hx hs h1 ih =>
  intro a out ha hd;have hxl:0<x.length:=d5N.2 hx
  have hl:a+x.length<=l.length:=by
   have:=congrArg List.length hd;rw[d4l,d3K] at this;omega
  have hf:=b6W (l:=l.drop a) (by rw[hd,hs];omega);rw[a07,d4E] at hf;obtain⟨f1,f2,f3,f4⟩:=hf;rw[a7F (by omega) (by rw[a01 hb (by omega) f4];omega) f1 f2 f3 (by rw[hd,hs];omega),hd,hs,d6s,ih (a+x.length) _ hl (by rw[<-d5i,hd,d5X])];simp only[place,d3Y,d4E,d3K,d4q,d43,d44,d48]
def a7e:List Int:=[10,41]
def d3t (c:Int):a0v×List Int:=((3,strOfNums [c],0),[c])
theorem c7g {x m m':List Int} (hx:x≠[]) (hs:C4 (x++m)=x.length) (hh:m'.head?=m.head?\/m'.head?=some 10):C4 (x++m')=x.length:=by
 match x,hx,hs with
 | [a],_,hs =>
  simp only[d6d,d5f] at hs ⊢
  have h0:¬(2<=(a::m).length/\a81 (gb (a::m) 0) (gb (a::m) 1)=true):=λh=>by
   unfold C4 at hs;rw[d3I h] at hs;cases hs
  have h1:a∈a6G:=by
   unfold C4 at hs;rw[d3G h0] at hs
   by_cases hm:gb (a::m) 0∈a6G
   ·exact hm
   ·rw[d3G hm] at hs;cases hs
  have h2:¬(2<=(a::m').length/\a81 (gb (a::m') 0) (gb (a::m') 1)=true):=λh=>by
   cases m' with
   | nil=>simp at h
   | cons d m' =>
    rcases hh with hh|hd
    ·cases m with
     | nil=>simp at hh
     | cons e m =>
      simp at hh
      subst hh;exact h0 ⟨by simp,by simpa [gb] using h.2⟩
    ·simp at hd
     subst hd;have:=h.2
     simp[gb,a81] at this
  unfold C4;rw[d3G h2];have:gb (a::m') 0=a:=rfl;rw[this,d3I h1]
 | [a,b],_,hs =>
  have h0:a81 a b=true:=by
   cases hd:a81 a b
   ·exfalso;unfold C4 at hs;rw[d3G (by simp[gb,hd])] at hs
    split at hs <;> simp at hs
   ·rfl
  unfold C4;rw[d3I ⟨by simp,by simpa [gb] using h0⟩];rfl
 | a::b::c::t,_,hs =>
  have:=(b7R (a::b::c::t++m) (by simp)).1;rw[hs] at this
  simp at this
theorem c7h:Sc a7e false [10] [d3t 41]:=.blank (by decide) (.sign (x:=[41]) (m:=[]) (by decide) (by decide) (.fin false))
theorem b51 {m:List Int}:(m++a7e).head?=m.head?\/(m++a7e).head?=some 10:=by
 cases m with
 | nil=>exact .inr rfl
 | cons a m=>exact .inl rfl
theorem Sc.shut {m:List Int} {rem:Bool} {pre:List Int} {cs:List (a0v×List Int)} (h:Sc m rem pre cs):∃pre' cs',Sc (m++a7e) rem pre' cs'/\cs'.map (λc=>c.1)=cs.map (λc=>c.1)++[(3,strOfNums [41],0)]:=by
 induction h with
 | fin rem =>
  cases rem
  ·exact⟨_,_,c7h,rfl⟩
  ·exact⟨_,_,.remk (x:=[10]) (m:=[41]) (by simp[V,gb]) (.sign (x:=[41]) (m:=[]) (by decide) (by decide) (.fin false)),rfl⟩
 | @remk x m pre cs hv h1 ih =>
  obtain⟨pre',cs',h2,h3⟩:=ih;exact⟨_,cs',by rw[d4q];exact .remk hv h2,h3⟩
 | @blank c m pre cs hc h1 ih =>
  obtain⟨pre',cs',h2,h3⟩:=ih;exact⟨_,cs',.blank hc h2,h3⟩
 | @hash m pre cs h1 ih =>
  obtain⟨pre',cs',h2,h3⟩:=ih;exact⟨_,cs',.hash h2,h3⟩
 | @run x m pre cs hx hall hhd hc h1 ih =>
  obtain⟨pre',cs',h2,h3⟩:=ih
  have hh:∀c,(m++a7e).head?=some c->H2 c=false:=λc hcc=>by
   rcases b51 (m:=m) with hh|hh
   ·rw[hh] at hcc;exact hhd c hcc
   ·rw[hh] at hcc;injection hcc with hcc;rw[<-hcc]
    decide
  exact⟨[],_,by rw[d4q];exact .run hx hall hh hc h2,by rw[d4a,h3];rfl⟩
 | @sign x m pre cs hx hs h1 ih =>
  obtain⟨pre',cs',h2,h3⟩:=ih;exact⟨[],_,by rw[d4q];exact .sign hx (c7g hx hs b51) h2,by rw[d4a,h3];rfl⟩
def c01 (l:List Int):List Int:=40::10::(l++a7e)
theorem c7i {l:List Int} (hb:Byt l):Byt (c01 l):=λx hx=>by
 unfold c01 a7e at hx;simp only[d3R,d4s,d5h,d6b] at hx
 rcases hx with rfl|rfl|hx|rfl|rfl
 ·decide
 ·decide
 ·exact hb x hx
 ·decide
 ·decide
theorem c4u {l:List Tok} {i:Nat} {cs:List a0v} (h:l.map Tok.core=cs):(l[i]?).map Tok.core=cs[i]?:=by rw[<-h,d4p]
theorem c4v {l:List Int} (hb:Byt l) (h:(n8 l 0 false []).2.2=0):∃(cs:List a0v) (ts us:List Tok),n8 l 0 false []=(ts,0,0)/\n8 (c01 l) 0 false []=(us,0,0)/\ts.map Tok.core=cs++[(4,⟨#[]⟩,0)]/\us.map Tok.core=(3,strOfNums [40],0)::(cs++[(3,strOfNums [41],0),(4,⟨#[]⟩,0)]):=by
 obtain⟨pre,cs,h1,h2⟩:=b6X hb l.length 0 false [] (by omega) (by omega) h;rw[d5b] at h1;obtain⟨pre',cs',h3,h4⟩:=h1.shut;have h5:Sc (c01 l) false [] ((((3,strOfNums [40],0),[40]++(10::pre')))::cs'):=.sign (x:=[40]) (m:=10::(l++a7e)) (by decide) (by rfl) (.blank (by decide) h3);have h6:=b6Y (c7i hb) h5 0 [] (by omega) (d5b ..);refine⟨cs.map (λc=>c.1),_,_,h2,h6,?_,?_⟩
 ·simp only[d44,d45,a6k];rfl
 ·simp only[d44,d45,a6k,d4a,h4,d4q,d43];rfl
end Go.Proofs.YtdjnoafijjepcaaGreat
end
section
namespace Go.Proofs.YtdjnoafijjepcaaGreat.Vm
open Go.RowKit
set_option maxRecDepth 100000
set_option maxHeartbeats 4000000
def IsT (t:Tok) (k:Int) (w:List UInt8):Prop:=t.kind=k/\t.text.data.toList=w
theorem IsT.g {t:Tok} {k:Int} {w:List UInt8} (h:IsT t k w) (s:ByteArray):Z5 t s=((k == 3) && (w == s.data.toList)):=by
 unfold Z5;rw[h.1,ByteArray.toList_eq,ByteArray.toList_eq,h.2]
theorem IsT.starts {t:Tok} {k:Int} {w:List UInt8} (h:IsT t k w):H8 t=(k == 1 || (k == 2 || (k == 3 && a2N.any λs=>w == s.data.toList))):=by
 unfold H8;rw[h.1]
 congr 2
 congr 1
 unfold a2N;simp only[d6z,List.any_nil,ByteArray.toList_eq,h.2]
def a7f:List ByteArray:=W6++(a24++(a56++[a3A,a3B]))
def b2z (t:Tok):Bool:=!(H8 t) && a7f.all λs=>!(Z5 t s)
theorem c7j {t:Tok} {k:Int} {w:List UInt8} (h:IsT t k w) (h1:(k == 1 || (k == 2 || (k == 3 && a2N.any λs=>w == s.data.toList)))=false) (h2:(a7f.all λs=>!((k == 3) && (w == s.data.toList)))=true):b2z t=true:=by
 unfold b2z;rw[h.starts,h1,show (λs=>!(Z5 t s))=λs=>!((k == 3) && (w == s.data.toList)) from funext λs=>by rw[h.g],h2];rfl
theorem b0Q {ts:List Tok} {p:PE}:∀ {l:List ByteArray},(p.2≠0\/∀s∈l,Z5 (r9 ts p.1) s=false)->w9 ts l p=none
 | [],_=>rfl
 | s::l,h=>by
  rw[w9]
  have e:B1 ts s p=false:=by
   unfold B1
   rcases h with h|h
   ·rw[d3T h];rfl
   ·rw[h s (d3L ..),d5a]
  rw[d3G (by rw[e];decide)];exact b0Q (h.imp id λh x hx=>h x (d3M _ hx))
def a2R (ts:List Tok) (p:PE):Prop:=p.2≠0\/b2z (r9 ts p.1)=true
theorem a2R.g {ts:List Tok} {p:PE} (h:a2R ts p) (s:ByteArray) (hs:s∈a7f):p.2≠0\/Z5 (r9 ts p.1) s=false:=by
 refine h.imp id λh=>?_
 unfold b2z at h;rw[d3N,d4f] at h
 simpa using h.2 s hs
theorem a2R.all {ts:List Tok} {p:PE} (h:a2R ts p) {l:List ByteArray} (hl:∀s∈l,s∈a7f):p.2≠0\/∀s∈l,Z5 (r9 ts p.1) s=false:=by
 by_cases h0:p.2=0
 ·exact .inr λs hs=>(h.g s (hl s hs)).resolve_left λh=>h h0
 ·exact .inl h0
theorem a2R.starts {ts:List Tok} {p:PE} (h:a2R ts p):¬(p.2=0/\H8 (r9 ts p.1)=true):=λ⟨h0,h1⟩=>by
 rcases h with h|h
 ·exact h h0
 ·unfold b2z at h;rw[h1] at h;cases h
theorem c7k {pr:PF} {ts:List Tok} {a:Int} {s:PL×PE} (h:a2R ts s.2):∀k,a04 pr ts a k s=s
 | 0=>rfl
 | k+1=>by rw[a04,d3G h.starts]
theorem b8R {sg:List ByteArray} {nx:PF} {ts:List Tok} {a:Int} {s:PL×PE} (h:a2R ts s.2) (hl:∀x∈sg,x∈a7f):∀k,a0g sg nx ts a k s=s
 | 0=>rfl
 | k+1=>by rw[a0g,b0Q (h.all hl)]
theorem c4w {ts:List Tok} {a:Int} {s:PL×PE} (h:a2R ts s.2):∀k,J5 ts a k s=s
 | 0=>rfl
 | k+1=>by rw[J5,b0Q (h.all λx hx=>by unfold a7f;exact d5n _ hx)]
theorem c7l {ts:List Tok} {P:PF} {p:PE} (h:a2R ts (P p).2):b5o ts P p=P p:=by
 have e1:a4b P ts p=P p:=c7k h _
 have e2:a4L (a4b P ts) ts p=P p:=by
  unfold a4L;rw[e1];exact b8R h (λx hx=>by unfold a7f;exact d4P _ (d5n _ hx)) _
 unfold b5o c3i;rw[e2];exact b8R h (λx hx=>by unfold a7f;exact d4P _ (d4P _ (d5n _ hx))) _
theorem d0f {ts:List Tok} {sm:PF} {a:Int} {s:PL×PE} (h:a2R ts s.2):a86 ts sm a s=s:=by
 have e:∀g∈[a3A,a3B],B1 ts g s.2=false:=λg hg=>by
  unfold B1
  rcases h.g g (by unfold a7f;exact d4P _ (d4P _ (d4P _ hg))) with h|h
  ·rw[d3T h];rfl
  ·rw[h,d5a]
 unfold a86;rw[d3G (by rw[e a3A (d3L ..)];decide),d3G (by rw[e a3B (d3M _ (d3L ..))];decide)]
theorem a5C {ts:List Tok} {s:ByteArray} {i:Nat}:B1 ts s (i,0)=Z5 (r9 ts i) s:=by unfold B1;rfl
theorem d2n {ts:List Tok} {n i:Nat} (hk:∀s∈[a8r,a8s,b5m,gIf],Z5 (r9 ts i) s=false) (hs:a2R ts ((J1 ts (n+1)).2 (i,0)).2):(J1 ts (n+1)).1 (i,0)=(J1 ts (n+1)).2 (i,0):=by
 rw[J1] at hs ⊢;simp only at hs ⊢;unfold a1e;rw[d3G (λh=>h rfl),d3G (by rw[a5C,hk a8r (by simp)];decide),d3G (by rw[a5C,hk a8s (by simp)];decide),d3G (by rw[a5C,hk b5m (by simp)];decide),d3G (by rw[a5C,hk gIf (by simp)];decide)];rw[c7l hs,d0f hs]
theorem d0g {ts:List Tok} {n i:Nat} (hk:∀s∈[gAt,a85],Z5 (r9 ts i) s=false) (hs:a2R ts (I3 ts (n+1) (J1 ts n).1 (i,0)).2):(J1 ts (n+1)).2 (i,0)=I3 ts (n+1) (J1 ts n).1 (i,0):=by
 rw[J1];show a2F ts n (a1N (I3 ts (n+1) (J1 ts n).1) ts) (J1 ts n).2 (i,0)=_;unfold a2F;rw[d3G (by rw[a5C,hk gAt (by simp)];decide),d3G (by rw[a5C,hk a85 (by simp)];decide)];unfold a1N;exact c4w hs _
theorem IsT.no {t:Tok} {k:Int} {w:List UInt8} (h:IsT t k w) {l:List ByteArray} (hl:(l.all λs=>!((k == 3) && (w == s.data.toList)))=true):∀s∈l,Z5 t s=false:=λs hs=>by
 rw[h.g];have:=d4f.1 hl s hs;revert this;cases ((k == 3) && (w == s.data.toList)) <;> intro h <;> first|rfl|cases h
theorem d0h {ts:List Tok} {s:ByteArray} {i:Nat} (h:Z5 (r9 ts i) s=true):l6 ts s (i,0)=(i+1,0):=by unfold l6;rw[d3G (λh=>h rfl),d3I h]
theorem c4x {t:Tok} (h:IsT t 4 []):b2z t=true:=c7j h rfl rfl
section
theorem c4y (w:List UInt8):strOfNums (G3 w)=⟨w.toArray⟩:=by
 refine d6x (d57 ?_);rw[strOfNums_data];unfold G3;rw[d5I]
 conv=>rhs;rw[show (⟨w.toArray⟩:ByteArray).data.toList=w from rfl,<-List.map_id w]
 exact d5s λc _=>by simp
section
variable {o q:List Tok} {lb ls m:Nat} {e:Tok}
end
end
def b0R (l:List UInt8):List UInt8:=40::10::(l++[10,41])
theorem c4z (l:List UInt8):G3 (b0R l)=c01 (G3 l):=by
 unfold G3 b0R c01 a7e;simp only[d4a,d45,d47];rfl
theorem c40:strOfNums [41]=⟨#[41]⟩:=c4y [41]
theorem d0i:strOfNums [40]=⟨#[40]⟩:=c4y [40]
theorem a6l {ts:List Tok} {cs:List a0v} (h:ts.map Tok.core=cs) {i:Nat} {c:a0v} (hc:cs[i]?=some c):(r9 ts i).core=c:=by
 have:=c4u (i:=i) h;rw[hc] at this;unfold r9;cases ht:ts[i]? with
 | none=>rw[ht] at this;cases this
 | some t=>rw[ht] at this;exact Option.some.inj this
theorem b52 {t u:Tok} (h:t.core=u.core) (s:ByteArray):Z5 t s=Z5 u s:=by
 have h1:t.kind=u.kind:=congrArg (λc:a0v=>c.1) h;have h2:t.text=u.text:=congrArg (λc:a0v=>c.2.1) h;unfold Z5;rw[h1,h2]
theorem d2o {cs:List a0v} {ts us:List Tok} (hE:y5 ts) (ht:ts.map Tok.core=cs++[(4,⟨#[]⟩,0)]) (hu:us.map Tok.core=(3,strOfNums [40],0)::(cs++[(3,strOfNums [41],0),(4,⟨#[]⟩,0)])):Sh ts us:=by
 have hl:ts.length=cs.length+1:=by
  have:=congrArg List.length ht
  simpa using this
 have hl2:us.length=cs.length+3:=by
  have:=congrArg List.length hu
  simpa using this
 have key:∀i,i<ts.length->(r9 us (i+1)).core=(r9 ts i).core\/((r9 us (i+1)).core=(3,⟨#[41]⟩,0)/\(r9 ts i).kind=4):=λi hi=>by
  rcases d4F i cs.length with h|h
  ·left
   have e:∃c,cs[i]?=some c:=⟨_,d3H h⟩;obtain⟨c,hc⟩:=e;rw[a6l ht (i:=i) (c:=c) (by rw[d4b h,hc]),a6l hu (i:=i+1) (c:=c) (by rw[d4T,d4b h,hc])]
  ·right
   have e:i=cs.length:=by omega
   subst e;refine⟨a6l hu (i:=cs.length+1) (by rw[d4T,d3V (d3Q _),d4V,c40];rfl),?_⟩;have:=a6l ht (i:=cs.length) (c:=(4,⟨#[]⟩,0)) (by rw[d3V (d3Q _),d4V];rfl);exact congrArg (λc:a0v=>c.1) this
 have ks:∀i,i<ts.length->∀k:Int,k≠3->k≠4->((r9 us (i+1)).kind=k↔(r9 ts i).kind=k):=λi hi k h3 h4=>by
  rcases key i hi with h|⟨h,h'⟩
  ·rw[show (r9 us (i+1)).kind=(r9 ts i).kind from congrArg (λc:a0v=>c.1) h]
  ·rw[show (r9 us (i+1)).kind=3 from congrArg (λc:a0v=>c.1) h,h'];exact⟨λh=>absurd h.symm h3,λh=>absurd h.symm h4⟩
 refine⟨hE,λi hi=>ks i hi 1 (by decide) (by decide),λi hi=>ks i hi 2 (by decide) (by decide),λi hi hk=>?_,λi hi hk=>?_,λi hi s hs=>?_,λi hi s hs=>?_,by omega⟩
 ·rcases key i hi with h|⟨h,h'⟩
  ·exact congrArg (λc:a0v=>c.2.1) h
  ·rw[h'] at hk;exact absurd hk (by decide)
 ·rcases key i hi with h|⟨h,h'⟩
  ·exact congrArg (λc:a0v=>c.2.2) h
  ·rw[h'] at hk;exact absurd hk (by decide)
 ·rcases key i hi with h|⟨h,h'⟩
  ·exact b52 h s
  ·have e1:Z5 (r9 ts i) s=false:=by unfold Z5;rw[h'];rfl
   have e2:IsT (r9 us (i+1)) 3 [41]:=⟨congrArg (λc:a0v=>c.1) h,by rw[show (r9 us (i+1)).text=⟨#[41]⟩ from congrArg (λc:a0v=>c.2.1) h]⟩;rw[e1,e2.g];rw[d6e]
   right
   rw[d4x] at hs ⊢;exact λh=>hs h.symm
 ·rcases key i hi with h|⟨h,h'⟩
  ·rw[b52 h s];exact hs
  ·unfold Z5 at hs;rw[h'] at hs;cases hs
theorem c7m (l:List Int) (h:(n8 l 0 false []).2.2=0):∀a,a<(n8 l 0 false []).1.length->(r9 (n8 l 0 false []).1 a).kind=4->a+1=(n8 l 0 false []).1.length:=by
 obtain⟨pre,h1,h2,h3⟩:=b3f l l.length 0 false [] l.length (by omega) (λt ht=>by cases ht) (by simp) h;rw[h1];intro a ha hk;rw[d3K,d5f] at ha ⊢
 by_cases hp:a<pre.length
 ·exfalso;unfold r9 at hk;rw[d4b hp,d3H hp] at hk;exact(h2 _ (d55 hp)).1 hk
 ·omega
theorem d0j (l:List UInt8) (h:(pxW l).2.2.2=0):((pxW (b0R l)).2.2.2=6/\200<l.length)\/((pxW (b0R l)).2.2.2=0/\(pxW (b0R l)).1=(pxW l).1):=by
 have h0:(n8 (G3 l) 0 false []).2.2=0:=by
  by_cases h0:(n8 (G3 l) 0 false []).2.2=0
  ·exact h0
  ·exfalso;unfold pxW at h;dsimp only at h;rw[d3I h0] at h;exact h0 h
 obtain⟨hE,hNm,hpos,hle⟩:=a5e (G3 l) h0;have hk4:=c7m (G3 l) h0;obtain⟨cs,ts,us,e1,e2,e3,e4⟩:=c4v (b40 l) h0;have hln:(G3 l).length=l.length:=by unfold G3;rw[d4g]
 unfold pxW at h ⊢;rw[c4z,e2];rw[e1] at h hE hNm hpos hle hk4 ⊢;dsimp only at h hE hNm hpos hle hk4 ⊢;rw[d3G (show ¬((0:Int)≠0) from λh=>h rfl)] at h ⊢;rw[d3G (show ¬((0:Int)≠0) from λh=>h rfl)]
 have hl:ts.length=cs.length+1:=by
  have:=congrArg List.length e3
  simpa using this
 have hS:=d2o hE e3 e4;have hP:=(d2l hS 199 200).1.sm 0 hpos;have hF:=((a1f hE 200).1 (0,0) hpos).hi;generalize (J1 ts 200).1 (0,0)=E at *
 by_cases c0:E.2.2=0
 ·rw[d3G (λh=>h c0)] at h
  by_cases c4:(r9 ts E.2.1).kind=4
  ·rw[d3G (λh=>h c4)] at h
   by_cases c5:5000<E.1.2.length
   ·rw[d3I c5] at h;exact absurd (show (7:Int)=0 from h) (by decide)
   rw[d3G (show ¬(E.2.2≠0) from λh=>h c0),d3G (show ¬((r9 ts E.2.1).kind≠4) from λh=>h c4),d3G c5]
   have ha:E.2.1=cs.length:=by
    have:=hk4 E.2.1 hF c4;omega
   have t0:IsT (r9 us 0) 3 [40]:=by
    have:=a6l e4 (i:=0) (c:=(3,strOfNums [40],0)) rfl;rw[d0i] at this;exact⟨congrArg (λc:a0v=>c.1) this,by rw[show (r9 us 0).text=⟨#[40]⟩ from congrArg (λc:a0v=>c.2.1) this]⟩
   have t1:IsT (r9 us (cs.length+1)) 3 [41]:=by
    have:=a6l e4 (i:=cs.length+1) (c:=(3,⟨#[41]⟩,0)) (by rw[d4T,d3V (d3Q _),d4V,c40];rfl);exact⟨congrArg (λc:a0v=>c.1) this,by rw[show (r9 us (cs.length+1)).text=⟨#[41]⟩ from congrArg (λc:a0v=>c.2.1) this]⟩
   have t2:IsT (r9 us (cs.length+2)) 4 []:=by
    have:=a6l e4 (i:=cs.length+2) (c:=(4,⟨#[]⟩,0)) (by rw[d4T,d3V (d6w _),show cs.length+1 - cs.length=1 by omega];rfl);exact⟨congrArg (λc:a0v=>c.1) this,by rw[show (r9 us (cs.length+2)).text=⟨#[]⟩ from congrArg (λc:a0v=>c.2.1) this]⟩
   have top:∀q:PE,a2R us q->(I3 us 200 (J1 us 199).1 (0,0)).2=q->(J1 us 200).1 (0,0)=I3 us 200 (J1 us 199).1 (0,0):=λq hs hq=>by
    have h1:=d0g (n:=199) (t0.no rfl) (by rw[hq];exact hs);have h2:=d2n (n:=199) (t0.no rfl) (by rw[h1,hq];exact hs);exact h2.trans h1
   have hat:I3 us 200 (J1 us 199).1 (0,0)=U3 us 200 (J1 us 199).1 (r9 us 0).at_ (1,0):=by
    unfold I3;rw[d3G (show ¬(((0:Nat),(0:Int)).2≠0) from λh=>h rfl),d3G (by show ¬(r9 us 0).kind=1;rw[t0.1];decide),d3G (by show ¬(r9 us 0).kind=2;rw[t0.1];decide),d3G (by rw[a5C,t0.g];decide),d3G (by rw[a5C,t0.g];decide),d3I (by rw[a5C,t0.g];rfl)]
   have hround:∀E':PL×PE,(J1 us 199).1 (1,0)=E'->B1 us a2a E'.2=false->U3 us 200 (J1 us 199).1 (r9 us 0).at_ (1,0)=(E'.1,l6 us a0j E'.2):=λE' he hc=>by
    unfold U3;rw[he,hc,d3G (show ¬(false=true) by decide)]
   obtain⟨E',hE'⟩:∃E',(J1 us 199).1 (1,0)=E':=⟨_,rfl⟩;rw[show (0:Nat)+1=1 from rfl,hE'] at hP
   rcases hP.1 c0 with e|⟨e,e5⟩
   ·right
    have e:E'.2=(cs.length+1,0):=by rw[e,ha]
    have hr:=hround E' hE' (by rw[e,a5C,t1.g];rfl);have hw:l6 us a0j E'.2=(cs.length+2,0):=by rw[e];exact d0h (by rw[t1.g];rfl)
    have hq:(I3 us 200 (J1 us 199).1 (0,0)).2=(cs.length+2,0):=by rw[hat,hr];exact hw
    rw[top _ (.inr (c4x t2)) hq,hat,hr,hw];have hv:vp E.1=vp E'.1:=hP.2 c0 (by rw[e]);have hv1:E.1.1=E'.1.1:=congrArg (λz=>z.1) hv;have hv2:E.1.2.length=E'.1.2.length:=congrArg (λz=>z.2) hv;rw[d3G (show ¬((0:Int)≠0) from λh=>h rfl),d3G (λh=>h t2.1),d3G (by rw[<-hv2];exact c5)];exact⟨rfl,hv1.symm⟩
   ·left
    have hr:=hround E' hE' (a0u (I5 e));have hw:l6 us a0j E'.2=E'.2:=b34 (I5 e);have hq:(I3 us 200 (J1 us 199).1 (0,0)).2=E'.2:=by rw[hat,hr];exact hw
    rw[top _ (.inl (I5 e)) hq,hat,hr,hw];rw[d3I (I5 e)];exact⟨e,by omega⟩
  ·rw[d3I c4] at h;exact absurd (show (5:Int)=0 from h) (by decide)
 ·rw[d3I c0] at h;exact absurd h c0
def CdM (c:Int):Prop:=0<=c/\c<=7
theorem cdm (c:Int) (h:0<=c/\c<=7):CdM c:=h
theorem d0k (l:List Int):CdM (a2q l).2:=by
 unfold a2q
 split
 ·exact cdm 4 (by decide)
 ·split
  ·exact cdm 7 (by decide)
  ·exact cdm 0 (by decide)
theorem d0l (s:ByteArray) (a:Int):CdM (L8 s a).2:=by
 unfold L8
 split
 ·exact d0k _
 ·repeat' split
  all_goals first|exact cdm 0 (by decide)|exact cdm 4 (by decide)|exact cdm 7 (by decide)
theorem b8S (l:List Int):∀(m a:Nat) (rem:Bool) (out:List Tok),l.length - a<=m->CdM (n8 l a rem out).2.2
 | m,a,rem,out,hm=>by
  have z:∀c:Int,0<=c->c<=7->CdM c:=λc h h2=>⟨h,h2⟩
  rw[a09];unfold body
  by_cases ha:a<l.length
  ·rw[d3I ha]
   have go:∀(a':Nat) (rem:Bool) (out':List Tok),a<a'->CdM (n8 l a' rem out').2.2:=λa' rem' out' h1=>by
    match m,hm with
    | 0,hm=>omega
    | m+1,hm=>exact b8S l m a' rem' out' (by omega)
   by_cases h0:nx l a=0
   ·rw[d3I h0];exact z 3 (by decide) (by decide)
   rw[d3G h0]
   by_cases h1:rem=true
   ·rw[d3I h1];exact go _ _ _ (by omega)
   rw[d3G h1]
   by_cases h2:J9 (gb l a)=true
   ·rw[d3I h2];exact go _ _ _ (by omega)
   rw[d3G h2]
   by_cases h3:gb l a=35
   ·rw[d3I h3];exact go _ _ _ (by omega)
   rw[d3G h3]
   by_cases h4:H2 (gb l a)=true
   ·rw[d3I h4]
    by_cases h5:(L8 (strOfNums (G9 l a)) a).2=0
    ·rw[d3I h5];have:=a5d ha h4;exact go _ _ _ (by omega)
    ·rw[d3G h5];exact d0l _ _
   rw[d3G h4]
   by_cases h6:C4 (l.drop a)=0
   ·rw[d3I h6];exact z 4 (by decide) (by decide)
   rw[d3G h6];exact go _ _ _ (by omega)
  ·rw[d3G ha];exact z 0 (by decide) (by decide)
section
def I7 (c:Int):Prop:=c=0\/c=5\/c=6
def CdR (rd:PE->Ty×PE):Prop:=∀p:PE,I7 p.2->I7 (rd p).2.2
theorem H4 {ts:List Tok} {s:ByteArray} {p:PE} (h:I7 p.2):I7 (l6 ts s p).2:=by
 unfold l6
 split
 ·exact h
 ·split
  ·exact .inl rfl
  ·exact .inr (.inl rfl)
theorem a2S {p:PE} (c:Int) (hc:I7 c) (h:I7 p.2):I7 (F6 c p).2:=by
 unfold F6
 split
 ·exact h
 ·exact hc
theorem b53 {rd:PE->Ty×PE} {ts:List Tok} (hr:CdR rd) {p:PE} (h:I7 p.2):I7 (G6 rd ts p).2.2:=by
 unfold G6
 split
 ·exact a2S 5 (.inr (.inl rfl)) h
 ·exact hr _ (H4 h)
theorem b20 {rd:PE->Ty×PE} {ts:List Tok} (hr:CdR rd):∀(k:Nat) (p:PE) (l:List (ByteArray×Ty)),I7 p.2->I7 (J8 rd ts k p l).2.2
 | 0,p,l,h=>h
 | k+1,p,l,h=>by
  rw[J8]
  split
  ·exact b20 hr k _ _ (b53 hr (.inl rfl))
  ·exact h
theorem c7n {rd:PE->Ty×PE} {ts:List Tok} (hr:CdR rd) {p:PE} (h:I7 p.2):I7 (a05 rd ts p).2.2:=by
 unfold a05
 split
 ·exact b20 hr _ _ _ (b53 hr h)
 ·exact h
theorem c41 {rd:PE->Ty×PE} {ts:List Tok} (hr:CdR rd) {p:PE} (h:I7 p.2):I7 (a25 rd ts p).2.2:=by
 unfold a25 tlW
 split
 ·exact H4 (.inl rfl)
 ·exact c7n hr h
theorem c7o {rd:PE->Ty×PE} {ts:List Tok} (hr:CdR rd) {p:PE} (h:I7 p.2):I7 (T6 rd ts p).2.2:=by
 unfold T6
 repeat' split
 ·exact .inl rfl
 ·exact .inl rfl
 ·exact .inl rfl
 ·exact H4 (hr _ (.inl rfl))
 ·exact H4 (c41 hr (.inl rfl))
 ·exact H4 (c41 hr (.inl rfl))
 ·exact a2S 5 (.inr (.inl rfl)) h
theorem b0S (ts:List Tok):∀n:Nat,CdR (A8 ts n)
 | 0,p,h=>by rw[A8];exact a2S 6 (.inr (.inr rfl)) h
 | n+1,p,h=>by
  rw[A8]
  split
  ·exact h
  ·split
   ·exact b0S ts n _ (.inl rfl)
   ·exact c7o (b0S ts n) h
def CdP (ex:PF):Prop:=∀p:PE,I7 p.2->I7 (ex p).2.2
theorem a1h:I7 0:=.inl rfl
theorem a0r {ts:List Tok} {p:PE} (h:I7 p.2):I7 (j7 ts p).2.2:=by
 unfold j7
 split
 ·exact a1h
 ·exact a2S 5 (.inr (.inl rfl)) h
theorem b8T {ts:List Tok} {n:Nat} {p:PE} (h:I7 p.2):I7 (H3 ts n p).2.2:=by
 unfold H3
 split
 ·show I7 (T8 ts n p.1).2.2.1;unfold T8
  split
  ·exact b0S ts n (p.1,0) a1h
  ·exact a1h
 ·exact h
theorem d0m {ts:List Tok} {s:ByteArray} {p:PE} (h:I7 p.2):I7 (skP ts s p).2:=by
 unfold skP
 split
 ·exact a1h
 ·exact h
theorem b54 {ts:List Tok} {n:Nat} {p:PE} (h:I7 p.2):I7 (A6 ts n p).2.2:=by
 unfold A6
 split
 ·exact H4 (b8T (H4 (a0r (d0m h))))
 ·exact a0r h
theorem b21 {ts:List Tok} {n:Nat}:∀(k:Nat) (s:List Pm×PE),I7 s.2.2->I7 (E4 ts n k s).2.2
 | 0,s,h=>h
 | k+1,s,h=>by
  rw[E4]
  split
  ·exact b21 k _ (b54 h)
  ·exact h
section
variable {ts:List Tok} {ex:PF} (hx:CdP ex)
include hx
theorem a8z {n:Nat} {pl:Int} {r:Bool} {p:PE} (h:I7 p.2):I7 (G4 ts n ex pl r p).2.2:=by
 unfold G4;refine hx _ (H4 (b21 _ _ (b54 ?_)))
 split
 ·exact a0r h
 ·exact h
theorem b0T:∀(k:Nat) (s:List Fd×PE),I7 s.2.2->I7 (C2 ts ex k s).2.2
 | 0,s,h=>h
 | k+1,s,h=>by
  rw[C2]
  split
  ·exact b0T k _ (hx _ (H4 (a0r a1h)))
  ·exact h
theorem b6Z {pl:Int} {w:ByteArray} {p:PE} (h:I7 p.2):I7 (T9 ts ex pl w p).2.2:=by
 have hF:I7 (a6e ts ex pl w p).2.2:=b0T hx _ _ (hx _ (H4 h));refine H4 ?_;unfold H9
 split
 ·exact hx _ a1h
 ·exact hF
theorem c42 {p:PE} (h:I7 p.2):I7 (U0 ts ex p).2.2:=by
 unfold U0
 split
 ·exact hx _ (H4 (a0r a1h))
 ·exact hx _ (H4 (a0r (a0r h)))
theorem c43:∀(k:Nat) (f:Bool) (s:List PL×PE),I7 s.2.2->I7 (chL ts ex k f s).2.2
 | 0,f,s,h=>h
 | k+1,f,s,h=>by
  have hq:I7 (chQ ts f s.2).2:=by
   unfold chQ
   split
   ·exact h
   ·exact H4 h
  rw[chL]
  split
  ·split
   ·exact c42 hx hq
   ·exact c43 k false _ (c42 hx hq)
  ·exact h
theorem c44 {n:Nat} {p:PE} (h:I7 p.2):I7 (I3 ts n ex p).2.2:=by
 unfold I3
 split
 ·exact h
 split
 ·exact a1h
 split
 ·exact a1h
 split
 ·exact a1h
 split
 ·exact a1h
 split
 ·unfold U3
  split
  ·exact H4 (b8T a1h)
  ·exact H4 (hx _ a1h)
 split
 ·unfold P5
  split
  ·exact a1h
  split
  ·exact H4 (hx _ (H4 (hx _ a1h)))
  ·exact b6Z hx (a0r a1h)
 split
 ·exact H4 (c43 hx _ _ _ (H4 (hx _ a1h)))
 ·exact a2S 5 (.inr (.inl rfl)) h
theorem c45 {n:Nat} {sm:PF} (hs:CdP sm) {p:PE} (h:I7 p.2):I7 (a1e ts n ex sm p).2.2:=by
 unfold a1e
 split
 ·exact h
 split
 ·exact a8z hx a1h
 split
 ·exact a8z hx a1h
 split
 ·exact hx _ (H4 (hx _ (H4 (a0r a1h))))
 split
 ·exact hx _ (H4 (hx _ (H4 (hx _ a1h))))
 ·unfold a86
  split
  ·exact hs _ a1h
  split
  ·exact hs _ a1h
  ·exact hs _ h
theorem a8V {sg:List ByteArray} {a:Int}:∀(k:Nat) (s:PL×PE),I7 s.2.2->I7 (a0g sg ex ts a k s).2.2
 | 0,s,h=>h
 | k+1,s,h=>by
  rw[a0g]
  split
  ·exact h
  ·exact a8V k _ (hx _ a1h)
theorem a7g {a:Int}:∀(k:Nat) (s:PL×PE),I7 s.2.2->I7 (a04 ex ts a k s).2.2
 | 0,s,h=>h
 | k+1,s,h=>by
  rw[a04]
  split
  ·exact a7g k _ (hx _ h)
  ·exact h
end
theorem b55 {ts:List Tok} {a:Int}:∀(k:Nat) (s:PL×PE),I7 s.2.2->I7 (J5 ts a k s).2.2
 | 0,s,h=>h
 | k+1,s,h=>by
  rw[J5]
  split
  ·exact h
  ·exact b55 k _ (a0r a1h)
theorem c7V (ts:List Tok):∀n,CdP (J1 ts n).1/\CdP (J1 ts n).2
 | 0=>⟨λp h=>a2S 6 (.inr (.inr rfl)) h,λp h=>a2S 6 (.inr (.inr rfl)) h⟩
 | n+1=>by
  obtain⟨h1,h2⟩:=c7V ts n
  have hP:CdP (a1T ts n (J1 ts n).1 (J1 ts n).2):=λp h=>by
   have key:∀op:Int,I7 (a4O ts n op (J1 ts n).2 p).2.2:=λop=>by
    unfold a4O
    split
    ·show I7 (M5 n _).2;unfold M5
     split
     ·exact a2S 6 (.inr (.inr rfl)) (a0r a1h)
     ·exact a0r a1h
    ·exact h2 _ (a0r a1h)
   unfold a1T a2F
   split
   ·exact key _
   split
   ·exact key _
   ·exact b55 _ _ (c44 h1 h)
  exact⟨λp h=>c45 h1 (λq hq=>a8V (λq hq=>a8V (λq hq=>a7g hP _ _ (hP _ hq)) _ _ (a7g hP _ _ (hP _ hq))) _ _ (a8V (λq hq=>a7g hP _ _ (hP _ hq)) _ _ (a7g hP _ _ (hP _ hq)))) h,hP⟩
theorem d2q (l:List UInt8) (h:0<=(n8 (G3 l) 0 false []).2.2/\(n8 (G3 l) 0 false []).2.2<=7):0<=(pxW l).2.2.2/\(pxW l).2.2.2<=7:=by
 have hc:=(c7V (n8 (G3 l) 0 false []).1 200).1 (0,0) a1h;unfold pxW;dsimp only
 split
 ·exact h
 split
 ·unfold I7 at hc;show 0<=((J1 (n8 (G3 l) 0 false []).1 200).1 (0,0)).2.2/\((J1 (n8 (G3 l) 0 false []).1 200).1 (0,0)).2.2<=7;omega
 split
 ·exact⟨by show (0:Int)<=5;decide,by show (5:Int)<=7;decide⟩
 split
 ·exact⟨by show (0:Int)<=7;decide,by show (7:Int)<=7;decide⟩
 ·exact⟨by show (0:Int)<=0;decide,by show (0:Int)<=7;decide⟩
end
theorem c02 {α:Type} (f:α->List D) (Q:α->Nat->Prop) (hQ:∀x m n,m<=n->Q x m->Q x n) (hpos:∀x m,Q x m->1<=m) {tl te:Nat} (hu:Tryz.prog.underlying tl=some (.slice te)) (h:∀ds m,Deep Tryz.prog te ds m->∃x,ds=f x/\Q x m) {r:R} {m:Nat} (hd:a58 Tryz.prog tl r m) :
  ∃l:List α,r=.one (.sl (Tryz.prog.cellsOf te) (l.map f))/\l.length<=m/\∀x∈l,Q x m:=by
 have hd:∃x,r=.one x/\Deep Tryz.prog tl [x] m:=by
  unfold a58 at hd;rw[hu] at hd;cases r with
  | one x=>exact⟨x,rfl,hd⟩
  | ag xs=>exact hd.elim
 obtain⟨x,rfl,hx⟩:=hd;obtain⟨rows,ks,e,hl,hb,rfl,hr⟩:=hx.unsl hu;injection e with e _;subst e
 have key:∀(rows:List (List D)) (ks:List Nat),ks.length=rows.length->(∀(i:Nat) (r:List D) (m:Nat),rows[i]?=some r->ks[i]?=some m->Deep Tryz.prog te r m)->∃l:List α,rows=l.map f/\l.length<=ks.sum/\∀x∈l,Q x ks.sum:=by
  intro rows
  induction rows with
  | nil=>intro ks hl _;exact⟨[],rfl,d4o _,by simp⟩
  | cons r rows ih =>
   intro ks hl hr
   match ks,hl with
   | k::ks,hl =>
    obtain⟨t,e1,e2⟩:=h r k (hr 0 r k rfl rfl);obtain⟨l,f1,f2,f3⟩:=ih ks (by simpa using hl) λi r' m' hi hm=>hr (i+1) r' m' (by simpa using hi) (by simpa using hm)
    have hp:=hpos t k e2;refine⟨t::l,by rw[e1,f1];rfl,by rw[d3O,d5A];omega,λx hx=>?_⟩;rw[d5A]
    rcases d3R.1 hx with rfl|hx
    ·exact hQ _ _ _ (by omega) e2
    ·exact hQ _ _ _ (by omega) (f3 x hx)
 obtain⟨l,h1,h2,h3⟩:=key rows ks hl hr;rw[h1];exact⟨l,rfl,by omega,λx hx=>hQ _ _ _ (by omega) (h3 x hx)⟩
theorem c03:Tryz.prog.cellsOf 5=1:=by kernel_rfl
theorem b56 {r:R} {m:Nat} (h:a58 Tryz.prog 22 r m):∃l:List UInt8,r=.one (.sl 1 (rU l))/\l.length<=m:=by
 obtain⟨l,h1,h2,_⟩:=c02 (λc:UInt8=>[D.sc (.int .u8 (c.toNat:Int))]) (λ_ m=>1<=m) (λ_ m n hmn h=>by omega) (λ_ m h=>h) Tryz.underlying22 (λds m hd=>by
  obtain⟨n,e1,e2,e3⟩:=hd.unint Tryz.underlying5
  have hb:0<=n/\n<=255:=by
   simp[Lit.wf] at e2
   first|exact e2|omega|(simp[IntKind.wrap,IntKind.bits] at e2;omega)
  refine⟨UInt8.ofNat n.toNat,?_,by omega⟩;have:((UInt8.ofNat n.toNat).toNat:Int)=n:=by rw[UInt8.toNat_ofNat'];omega
  rw[this]
  exact e1) h
 rw[c03] at h1;exact⟨l,h1,h2⟩
theorem c46 {G H:Ty->Bool} (hG:∀a,G a=true->H a=true) {arm:Bool} {op:Int} {nm ar:ByteArray} {n:Int} {h:Bool} {a:Ty} {len:Nat} (h1:ndB G arm op nm ar n h a len=true):ndB H arm op nm ar n h a len=true:=by
 unfold ndB at h1 ⊢;cases hs:shM op with
 | none=>rw[hs] at h1;cases h1
 | some q =>
  obtain⟨x,y,c,v⟩:=q;rw[hs] at h1;dsimp only at h1 ⊢;simp only[d3N] at h1 ⊢;obtain⟨ha,hnb,hnt,hny,hnm,hkk⟩:=h1;refine⟨ha,hnb,?_,hny,hnm,hkk⟩;cases h
  ·exact hnt
  ·rw[d3I rfl,d3N] at hnt ⊢;exact⟨hnt.1,hG a hnt.2⟩
theorem c47 {G H:Ty->Bool} (hG:∀a,G a=true->H a=true):∀(t:Tm) (arm:Bool),rtM G arm t=true->rtM H arm t=true:=by
 intro t
 induction t using Tm.ind with
 | h op nm ar n b a ks ih =>
  intro arm h;rw[rtM,d3N] at h ⊢;refine⟨c46 hG h.1,?_⟩
  have key:∀(l:List Tm),(∀x∈l,x∈ks)->∀cs f,rtK G cs f l=true->rtK H cs f l=true:=λl=>by
   induction l with
   | nil=>intro _ cs f _;rw[rtK]
   | cons x l ihl =>
    intro hl cs f h;rw[rtK,d3N,d3N] at h ⊢;exact⟨ih x (hl x (d3L ..)) _ h.1,h.2.1,ihl (λy hy=>hl y (d3M _ hy)) _ _ h.2.2⟩
  exact key ks (λ_ h=>h) _ _ h.2
theorem b0U:∀(ts:List Ty) (acc:List Int),(∀x∈ts,a1H x=false)->H7 ts acc=acc
 | [],_,_=>rfl
 | t::ts,acc,h=>by
  rw[H7,d3G (by rw[h t (d3L ..)];exact λh=>by cases h.1)];exact b0U ts acc λx hx=>h x (d3M _ hx)
theorem d2r (a:Ty) (h:c0w a=true):GA a=true:=by
 unfold c0w at h;rw[d3N,d4f] at h;obtain⟨h1,h2⟩:=h;have hs:=(a1K h1).1
 have hv:a4i a=[]:=by
  unfold a4i;refine b0U _ _ λx hx=>?_
  cases hb:a1H x
  ·rfl
  ·have:=h2 x (a8w _ a 116 (d3Q _) hs x hx hb);rw[hb] at this;cases this
 unfold GA a2P N1;rw[h1,hv];rfl
theorem c48 {G:Ty->Bool}:∀(t:Tm) (arm:Bool),rtM G arm t=true->∀x∈m7 t,∃arm',rtM G arm' x=true:=by
 intro t
 induction t using Tm.ind with
 | h op nm ar n b a ks ih =>
  intro arm h x hx;rw[m7,P0] at hx
  rcases d3R.1 hx with rfl|hx
  ·exact⟨arm,h⟩
  ·obtain⟨k,hk,hx⟩:=d40.1 hx;rw[rtM,d3N] at h
   have key:∀(l:List Tm),∀cs f,rtK G cs f l=true->k∈l->∃arm',rtM G arm' k=true:=λl=>by
    induction l with
    | nil=>intro cs f _ hk;cases hk
    | cons y l ihl =>
     intro cs f h hk;rw[rtK,d3N,d3N] at h
     rcases d3R.1 hk with rfl|hk
     ·exact⟨_,h.1⟩
     ·exact ihl _ _ h.2.2 hk
   obtain⟨arm',h'⟩:=key ks _ _ h.2 hk;exact ih k hk arm' h' x hx
theorem c49 {a:Ty} (h:a0A a=true) (hN:a.parts.length<=1048576):Sm a:=by
 obtain⟨op,nm,n,ks⟩:=a;unfold a0A at h;simp only[d3N] at h;obtain⟨_,h2,_,h4⟩:=h;have hk:ks=[]:=by simpa using h4
 subst hk;have h2:nm.data.toList=[]:=by simpa using h2
 have hz:nm.size=0:=by rw[<-d54,<-d4K,h2];rfl
 refine⟨hN,λx hx=>?_⟩;have:x=.mk op nm n []:=by simpa [Ty.parts,F7] using hx
 subst this;show nm.size<=_;omega
theorem b8U {s:ByteArray} {b:Bool} (h:a1U s b=true):s.size<=1048576:=by
 cases b
 ·have h:(s.data.toList == [])=true:=h;have h:s.data.toList=[]:=by simpa using h
  have hz:s.size=0:=by rw[<-d54,<-d4K,h];rfl
  omega
 ·have:=b2e h;omega
theorem d2s {t:Tm} {arm:Bool} (h:rtM GA arm t=true) (hg:(anM t).parts.length<=1048576):SmT t:=by
 obtain⟨op,nm,ar,n,b,a,ks⟩:=t;rw[rtM,d3N] at h;have h1:=h.1;have hg:a.parts.length<=1048576:=hg;unfold ndB at h1;cases hs:shM op with
 | none=>rw[hs] at h1;cases h1
 | some q =>
  obtain⟨x,y,c,v⟩:=q;rw[hs] at h1;dsimp only at h1;simp only[d3N] at h1;obtain⟨ha,hnb,hnt,hny,hnm,hkk⟩:=h1;refine⟨?_,?_,b8U hny⟩
  ·cases b
   ·rw[d3G (by decide),d3N] at hnt;exact c49 hnt.2 hg
   ·rw[d3I rfl,d3N] at hnt;have hG:=hnt.2;unfold GA at hG;rw[d3N] at hG;exact c7E (a1K hG.1).1 hg
  ·by_cases h40:op=40
   ·rw[d3I h40,d6j] at hnm;obtain⟨z,hz,he⟩:=hnm;have e:nm=z:=d6x (d57 (by simpa using Eq.symm (by simpa using he)));subst e;revert hz;unfold a5s;simp only[d3R,d5h,d6b]
    rintro (rfl|rfl|rfl|rfl|rfl|rfl|rfl) <;> decide
   ·rw[d3G h40] at hnm;exact b8U hnm
theorem d2t (l:List UInt8) (hl:l.length<=65536) (h:(pxW l).2.2.2=0):(m7 (pxW l).1).length<=5000/\(∀x∈m7 (pxW l).1,SmT x)/\GdT (pxW l).1/\rtM GA false (pxW l).1=true/\(∀p∈(pxW l).2.1,0<=p/\p<(l.length:Int))/\(pxW l).2.1.length=(m7 (pxW l).1).length:=by
 obtain⟨h1,h2,h3⟩:=c6W l hl h;have h1:=c47 d2r _ _ h1
 have hg:GdT (pxW l).1/\(pxW l).2.1.length<=5000:=by
  have hln:(G3 l).length=l.length:=by unfold G3;rw[d4g]
  have hok:=a5e (G3 l);clear h1 h2 h3;unfold pxW at h ⊢;generalize n8 (G3 l) 0 false []=r at *;dsimp only at h ⊢
  by_cases h0:r.2.2=0
  ·rw[d3G (λh=>h h0)] at h ⊢;obtain⟨hE,hNm,hpos,hle⟩:=hok h0;have hgd:=(b8D hE (by omega) 200).1 (0,0) hpos;generalize (J1 r.1 200).1 (0,0)=E at *
   by_cases hE0:E.2.2=0
   ·rw[d3G (λh=>h hE0)] at h ⊢
    by_cases hk4:(r9 r.1 E.2.1).kind=4
    ·rw[d3G (λh=>h hk4)] at h ⊢
     by_cases h5:5000<E.1.2.length
     ·rw[d3I h5] at h;exact absurd (show (7:Int)=0 from h) (by decide)
     ·rw[d3G h5];exact⟨(hgd hE0).2,Nat.not_lt.1 h5⟩
    ·rw[d3I hk4] at h;exact absurd (show (5:Int)=0 from h) (by decide)
   ·rw[d3I hE0] at h;exact absurd h hE0
  ·rw[d3I h0] at h;exact absurd h h0
 refine⟨by omega,λx hx=>?_,hg.1,h1,h2,h3⟩;obtain⟨arm,hr⟩:=c48 _ _ h1 x hx;exact d2s hr (hg.1 x hx)
theorem d0n:(pxW []).2.2.2≠0:=by decide +kernel
theorem c4A (l:List UInt8):rU (b0R l)=([[.sc (.int .u8 40)],[.sc (.int .u8 10)]]++rU l)++rU (btl ⟨#[10,41]⟩):=by
 unfold b0R rU btl;simp only[d4a,d45,d47];rfl
theorem c7p (l:List UInt8) (h5:3000<l.length):o8 3 [.one (.sl 1 (rU l))] [.one (.sc (.bool true))]:=by
 have k0:=b0K;have hln:=b2V l;generalize rU l=B at *;refine b3A 7 Tryz.func3 rfl (by kernel_rfl) (by kernel_rfl) (by kernel_rfl) λqa qb qc qd qe qg qh qi qj qk ql qm qo qp qq qt qu qv qw qx qy qz va vc vd ve vf vg vh vj vk vl vm vn vo vq vr vt vu vv vw vx vy hA H hH=>?_
 obtain⟨e1,e2,e3,e4,e5,e6,e7,e8,e9⟩:=m6 hA;obtain⟨r1,r2,r3,r4⟩:=B3 hA;have q9:qi 3000 (va B)=true:=by rw[e7,r1,hln];exact d3S (by omega)
 try cbv;exact fr
theorem d0o (l:List UInt8) (h5:l.length<=3000) (h:(pxW l).2.2.2≠0):o8 3 [.one (.sl 1 (rU l))] [.one (.sc (.bool true))]:=by
 have k0:=b0K;have hln:=b2V l;have k1:=b8K l (by omega);have hc:=d2q l (b8S (G3 l) _ 0 false [] (d3Q _));generalize pxW l=w at *;obtain⟨t,ps,p,c⟩:=w;replace hc:0<=c/\c<=7:=hc;replace h:c≠0:=h;unfold PxN at k1;dsimp only at k1;obtain⟨d0,d1,d2,d3,d4,d5,d6,d7,d8,d9,hd⟩:=a3e t;rw[hd] at k1;generalize rZ ps=X at *;generalize rU l=B at *;refine b3A 7 Tryz.func3 rfl (by kernel_rfl) (by kernel_rfl) (by kernel_rfl) λqa qb qc qd qe qg qh qi qj qk ql qm qo qp qq qt qu qv qw qx qy qz va vc vd ve vf vg vh vj vk vl vm vn vo vq vr vt vu vv vw vx vy hA H hH=>?_
 obtain⟨e1,e2,e3,e4,e5,e6,e7,e8,e9⟩:=m6 hA;obtain⟨r1,r2,r3,r4⟩:=B3 hA;have q9:qi 3000 (va B)=false:=by rw[e7,r1,hln];exact d3P (by omega)
 have q2:qk (qa .i64 c) 0=false:=by rw[e9,e1,IntWalk.i64_in _ (by omega)];exact d3T h
 try cbv;exact fr
theorem c7q (l:List UInt8) (h5:l.length<=3000) (h:(pxW l).2.2.2=0):o8 3 [.one (.sl 1 (rU l))] [.one (.sc (.bool true))]:=by
 have k0:=b0K;have hln:=b2V l;have k1:=b8K l (by omega);have k2:=b8K (b0R l) (by unfold b0R;simp;omega);have hbr:=d0j l h
 have hne:rU l≠[]:=λe=>by
  have:l.length=0:=by rw[<-hln,e];rfl
  rw[d4h this] at h;exact d0n h
 have hrows:=c4A l;obtain⟨hN,hS,hG,hR,hP,hL⟩:=d2t l (by omega) h;generalize pxW l=w at *;obtain⟨t,ps,p,c⟩:=w;obtain rfl:c=0:=h;dsimp only at hN hS hG hR hP hL hbr;have h1:=c3T t (by omega) hS hR;have h2:=c3Y t (by omega) hS false hR;have h3:=c69 t (by omega);have h4:=c4a t (by omega) hG;unfold PxN at k1 k2;dsimp only at k1 k2;generalize pxW (b0R l)=w2 at *;obtain⟨t2,ps2,p2,c2⟩:=w2;dsimp only at k2 hbr;obtain⟨m,hm⟩:∃m:Int,m=((m7 t).length:Int):=⟨_,rfl⟩;rw[<-hm] at h3;have hlX:((rZ ps).length:Int)=m:=by rw[b0h,hL,hm]
 have hmb:m<=5000:=by omega
 have hget:∀k:Nat,k<ps.length->∃c:Int,(rZ ps)[k]?=some [.sc (.int .i64 c)]/\0<=c/\c<(l.length:Int):=λk hk=>⟨ps[k],by unfold rZ;rw[d4p,d3H hk];rfl,(hP _ (d55 hk)).1,(hP _ (d55 hk)).2⟩
 have hmp:m=(ps.length:Int):=by rw[hm,hL]
 clear hP hR hS hG hL hN;obtain⟨d0,d1,d2,d3,d4,d5,d6,d7,d8,d9,hd⟩:=a3e t;obtain⟨b0,b1,b2,b3,b4,b5,b6,b7,b8,b9,hb⟩:=a3e t2
 have k3:c2=0->o8 9 [.ag [d0,d1,d2,d3,d4,d5,d6,d7,d8,d9],.ag [b0,b1,b2,b3,b4,b5,b6,b7,b8,b9]] [.one (.sc (.bool true))]:=λe=>by
  rcases hbr with⟨e2,_⟩|⟨_,e2⟩
  ·rw[e] at e2;exact absurd e2 (by decide)
  ·rw[<-hd,<-hb,e2];exact h4
 rw[hd] at k1 h1 h2 h3;rw[hb] at k2;replace hbr:(c2=6/\200<l.length)\/c2=0:=hbr.imp id λh=>h.1
 clear h4 hb hd;generalize rZ ps=X at *;generalize rZ ps2=X2 at *;generalize rU (b0R l)=B2 at *;generalize rU l=B at *;obtain⟨M,hMM⟩:∃M,M=[[.sc (.int .u8 40)],[.sc (.int .u8 10)]]++B:=⟨_,rfl⟩;rw[<-hMM] at hrows;obtain⟨inv,hv⟩:∃inv:Int->Prop,inv=λz=>∃k:Nat,z=(k:Int)/\k<=ps.length:=⟨_,rfl⟩
 have hi0:inv 0:=by rw[hv];exact⟨0,rfl,d4o _⟩
 refine b3A 7 Tryz.func3 rfl (by kernel_rfl) (by kernel_rfl) (by kernel_rfl) λqa qb qc qd qe qg qh qi qj qk ql qm qo qp qq qt qu qv qw qx qy qz va vc vd ve vf vg vh vj vk vl vm vn vo vq vr vt vu vv vw vx vy hA H hH=>?_
 obtain⟨e1,e2,e3,e4,e5,e6,e7,e8,e9⟩:=m6 hA;obtain⟨r1,r2,r3,r4⟩:=B3 hA;have q9:qi 3000 (va B)=false:=by rw[e7,r1,hln];exact d3P (by omega)
 have q1:qk (qa .i64 0) 0=true:=by rw[e9,e1];rfl
 have q2:qk (va X) m=true:=by rw[e9,r1,hlX];exact d4G _
 try cbv;refine gr ?_;try simp only[nc] at *
 refine n9 hA (γ:=Int) (λz=>[(7,vi .i64 z),(18,.jk),(20,.jk)]) (λx=>[]) inv (λz=>ps.length - z.toNat) 0 hi0 ?_ ?_
 ·cbv
 ·intro z hinv;cbv;refine gn ?_;try simp only[nc] at *
  rw[hv] at hinv;obtain⟨k,hz,hk⟩:=hinv;have hlt:qi z (va X)=decide (k<ps.length):=by rw[e7,r1,hlX,hmp,hz];exact d3X.2 (by omega)
  by_cases h9:k<ps.length
  ·rw[d3S h9] at hlt;obtain⟨v,hx,hv0,hv1⟩:=hget k h9;have g5:vc X z=some [.sc (.int .i64 v)]:=by rw[r2,hz,d3I (by omega),show ((k:Int)).toNat=k by omega,hx]
   have u1:qa .i64 (qb z 1)=((k+1:Nat):Int):=by rw[e1,e2,hz,IntWalk.i64_in _ (by omega)];omega
   have hm':ps.length - ((k+1:Nat):Int).toNat<ps.length - z.toNat:=by rw[hz];omega
   have hi:inv ((k+1:Nat):Int):=by rw[hv];exact⟨k+1,rfl,h9⟩
   have q3:qi v 0=false:=by rw[e7];exact d3P (by omega)
   have q4:qj (va B) v=false:=by rw[e8,r1,hln];exact d3P (by omega)
   generalize ((k+1:Nat):Int)=z1 at *;clear k1 k2 h1 h2 h3 hget hrows hMM;rw[hlt]
   try cbv;refine gr ?_;try simp only[nc] at *
   refine⟨z1,hi,hm',?_⟩;cbv
  ·rw[d3P h9] at hlt;rw[hlt]
   try cbv;refine gr ?_;try simp only[nc] at *
   rw[hH];refine c6Q (t:=⟨#[10,41]⟩) hMM hrows hne (by omega) (by decide) rfl rfl rfl rfl rfl rfl rfl rfl rfl rfl rfl rfl rfl rfl rfl rfl rfl rfl rfl rfl rfl ?_;clear hget hrows hMM k1 h1 h2 h3 k0
   rcases hbr with⟨rfl,hb⟩|rfl
   ·have q5:qk (qa .i64 6) 6=true:=by rw[e9,e1];rfl
    have q6:qi 200 (va B)=true:=by rw[e7,r1,hln];exact d3S (by omega)
    clear k3
    try cbv;exact fr
   ·have q5:qk (qa .i64 0) 6=false:=by rw[e9,e1];rfl
    have k3:=k3 rfl
    try cbv;exact fr
theorem d3u (l:List UInt8):o8 3 [.one (.sl 1 (rU l))] [.one (.sc (.bool true))]:=by
 by_cases h5:3000<l.length
 ·exact c7p l h5
 ·by_cases h:(pxW l).2.2.2=0
  ·exact c7q l (by omega) h
  ·exact d0o l (by omega) h
theorem PR_up {r0:R} {m0:Nat} (d0:a58 Tryz.prog 22 r0 m0):o8 3 [r0] [.one (.sc (.bool true))]:=by
 obtain⟨l,rfl,_⟩:=b56 d0;exact d3u l
end Go.Proofs.YtdjnoafijjepcaaGreat.Vm
end

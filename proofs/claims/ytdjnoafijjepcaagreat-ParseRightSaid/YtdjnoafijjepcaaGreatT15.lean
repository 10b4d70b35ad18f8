/- Part 15 of the proof. Conditions: none. -/
import Derived.Test.YtdjnoafijjepcaaGreatT4
import Derived.Test.YtdjnoafijjepcaaGreatT14
import Derived.Test.YtdjnoafijjepcaaGreatT0
set_option linter.all false
set_option linter.unusedVariables false
set_option linter.unusedSimpArgs false
section
namespace Go.Proofs.YtdjnoafijjepcaaGreat.Vm
open Go.RowKit
set_option maxRecDepth 100000
set_option maxHeartbeats 4000000
section
def c6f:List V->List V->Prop
 | [],[]=>True
 | x::l,y::m=>(x=y\/x=.em/\∃z,y=.d (.sl z []))/\c6f l m
 | _,_=>False
theorem b3z {I:Nat->Nat->Prop} {w:World} {g:Nat->Value}:∀ {cs ds:List V} {us:List Value},c6f cs ds->o7 I w g us cs->o7 I w g us ds
 | [],[],us,_,h=>h
 | x::l,y::m,us,hn,h=>by
  obtain⟨u,us,rfl,h1,h2⟩:=h.uncons;refine .cons ?_ (b3z hn.2 h2)
  rcases hn.1 with e|⟨rfl,z,rfl⟩
  ·rw[<-e];exact h1
  ·rw[h1.unem];exact .d (.nil _ _ _)
theorem y7.nils {f:Nat} {vs:List V} {os os':List O} {cs ds:List V} (h:y7 f vs os (λres os2=>res=[.ag cs]/\os2=os')) (hn:c6f cs ds):y7 f vs os (λres os2=>res=[.ag ds]/\os2=os') :=
 h.reread λres os2 ⟨e1,e2⟩=>⟨_,⟨rfl,e2⟩,λI w g us hv=>by
  rw[e1] at hv;obtain⟨u,us,rfl,h1,h2⟩:=hv.uncons;obtain⟨vs,rfl,h3⟩:=h1.unag
  exact .cons (Z6 (b3z hn h3)) h2⟩
theorem c2Y {a b c d e f g h:V} {x y z:Nat}:c6f [a,b,c,d,e,f,g,h,.em,.em,.em] [a,b,c,d,e,f,g,h,.d (.sl x []),.d (.sl y []),.d (.sl z [])] :=
 ⟨.inl rfl,.inl rfl,.inl rfl,.inl rfl,.inl rfl,.inl rfl,.inl rfl,.inl rfl,.inr ⟨rfl,_,rfl⟩,.inr ⟨rfl,_,rfl⟩,.inr ⟨rfl,_,rfl⟩,trivial⟩
abbrev cZ:List D:=[.sc (.int .u8 0),.sc (.string ⟨#[]⟩),.sc (.string ⟨#[]⟩),.sc (.int .i64 0),.sc (.bool false),.sc (.int .u8 0),.sc (.string ⟨#[]⟩),.sc (.int .i64 0),.sl 4 [],.sl 10 [],.sl 1 []]
abbrev OvN (op:Int) (nm ar:ByteArray) (n:Int) (h:Bool) (a:Int) (ks:List (List D)) (z:Nat->D):Prop:=E8 30 [.ag (b99 op nm ar n h),vi .i64 a,.d (.sl 11 ks)] [] (λres os=>res=[.ag (C0 (cE z))]/\os=[])
abbrev OvA (op:Int) (nm ar:ByteArray) (n:Int) (h:Bool) (y:Nat->D) (a:Int) (ks:List (List D)) (z:Nat->D):Prop:=E8 30 [.ag [vi .u8 op,vs nm,vs ar,vi .i64 n,vb h,.d (y 0),.d (y 1),.d (y 2),.d (y 3),.em],vi .i64 a,.d (.sl 11 ks)] [] (λres os=>res=[.ag (C0 (cE z))]/\os=[])
abbrev LfN (op:Int) (nm:ByteArray) (n a:Int) (z:Nat->D):Prop:=E8 53 [.ag (b99 op nm ⟨#[]⟩ n false),vi .i64 a] [] (λres os=>res=[.ag (C0 (cE z))]/\os=[])
abbrev Sk (s:ByteArray) (r:Bool) (T:List (List D)) (a b:ST):Prop:=F4 26 [vs s] T a [vb r] b
abbrev Wt (s:ByteArray) (T:List (List D)) (a b:ST):Prop:=F4 29 [vs s] T a [] b
abbrev Wo (w:ByteArray) (T:List (List D)) (a b:ST):Prop:=F4 28 [] T a [vs w] b
abbrev He (pl:Int) (T:List (List D)) (a:ST):Prop:=F4 25 [] T a [vi .i64 pl] a
abbrev Dp (r:Bool) (L:Int) (T:List (List D)) (a b:ST):Prop:=F4 24 [vi .i64 L] T a [vb r] b
abbrev Px (f:Nat) (L:Int) (x:Nat->D) (T:List (List D)) (a b:ST):Prop:=F4 f [vi .i64 L] T a [.ag (C0 (cE x))] b
section
variable {T:List (List D)} {L:Int}
theorem b8r {s0 s1:ST} (p0:Dp true L T s0 s1):F4 12 [vi .i64 L] T s0 [.ag (C0 cZ)] s1:=y7.nils (cs:=[vi .u8 0,vs ⟨#[]⟩,vs ⟨#[]⟩,vi .i64 0,vb false,vi .u8 0,vs ⟨#[]⟩,vi .i64 0,.em,.em,.em]) (wko Tryz.func12 rfl) c2Y
theorem c9m {s0 s1 s2:ST} {x:Nat->D} {pl:Int} (p0:Dp false L T s0 s0) (p1:He pl T s0) (p2:Sk ⟨#[102,117,110]⟩ true T s0 s1) (p3:F4 27 [vi .i64 L,vi .i64 pl,vb false] T s1 [.ag (C0 (cE x))] s2):F4 12 [vi .i64 L] T s0 [.ag (C0 (cE x))] s2:=wko Tryz.func12 rfl
theorem c9n {s0 s1 s2:ST} {x:Nat->D} {pl:Int} (p0:Dp false L T s0 s0) (p1:He pl T s0) (p2:Sk ⟨#[102,117,110]⟩ false T s0 s0) (p3:Sk ⟨#[114,101,99]⟩ true T s0 s1) (p4:F4 27 [vi .i64 L,vi .i64 pl,vb true] T s1 [.ag (C0 (cE x))] s2):F4 12 [vi .i64 L] T s0 [.ag (C0 (cE x))] s2:=wko Tryz.func12 rfl
theorem c9o {s0 s1 s2 s3 s4 s5 s6:ST} {x y z:Nat->D} {pl:Int} {w:ByteArray} (o0:OvN 38 w ⟨#[]⟩ 0 false pl [cE x,cE y] z) (hL1:0<=L) (hL2:L<=1048576) (p0:Dp false L T s0 s0) (p1:He pl T s0) (p2:Sk ⟨#[102,117,110]⟩ false T s0 s0) (p3:Sk ⟨#[114,101,99]⟩ false T s0 s0) (p4:Sk ⟨#[108,101,116]⟩ true T s0 s1) (p5:Wo w T s1 s2) (p6:Wt ⟨#[61]⟩ T s2 s3) (p7:Px 12 (L+1) x T s3 s4) (p8:Wt ⟨#[105,110]⟩ T s4 s5) (p9:Px 12 (L+1) y T s5 s6):F4 12 [vi .i64 L] T s0 [.ag (C0 (cE z))] s6:=wko Tryz.func12 rfl
theorem d1o {s0 s1 s2 s3 s4 s5 s6:ST} {x y u z:Nat->D} {pl:Int} (o0:OvN 39 ⟨#[]⟩ ⟨#[]⟩ 0 false pl [cE x,cE y,cE u] z) (hL1:0<=L) (hL2:L<=1048576) (p0:Dp false L T s0 s0) (p1:He pl T s0) (p2:Sk ⟨#[102,117,110]⟩ false T s0 s0) (p3:Sk ⟨#[114,101,99]⟩ false T s0 s0) (p4:Sk ⟨#[108,101,116]⟩ false T s0 s0) (p5:Sk ⟨#[105,102]⟩ true T s0 s1) (p6:Px 12 (L+1) x T s1 s2) (p7:Wt ⟨#[116,104,101,110]⟩ T s2 s3) (p8:Px 12 (L+1) y T s3 s4) (p9:Wt ⟨#[101,108,115,101]⟩ T s4 s5) (p10:Px 12 (L+1) u T s5 s6):F4 12 [vi .i64 L] T s0 [.ag (C0 (cE z))] s6:=wko Tryz.func12 rfl
theorem c9p {s0 s1:ST} {x:Nat->D} {pl:Int} (p0:Dp false L T s0 s0) (p1:He pl T s0) (p2:Sk ⟨#[102,117,110]⟩ false T s0 s0) (p3:Sk ⟨#[114,101,99]⟩ false T s0 s0) (p4:Sk ⟨#[108,101,116]⟩ false T s0 s0) (p5:Sk ⟨#[105,102]⟩ false T s0 s0) (p6:Px 31 L x T s0 s1) (p7:Sk ⟨#[60]⟩ false T s1 s1) (p8:Sk ⟨#[61,61]⟩ false T s1 s1):F4 12 [vi .i64 L] T s0 [.ag (C0 (cE x))] s1:=by
 obtain⟨_,_,_⟩:=s0;obtain⟨_,_,_⟩:=s1;refine so9 Tryz.func12 rfl ?_;intro qa qb _ _ _ _ _ qi _ _ _ _ _ _ _ _ _ _ _ _ _ qz;intros;rename_i hA;obtain⟨e1,e2,e3,e4,e5,e6,e7,e8,e9⟩:=m6 hA;have m0:qi 0 2=true:=el hA rfl;have m1:qi 1 2=true:=el hA rfl;have m2:qi 2 2=false:=el hA rfl;have n0:qz 0 2=some 0:=by rw[(a0X hA).2.2.1];rfl
 have n1:qz 1 2=some 1:=by rw[(a0X hA).2.2.1];rfl
 have w0:qa .i64 (qb 0 1)=1:=ew hA rfl;have w1:qa .i64 (qb 1 1)=2:=ew hA rfl
 iterate 2 (try cbv;repeat ((first|with_reducible apply j6 hA|refine B8 hA [0,1] p0 ?_|refine B8 hA [0,1] p1 ?_|refine B8 hA [0,1] p2 ?_|refine B8 hA [0,1] p3 ?_|refine B8 hA [0,1] p4 ?_|refine B8 hA [0,1] p5 ?_|refine B8 hA [0,1] p6 ?_|refine B8 hA [0,1] p7 ?_|refine B8 hA [0,1] p8 ?_);cbv))
 try simp (maxSteps:=4000000) only [nc] at *
 refine n9 hA (γ:=Int) (λx=>[(85,vi .i64 x)]) (λx=>[]) (λx=>x=0\/x=1\/x=2) (λx=>2 - x.toNat) 0 (.inl rfl) ?_ ?_
 ·cbv
 ·intro z hinv;cbv;refine gn ?_;try simp only[nc] at *
  rcases hinv with rfl|rfl|rfl
  ·rw[m0]
   iterate 2 (try cbv;repeat ((first|with_reducible apply j6 hA|rw[n0]|refine B8 hA [0,1] p0 ?_|refine B8 hA [0,1] p1 ?_|refine B8 hA [0,1] p2 ?_|refine B8 hA [0,1] p3 ?_|refine B8 hA [0,1] p4 ?_|refine B8 hA [0,1] p5 ?_|refine B8 hA [0,1] p6 ?_|refine B8 hA [0,1] p7 ?_|refine B8 hA [0,1] p8 ?_);cbv))
   try simp (maxSteps:=4000000) only [nc] at *
   refine⟨qa .i64 (qb 0 1),by rw[w0];exact .inr (.inl rfl),by rw[w0];decide,?_⟩;cbv
  ·rw[m1]
   iterate 2 (try cbv;repeat ((first|with_reducible apply j6 hA|rw[n1]|refine B8 hA [0,1] p0 ?_|refine B8 hA [0,1] p1 ?_|refine B8 hA [0,1] p2 ?_|refine B8 hA [0,1] p3 ?_|refine B8 hA [0,1] p4 ?_|refine B8 hA [0,1] p5 ?_|refine B8 hA [0,1] p6 ?_|refine B8 hA [0,1] p7 ?_|refine B8 hA [0,1] p8 ?_);cbv))
   try simp (maxSteps:=4000000) only [nc] at *
   refine⟨qa .i64 (qb 1 1),by rw[w1];exact .inr (.inr rfl),by rw[w1];decide,?_⟩;cbv
  ·rw[m2]
   iterate 2 (try cbv;repeat ((first|with_reducible apply j6 hA|refine B8 hA [0,1] p0 ?_|refine B8 hA [0,1] p1 ?_|refine B8 hA [0,1] p2 ?_|refine B8 hA [0,1] p3 ?_|refine B8 hA [0,1] p4 ?_|refine B8 hA [0,1] p5 ?_|refine B8 hA [0,1] p6 ?_|refine B8 hA [0,1] p7 ?_|refine B8 hA [0,1] p8 ?_);cbv))
   try simp (maxSteps:=4000000) only [nc] at *
   exact n7 hA [0,1] ⟨rfl,rfl,rfl,rfl,rfl,rfl,rfl,rfl⟩ ⟨rfl,rfl⟩
theorem d1p {s0 s1 s2 s3:ST} {x y z:Nat->D} {pl:Int} (o0:OvN 40 ⟨#[60]⟩ ⟨#[]⟩ 0 false pl [cE x,cE y] z) (p0:Dp false L T s0 s0) (p1:He pl T s0) (p2:Sk ⟨#[102,117,110]⟩ false T s0 s0) (p3:Sk ⟨#[114,101,99]⟩ false T s0 s0) (p4:Sk ⟨#[108,101,116]⟩ false T s0 s0) (p5:Sk ⟨#[105,102]⟩ false T s0 s0) (p6:Px 31 L x T s0 s1) (p7:Sk ⟨#[60]⟩ true T s1 s2) (p8:Px 31 L y T s2 s3):F4 12 [vi .i64 L] T s0 [.ag (C0 (cE z))] s3:=by
 obtain⟨_,_,_⟩:=s0;obtain⟨_,_,_⟩:=s1;obtain⟨_,_,_⟩:=s2;obtain⟨_,_,_⟩:=s3;refine so9 Tryz.func12 rfl ?_;intro qa qb _ _ _ _ _ qi _ _ _ _ _ _ _ _ _ _ _ _ _ qz;intros;rename_i hA;obtain⟨e1,e2,e3,e4,e5,e6,e7,e8,e9⟩:=m6 hA;have m0:qi 0 2=true:=el hA rfl;have m1:qi 1 2=true:=el hA rfl;have m2:qi 2 2=false:=el hA rfl;have n0:qz 0 2=some 0:=by rw[(a0X hA).2.2.1];rfl
 have n1:qz 1 2=some 1:=by rw[(a0X hA).2.2.1];rfl
 have w0:qa .i64 (qb 0 1)=1:=ew hA rfl;have w1:qa .i64 (qb 1 1)=2:=ew hA rfl
 iterate 2 (try cbv;repeat ((first|with_reducible apply j6 hA|refine B8 hA [0,1] p0 ?_|refine B8 hA [0,1] p1 ?_|refine B8 hA [0,1] p2 ?_|refine B8 hA [0,1] p3 ?_|refine B8 hA [0,1] p4 ?_|refine B8 hA [0,1] p5 ?_|refine B8 hA [0,1] p6 ?_|refine B8 hA [0,1] p7 ?_|refine B8 hA [0,1] p8 ?_|refine cx hA [0,1] p8 ?_|refine rdx hA [] o0 ?_);cbv))
 try simp (maxSteps:=4000000) only [nc] at *
 refine n9 hA (γ:=Int) (λx=>[(85,vi .i64 x)]) (λx=>[]) (λx=>x=0) (λx=>2 - x.toNat) 0 rfl ?_ ?_
 ·cbv
 ·intro z hinv;cbv;refine gn ?_;try simp only[nc] at *
  rcases hinv with rfl
  ·rw[m0]
   iterate 2 (try cbv;repeat ((first|with_reducible apply j6 hA|rw[n0]|refine B8 hA [0,1] p0 ?_|refine B8 hA [0,1] p1 ?_|refine B8 hA [0,1] p2 ?_|refine B8 hA [0,1] p3 ?_|refine B8 hA [0,1] p4 ?_|refine B8 hA [0,1] p5 ?_|refine B8 hA [0,1] p6 ?_|refine B8 hA [0,1] p7 ?_|refine B8 hA [0,1] p8 ?_|refine cx hA [0,1] p8 ?_|refine rdx hA [] o0 ?_);cbv))
   try simp (maxSteps:=4000000) only [nc] at *
   exact n7 hA [0,1] ⟨rfl,rfl,rfl,rfl,rfl,rfl,rfl,rfl⟩ ⟨rfl,rfl⟩
theorem d1q {s0 s1 s2 s3:ST} {x y z:Nat->D} {pl:Int} (o0:OvN 40 ⟨#[61,61]⟩ ⟨#[]⟩ 0 false pl [cE x,cE y] z) (p0:Dp false L T s0 s0) (p1:He pl T s0) (p2:Sk ⟨#[102,117,110]⟩ false T s0 s0) (p3:Sk ⟨#[114,101,99]⟩ false T s0 s0) (p4:Sk ⟨#[108,101,116]⟩ false T s0 s0) (p5:Sk ⟨#[105,102]⟩ false T s0 s0) (p6:Px 31 L x T s0 s1) (p7:Sk ⟨#[60]⟩ false T s1 s1) (p8:Sk ⟨#[61,61]⟩ true T s1 s2) (p9:Px 31 L y T s2 s3):F4 12 [vi .i64 L] T s0 [.ag (C0 (cE z))] s3:=by
 obtain⟨_,_,_⟩:=s0;obtain⟨_,_,_⟩:=s1;obtain⟨_,_,_⟩:=s2;obtain⟨_,_,_⟩:=s3;refine so9 Tryz.func12 rfl ?_;intro qa qb _ _ _ _ _ qi _ _ _ _ _ _ _ _ _ _ _ _ _ qz;intros;rename_i hA;obtain⟨e1,e2,e3,e4,e5,e6,e7,e8,e9⟩:=m6 hA;have m0:qi 0 2=true:=el hA rfl;have m1:qi 1 2=true:=el hA rfl;have m2:qi 2 2=false:=el hA rfl;have n0:qz 0 2=some 0:=by rw[(a0X hA).2.2.1];rfl
 have n1:qz 1 2=some 1:=by rw[(a0X hA).2.2.1];rfl
 have w0:qa .i64 (qb 0 1)=1:=ew hA rfl;have w1:qa .i64 (qb 1 1)=2:=ew hA rfl
 iterate 2 (try cbv;repeat ((first|with_reducible apply j6 hA|refine B8 hA [0,1] p0 ?_|refine B8 hA [0,1] p1 ?_|refine B8 hA [0,1] p2 ?_|refine B8 hA [0,1] p3 ?_|refine B8 hA [0,1] p4 ?_|refine B8 hA [0,1] p5 ?_|refine B8 hA [0,1] p6 ?_|refine B8 hA [0,1] p7 ?_|refine B8 hA [0,1] p8 ?_|refine B8 hA [0,1] p9 ?_|refine cx hA [0,1] p9 ?_|refine rdx hA [] o0 ?_);cbv))
 try simp (maxSteps:=4000000) only [nc] at *
 refine n9 hA (γ:=Int) (λx=>[(85,vi .i64 x)]) (λx=>[]) (λx=>x=0\/x=1) (λx=>2 - x.toNat) 0 (.inl rfl) ?_ ?_
 ·cbv
 ·intro z hinv;cbv;refine gn ?_;try simp only[nc] at *
  rcases hinv with rfl|rfl
  ·rw[m0]
   iterate 2 (try cbv;repeat ((first|with_reducible apply j6 hA|rw[n0]|refine B8 hA [0,1] p0 ?_|refine B8 hA [0,1] p1 ?_|refine B8 hA [0,1] p2 ?_|refine B8 hA [0,1] p3 ?_|refine B8 hA [0,1] p4 ?_|refine B8 hA [0,1] p5 ?_|refine B8 hA [0,1] p6 ?_|refine B8 hA [0,1] p7 ?_|refine B8 hA [0,1] p8 ?_|refine B8 hA [0,1] p9 ?_|refine cx hA [0,1] p9 ?_|refine rdx hA [] o0 ?_);cbv))
   try simp (maxSteps:=4000000) only [nc] at *
   refine⟨qa .i64 (qb 0 1),by rw[w0];exact .inr rfl,by rw[w0];decide,?_⟩;cbv
  ·rw[m1]
   iterate 2 (try cbv;repeat ((first|with_reducible apply j6 hA|rw[n1]|refine B8 hA [0,1] p0 ?_|refine B8 hA [0,1] p1 ?_|refine B8 hA [0,1] p2 ?_|refine B8 hA [0,1] p3 ?_|refine B8 hA [0,1] p4 ?_|refine B8 hA [0,1] p5 ?_|refine B8 hA [0,1] p6 ?_|refine B8 hA [0,1] p7 ?_|refine B8 hA [0,1] p8 ?_|refine B8 hA [0,1] p9 ?_|refine cx hA [0,1] p9 ?_|refine rdx hA [] o0 ?_);cbv))
   try simp (maxSteps:=4000000) only [nc] at *
   exact n7 hA [0,1] ⟨rfl,rfl,rfl,rfl,rfl,rfl,rfl,rfl⟩ ⟨rfl,rfl⟩
theorem c2Z {s0 s1 s2 s3 s4:ST} {x z:Nat->D} {pl:Int} {w:ByteArray} (o0:OvN 50 ⟨#[]⟩ w 0 false pl [cE x] z) (hL1:0<=L) (hL2:L<=1048576) (p0:He pl T s0) (p1:Sk ⟨#[101,108,115,101]⟩ true T s0 s1) (p2:Wo w T s1 s2) (p3:Wt ⟨#[61,62]⟩ T s2 s3) (p4:Px 12 (L+1) x T s3 s4):F4 129 [vi .i64 L] T s0 [.ag (C0 (cE z))] s4:=wko Tryz.func129 rfl
theorem c3a {s0 s1 s2 s3 s4:ST} {x z:Nat->D} {pl:Int} {v w:ByteArray} (o0:OvN 49 v w 0 false pl [cE x] z) (hL1:0<=L) (hL2:L<=1048576) (p0:He pl T s0) (p1:Sk ⟨#[101,108,115,101]⟩ false T s0 s0) (p2:Wo v T s0 s1) (p3:Wo w T s1 s2) (p4:Wt ⟨#[61,62]⟩ T s2 s3) (p5:Px 12 (L+1) x T s3 s4):F4 129 [vi .i64 L] T s0 [.ag (C0 (cE z))] s4:=wko Tryz.func129 rfl
theorem c3b {s0 s1 s2:ST} {x:Nat->D} {pl:Int} (hL1:0<=L) (hL2:L<=1048576) (p0:Px 12 (L+1) x T s0 s1) (p1:Sk ⟨#[58]⟩ false T s1 s1) (p2:Wt ⟨#[41]⟩ T s1 s2):F4 115 [vi .i64 L,vi .i64 pl] T s0 [.ag (C0 (cE x))] s2:=wko Tryz.func115 rfl
theorem c6g {s0 s1:ST} {z:Nat->D} {pl:Int} (o0:LfN 41 ⟨#[]⟩ 0 pl z) (p0:Sk ⟨#[125]⟩ true T s0 s1):F4 116 [vi .i64 L,vi .i64 pl] T s0 [.ag (C0 (cE z))] s1:=wko Tryz.func116 rfl
theorem c6h {s0 s1 s2:ST} {x:Nat->D} {pl:Int} {w:ByteArray} (p0:Sk ⟨#[125]⟩ false T s0 s0) (p1:Wo w T s0 s1) (p2:Sk ⟨#[58,61]⟩ false T s1 s1) (p3:F4 128 [vi .i64 L,vi .i64 pl,vs w] T s1 [.ag (C0 (cE x))] s2):F4 116 [vi .i64 L,vi .i64 pl] T s0 [.ag (C0 (cE x))] s2:=wko Tryz.func116 rfl
theorem c3c {s0 s1:ST} {x:Nat->D} {pl:Int} (p0:He pl T s0) (p1:F4 55 [.d (.sl 1 [[.sc (.string ⟨#[64]⟩)],[.sc (.string ⟨#[94]⟩)]])] T s0 [vs ⟨#[]⟩] s0) (p2:Px 100 L x T s0 s1):F4 91 [vi .i64 L] T s0 [.ag (C0 (cE x))] s1:=wko Tryz.func91 rfl
theorem c6i {s0 s1 s2 s3:ST} {x z:Nat->D} {pl:Int} {w:ByteArray} (o0:OvN 46 w ⟨#[]⟩ 0 false pl [cE x] z) (hL1:0<=L) (hL2:L<=1048576) (p0:He pl T s0) (p1:F4 55 [.d (.sl 1 [[.sc (.string ⟨#[64]⟩)],[.sc (.string ⟨#[94]⟩)]])] T s0 [vs ⟨#[64]⟩] s1) (p2:Wo w T s1 s2) (p3:Dp false (L+1) T s2 s2) (p4:Px 91 (L+1) x T s2 s3):F4 91 [vi .i64 L] T s0 [.ag (C0 (cE z))] s3:=wko Tryz.func91 rfl
theorem c3d {s0 s1 s2 s3:ST} {pl:Int} {w:ByteArray} (hL1:0<=L) (hL2:L<=1048576) (p0:He pl T s0) (p1:F4 55 [.d (.sl 1 [[.sc (.string ⟨#[64]⟩)],[.sc (.string ⟨#[94]⟩)]])] T s0 [vs ⟨#[64]⟩] s1) (p2:Wo w T s1 s2) (p3:Dp true (L+1) T s2 s3):F4 91 [vi .i64 L] T s0 [.ag (C0 cZ)] s3:=y7.nils (cs:=[vi .u8 0,vs ⟨#[]⟩,vs ⟨#[]⟩,vi .i64 0,vb false,vi .u8 0,vs ⟨#[]⟩,vi .i64 0,.em,.em,.em]) (wko Tryz.func91 rfl) c2Y
theorem c6j {s0 s1 s2 s3:ST} {x z:Nat->D} {pl:Int} {w:ByteArray} (o0:OvN 47 w ⟨#[]⟩ 0 false pl [cE x] z) (hL1:0<=L) (hL2:L<=1048576) (p0:He pl T s0) (p1:F4 55 [.d (.sl 1 [[.sc (.string ⟨#[64]⟩)],[.sc (.string ⟨#[94]⟩)]])] T s0 [vs ⟨#[94]⟩] s1) (p2:Wo w T s1 s2) (p3:Dp false (L+1) T s2 s2) (p4:Px 91 (L+1) x T s2 s3):F4 91 [vi .i64 L] T s0 [.ag (C0 (cE z))] s3:=wko Tryz.func91 rfl
theorem c3e {s0 s1 s2 s3:ST} {pl:Int} {w:ByteArray} (hL1:0<=L) (hL2:L<=1048576) (p0:He pl T s0) (p1:F4 55 [.d (.sl 1 [[.sc (.string ⟨#[64]⟩)],[.sc (.string ⟨#[94]⟩)]])] T s0 [vs ⟨#[94]⟩] s1) (p2:Wo w T s1 s2) (p3:Dp true (L+1) T s2 s3):F4 91 [vi .i64 L] T s0 [.ag (C0 cZ)] s3:=y7.nils (cs:=[vi .u8 0,vs ⟨#[]⟩,vs ⟨#[]⟩,vi .i64 0,vb false,vi .u8 0,vs ⟨#[]⟩,vi .i64 0,.em,.em,.em]) (wko Tryz.func91 rfl) c2Y
theorem c9q {s0:ST} (p0:F4 13 [] T s0 [vb false] s0):F4 105 [vi .i64 L] T s0 [.ag (C0 cZ)] s0:=y7.nils (cs:=[vi .u8 0,vs ⟨#[]⟩,vs ⟨#[]⟩,vi .i64 0,vb false,vi .u8 0,vs ⟨#[]⟩,vi .i64 0,.em,.em,.em]) (wko Tryz.func105 rfl) c2Y
theorem c6k {e0 q0 a0 a1 n0 p0:Int} {v0:ByteArray} {z:Nat->D} (p0_:F4 13 [] T (e0,q0,a0) [vb true] (e0,q0,a0)) (r0:PkN T a0 1 n0 p0 v0) (t0:TaN T a0 1 n0 p0 a1 v0) (o0:LfN 32 v0 0 p0 z):F4 105 [vi .i64 L] T (e0,q0,a0) [.ag (C0 (cE z))] (e0,q0,a1):=by
 have p1:=p0_;have b1:((1:Int) == 1)=true:=rfl;have b2:((1:Int) == 2)=false:=rfl;exact wko Tryz.func105 rfl
theorem c9r {e0 q0 a0 a1 n0 p0:Int} {v0:ByteArray} {z:Nat->D} (p0_:F4 13 [] T (e0,q0,a0) [vb true] (e0,q0,a0)) (r0:PkN T a0 2 n0 p0 v0) (t0:TaN T a0 2 n0 p0 a1 v0) (o0:LfN 33 ⟨#[]⟩ n0 p0 z):F4 105 [vi .i64 L] T (e0,q0,a0) [.ag (C0 (cE z))] (e0,q0,a1):=by
 have p1:=p0_;have b1:((2:Int) == 1)=false:=rfl;have b2:((2:Int) == 2)=true:=rfl;exact wko Tryz.func105 rfl
theorem c6l {e0 q0 a0 k n0 p0:Int} {v0:ByteArray} {s1 s2:ST} {z:Nat->D} (hk1:k≠1) (hk2:k≠2) (p3:F4 13 [] T (e0,q0,a0) [vb true] (e0,q0,a0)) (r0:PkN T a0 k n0 p0 v0) (p1:F4 55 [.d (.sl 1 [[.sc (.string ⟨#[116,114,117,101]⟩)],[.sc (.string ⟨#[102,97,108,115,101]⟩)],[.sc (.string ⟨#[40]⟩)],[.sc (.string ⟨#[123]⟩)],[.sc (.string ⟨#[99,97,115,101]⟩)]])] T (e0,q0,a0) [vs ⟨#[116,114,117,101]⟩] s1) (o0:LfN 34 ⟨#[]⟩ 1 p0 z):F4 105 [vi .i64 L] T (e0,q0,a0) [.ag (C0 (cE z))] s1:=by
 have b1:=d3T hk1;have b2:=d3T hk2;exact wko Tryz.func105 rfl
theorem c3f {e0 q0 a0 k n0 p0:Int} {v0:ByteArray} {s1 s2:ST} {z:Nat->D} (hk1:k≠1) (hk2:k≠2) (p3:F4 13 [] T (e0,q0,a0) [vb true] (e0,q0,a0)) (r0:PkN T a0 k n0 p0 v0) (p1:F4 55 [.d (.sl 1 [[.sc (.string ⟨#[116,114,117,101]⟩)],[.sc (.string ⟨#[102,97,108,115,101]⟩)],[.sc (.string ⟨#[40]⟩)],[.sc (.string ⟨#[123]⟩)],[.sc (.string ⟨#[99,97,115,101]⟩)]])] T (e0,q0,a0) [vs ⟨#[102,97,108,115,101]⟩] s1) (o0:LfN 34 ⟨#[]⟩ 0 p0 z):F4 105 [vi .i64 L] T (e0,q0,a0) [.ag (C0 (cE z))] s1:=by
 have b1:=d3T hk1;have b2:=d3T hk2;exact wko Tryz.func105 rfl
theorem c3g {e0 q0 a0 k n0 p0:Int} {v0:ByteArray} {s1 s2:ST} {z:Nat->D} (hk1:k≠1) (hk2:k≠2) (p3:F4 13 [] T (e0,q0,a0) [vb true] (e0,q0,a0)) (r0:PkN T a0 k n0 p0 v0) (p1:F4 55 [.d (.sl 1 [[.sc (.string ⟨#[116,114,117,101]⟩)],[.sc (.string ⟨#[102,97,108,115,101]⟩)],[.sc (.string ⟨#[40]⟩)],[.sc (.string ⟨#[123]⟩)],[.sc (.string ⟨#[99,97,115,101]⟩)]])] T (e0,q0,a0) [vs ⟨#[40]⟩] s1) (p2:F4 115 [vi .i64 L,vi .i64 p0] T s1 [.ag (C0 (cE z))] s2):F4 105 [vi .i64 L] T (e0,q0,a0) [.ag (C0 (cE z))] s2:=by
 have b1:=d3T hk1;have b2:=d3T hk2;exact wko Tryz.func105 rfl
theorem b9T {e0 q0 a0 k n0 p0:Int} {v0:ByteArray} {s1 s2:ST} {z:Nat->D} (hk1:k≠1) (hk2:k≠2) (p3:F4 13 [] T (e0,q0,a0) [vb true] (e0,q0,a0)) (r0:PkN T a0 k n0 p0 v0) (p1:F4 55 [.d (.sl 1 [[.sc (.string ⟨#[116,114,117,101]⟩)],[.sc (.string ⟨#[102,97,108,115,101]⟩)],[.sc (.string ⟨#[40]⟩)],[.sc (.string ⟨#[123]⟩)],[.sc (.string ⟨#[99,97,115,101]⟩)]])] T (e0,q0,a0) [vs ⟨#[123]⟩] s1) (p2:F4 116 [vi .i64 L,vi .i64 p0] T s1 [.ag (C0 (cE z))] s2):F4 105 [vi .i64 L] T (e0,q0,a0) [.ag (C0 (cE z))] s2:=by
 have b1:=d3T hk1;have b2:=d3T hk2;exact wko Tryz.func105 rfl
theorem b9U {e0 q0 a0 k n0 p0:Int} {v0:ByteArray} {s1 s2:ST} {z:Nat->D} (hk1:k≠1) (hk2:k≠2) (p3:F4 13 [] T (e0,q0,a0) [vb true] (e0,q0,a0)) (r0:PkN T a0 k n0 p0 v0) (p1:F4 55 [.d (.sl 1 [[.sc (.string ⟨#[116,114,117,101]⟩)],[.sc (.string ⟨#[102,97,108,115,101]⟩)],[.sc (.string ⟨#[40]⟩)],[.sc (.string ⟨#[123]⟩)],[.sc (.string ⟨#[99,97,115,101]⟩)]])] T (e0,q0,a0) [vs ⟨#[99,97,115,101]⟩] s1) (p2:F4 117 [vi .i64 L,vi .i64 p0] T s1 [.ag (C0 (cE z))] s2):F4 105 [vi .i64 L] T (e0,q0,a0) [.ag (C0 (cE z))] s2:=by
 have b1:=d3T hk1;have b2:=d3T hk2;exact wko Tryz.func105 rfl
theorem c6m {e0 q0 a0 k n0 p0:Int} {v0:ByteArray} {s1 s2:ST}  (hk1:k≠1) (hk2:k≠2) (p3:F4 13 [] T (e0,q0,a0) [vb true] (e0,q0,a0)) (r0:PkN T a0 k n0 p0 v0) (p1:F4 55 [.d (.sl 1 [[.sc (.string ⟨#[116,114,117,101]⟩)],[.sc (.string ⟨#[102,97,108,115,101]⟩)],[.sc (.string ⟨#[40]⟩)],[.sc (.string ⟨#[123]⟩)],[.sc (.string ⟨#[99,97,115,101]⟩)]])] T (e0,q0,a0) [vs ⟨#[]⟩] s1) (p2:F4 15 [vi .u8 5] T s1 [.ag pz0] s2):F4 105 [vi .i64 L] T (e0,q0,a0) [.ag (C0 cZ)] s2:=by
 refine y7.nils (cs:=[vi .u8 0,vs ⟨#[]⟩,vs ⟨#[]⟩,vi .i64 0,vb false,vi .u8 0,vs ⟨#[]⟩,vi .i64 0,.em,.em,.em]) ?_ c2Y;unfold pz0 at p2;have b1:=d3T hk1;have b2:=d3T hk2;exact wko Tryz.func105 rfl
end
end
end Go.Proofs.YtdjnoafijjepcaaGreat.Vm
end

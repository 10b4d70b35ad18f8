/- Part 25 of the proof. Conditions: none. -/
import Derived.Test.YtahpnackkmbmgaaGreatE4
import Derived.Test.YtahpnackkmbmgaaGreatE6
import Derived.Test.YtahpnackkmbmgaaGreatE10
import Derived.Test.YtahpnackkmbmgaaGreatE14
import Derived.Test.YtahpnackkmbmgaaGreatE21
import Derived.Test.YtahpnackkmbmgaaGreatE23
import Derived.Test.YtahpnackkmbmgaaGreatE24
import Derived.Test.YtahpnackkmbmgaaGreatRows
import Derived.Deep.Slices
import Derived.WideShapes
import Derived.ChangeArms
import Derived.Test.YtahpnackkmbmgaaGreatE0
set_option linter.all false
set_option linter.unusedVariables false
set_option linter.unusedSimpArgs false
section
namespace Go.Proofs.YtahpnackkmbmgaaGreat.Vm
open Go.RowKit
set_option maxRecDepth 100000
set_option maxHeartbeats 4000000
theorem b9D (l:List UInt8) (hl:l.length≤65536):o9 24 [.one (.sl 1 (rU l))] [.one (.sl 4 (C9 (o7 (Y7 l) 0 false []).1)),.one (.sc (.int .i64 (o7 (Y7 l) 0 false []).2.1)),.one (.sc (.int .i64 (o7 (Y7 l) 0 false []).2.2))]:=by
 have h:=c5v (b4o l) (by unfold Y7;rw [d3o];exact hl)
 rw [c5I]
 exact h
section
abbrev PxN (B:List (List D)) (x:List D) (y:List (List D)) (p c:Int):Prop:=o9 7 [.one (.sl 1 B)] [.ag x,.one (.sl 1 y),.one (.sc (.int .i64 p)),.one (.sc (.int .u8 c))]
abbrev PxZ (B:List (List D)) (x:List D) (y:D) (p c:Int):Prop:=o9 7 [.one (.sl 1 B)] [.ag x,.one y,.one (.sc (.int .i64 p)),.one (.sc (.int .u8 c))]
abbrev RxN (B:List (List D)) (x:List D) (y:D) (p c:Int):Prop:=o9 8 [.one (.sl 1 B)] [.ag x,.one y,.one (.sc (.int .i64 p)),.one (.sc (.int .i64 c))]
abbrev TkN (f:Nat) (k:IntKind) (B T:List (List D)) (p c:Int):Prop:=o9 f [.one (.sl 1 B)] [.one (.sl 4 T),.one (.sc (.int .i64 p)),.one (.sc (.int k c))]
abbrev z10:List D:=[.sc (.int .u8 0),.sc (.string ⟨#[]⟩),.sc (.string ⟨#[]⟩),.sc (.int .i64 0),.sc (.bool false),.sc (.int .u8 0),.sc (.string ⟨#[]⟩),.sc (.int .i64 0),.sl 0 [],.sl 0 []]
section
variable {B T:List (List D)} {x y:Nat→D} {p c a k n u1 u2:Int} {s:ByteArray} {l:List (List D)}
theorem d2u (h0:TkN 24 .i64 B T p c) (b0:(c == 0)=false):RxN B z10 (.sl 0 []) p c:=wk Tryz.func8 rfl
theorem d2v (h0:TkN 24 .i64 B T p 0) (h1:ExN T 0 1 (gG x a c)) (b0:(c == 0)=false) (g0:tK T a k s u1 u2):RxN B z10 (.sl 0 []) u2 c:=wk Tryz.func8 rfl
theorem d2w (h0:TkN 24 .i64 B T p 0) (h1:ExN T 0 1 (gG x a 0)) (g0:tK T a k s u1 u2) (b0:(k == 4)=false) (b1:((5:Int) == 0)=false):RxN B z10 (.sl 0 []) u2 5:=wk Tryz.func8 rfl
theorem d2x (h0:TkN 24 .i64 B T p 0) (h1:ExN T 0 1 (gG x a 0)) (g0:tK T a k s u1 u2) (b0:(k == 4)=true) (h2:o9 26 [.ag [x 0,x 1,x 2,x 3,x 4,x 5,x 6,x 7,x 8,x 9]] [.one (.sl 10 l)]) (l0:decide (5000<(l.length:Int))=true):RxN B z10 (.sl 0 []) 0 7:=wk Tryz.func8 rfl
theorem d2y (h0:TkN 24 .i64 B T p 0) (h1:ExN T 0 1 (gG x a 0)) (g0:tK T a k s u1 u2) (b0:(k == 4)=true) (h2:o9 26 [.ag [x 0,x 1,x 2,x 3,x 4,x 5,x 6,x 7,x 8,x 9]] [.one (.sl 10 l)]) (l0:decide (5000<(l.length:Int))=false):RxN B [x 0,x 1,x 2,x 3,x 4,x 5,x 6,x 7,x 8,x 9] (x 10) 0 0:=wk Tryz.func8 rfl
abbrev NwN (T:List (List D)):Prop:=v8 18 [.d (.sl 4 T)] [] (fun res os=>res=[.ptr 0 0]∧os=[.box [.d (.sl 4 T),.d (.sc (.int .i64 0))]])
theorem d2z (h0:TkN 17 .u8 B T p c) (b0:(c == 0)=false):PxZ B z10 (.sl 0 []) p c:=wk Tryz.func7 rfl
end
section
variable {B T:List (List D)} {p e q a k n u1 u2:Int} {x y:Nat→D} {tx:ByteArray} {ps:List (List D)}
theorem d20 (hT:TkN 17 .u8 B T p 0) (hN:NwN T) (h1:C5 19 [vi .i64 1] T (0,0,0) [.ag (A7 (cE x))] (e,q,a)) (h2:C5 20 [] T (e,q,a) [vb false] (e,q,a)):PxZ B z10 (.sl 0 []) q e:=by
 refine N2 Tryz.func7 rfl ?_;intro _ _ _ _ _ _ _ _ _ qk;intros;rename_i hA
 have g0:qk 0 0=true:=ebr hA
 iterate 2 (try cbv;repeat ((first|with_reducible apply f8 hA|rw [g0]|refine f9 hA _ hT rfl ?_|refine i7 hA _ hT ?_|(refine y6 hA [] hN ⟨rfl,rfl,rfl,rfl,rfl,rfl,rfl⟩ ?_;rintro _ _ ⟨rfl,rfl⟩)|(refine y6 hA [2,1] h1 ⟨rfl,rfl,rfl,rfl,rfl,rfl,rfl⟩ ?_;rintro _ _ ⟨rfl,rfl⟩)|(refine y6 hA [2,1] h2 ⟨rfl,rfl,rfl,rfl,rfl,rfl,rfl⟩ ?_;rintro _ _ ⟨rfl,rfl⟩));cbv))
theorem d21 {e2 q2 a2:Int} (hT:TkN 17 .u8 B T p 0) (hN:NwN T) (h1:C5 19 [vi .i64 1] T (0,0,0) [.ag (A7 (cE x))] (e,q,a)) (h2:C5 20 [] T (e,q,a) [vb true] (e,q,a)) (h3:PkN T a k u1 u2 tx) (b0:(k == 4)=false) (h4:C5 22 [vi .u8 5] T (e,q,a) [.ag pz0] (e2,q2,a2)) (h5:C5 20 [] T (e2,q2,a2) [vb false] (e2,q2,a2)):PxZ B z10 (.sl 0 []) q2 e2:=by
 unfold pz0 at h4
 refine N2 Tryz.func7 rfl ?_;intro _ _ _ _ _ _ _ _ _ qk;intros;rename_i hA
 have g0:qk 0 0=true:=ebr hA
 have g1:=eb hA b0
 iterate 2 (try cbv;repeat ((first|with_reducible apply f8 hA|rw [g0]|rw [g1]|refine f9 hA _ hT rfl ?_|refine i7 hA _ hT ?_|(refine y6 hA [] hN ⟨rfl,rfl,rfl,rfl,rfl,rfl,rfl⟩ ?_;rintro _ _ ⟨rfl,rfl⟩)|(refine y6 hA [2,1] h1 ⟨rfl,rfl,rfl,rfl,rfl,rfl,rfl⟩ ?_;rintro _ _ ⟨rfl,rfl⟩)|(refine y6 hA [2,1] h2 ⟨rfl,rfl,rfl,rfl,rfl,rfl,rfl⟩ ?_;rintro _ _ ⟨rfl,rfl⟩)|(refine a6v hA [1] h3 ⟨rfl,rfl,rfl,rfl,rfl,rfl,rfl⟩ rfl ?_;rintro _ rfl)|refine b22 hA [1] h3 ⟨rfl,rfl,rfl,rfl,rfl,rfl,rfl⟩ rfl ?_|(refine y6 hA [2,1] h4 ⟨rfl,rfl,rfl,rfl,rfl,rfl,rfl⟩ ?_;rintro _ _ ⟨rfl,rfl⟩)|(refine y6 hA [2,1] h5 ⟨rfl,rfl,rfl,rfl,rfl,rfl,rfl⟩ ?_;rintro _ _ ⟨rfl,rfl⟩));cbv))
theorem d22 (hT:TkN 17 .u8 B T p 0) (hN:NwN T) (h1:C5 19 [vi .i64 1] T (0,0,0) [.ag [.d (x 0),.d (x 1),.d (x 2),.d (x 3),.d (x 4),.d (x 5),.d (x 6),.d (x 7),.d (x 8),.d (x 9),.d (.sl 1 ps)]] (e,q,a)) (h2:C5 20 [] T (e,q,a) [vb true] (e,q,a)) (h3:PkN T a k u1 u2 tx) (b0:(k == 4)=true) (l0:decide (5000<(ps.length:Int))=true):PxZ B z10 (.sl 0 []) 0 7:=by
 refine N2 Tryz.func7 rfl ?_;intro _ _ _ _ _ _ _ _ _ qk;intros;rename_i hA
 have g0:qk 0 0=true:=ebr hA
 have g1:=eb hA b0
 have g2:=eln hA l0
 iterate 2 (try cbv;repeat ((first|with_reducible apply f8 hA|rw [g0]|rw [g1]|rw [g2]|refine f9 hA _ hT rfl ?_|refine i7 hA _ hT ?_|(refine y6 hA [] hN ⟨rfl,rfl,rfl,rfl,rfl,rfl,rfl⟩ ?_;rintro _ _ ⟨rfl,rfl⟩)|(refine y6 hA [2,1] h1 ⟨rfl,rfl,rfl,rfl,rfl,rfl,rfl⟩ ?_;rintro _ _ ⟨rfl,rfl⟩)|(refine y6 hA [2,1] h2 ⟨rfl,rfl,rfl,rfl,rfl,rfl,rfl⟩ ?_;rintro _ _ ⟨rfl,rfl⟩)|(refine a6v hA [1] h3 ⟨rfl,rfl,rfl,rfl,rfl,rfl,rfl⟩ rfl ?_;rintro _ rfl)|refine b22 hA [1] h3 ⟨rfl,rfl,rfl,rfl,rfl,rfl,rfl⟩ rfl ?_);cbv))
theorem d23 (hT:TkN 17 .u8 B T p 0) (hN:NwN T) (h1:C5 19 [vi .i64 1] T (0,0,0) [.ag [.d (x 0),.d (x 1),.d (x 2),.d (x 3),.d (x 4),.d (x 5),.d (x 6),.d (x 7),.d (x 8),.d (x 9),.d (.sl 1 ps)]] (e,q,a)) (h2:C5 20 [] T (e,q,a) [vb true] (e,q,a)) (h3:PkN T a k u1 u2 tx) (b0:(k == 4)=true) (l0:decide (5000<(ps.length:Int))=false) (h4:o9 23 [.ag [x 0,x 1,x 2,x 3,x 4,x 5,x 6,x 7,x 8,x 9]] [.ag [x 0,x 1,x 2,x 3,x 4,x 5,x 6,x 7,x 8,x 9]]):PxZ B [x 0,x 1,x 2,x 3,x 4,x 5,x 6,x 7,x 8,x 9] (.sl 1 ps) 0 0:=by
 refine N2 Tryz.func7 rfl ?_;intro _ _ _ _ _ _ _ _ _ qk;intros;rename_i hA
 have g0:qk 0 0=true:=ebr hA
 have g1:=eb hA b0
 have g2:=eln hA l0
 iterate 2 (try cbv;repeat ((first|with_reducible apply f8 hA|rw [g0]|rw [g1]|rw [g2]|refine f9 hA _ hT rfl ?_|refine i7 hA _ hT ?_|refine f9 hA _ h4 rfl ?_|refine i7 hA _ h4 ?_|(refine y6 hA [] hN ⟨rfl,rfl,rfl,rfl,rfl,rfl,rfl⟩ ?_;rintro _ _ ⟨rfl,rfl⟩)|(refine y6 hA [2,1] h1 ⟨rfl,rfl,rfl,rfl,rfl,rfl,rfl⟩ ?_;rintro _ _ ⟨rfl,rfl⟩)|(refine y6 hA [2,1] h2 ⟨rfl,rfl,rfl,rfl,rfl,rfl,rfl⟩ ?_;rintro _ _ ⟨rfl,rfl⟩)|(refine a6v hA [1] h3 ⟨rfl,rfl,rfl,rfl,rfl,rfl,rfl⟩ rfl ?_;rintro _ rfl)|refine b22 hA [1] h3 ⟨rfl,rfl,rfl,rfl,rfl,rfl,rfl⟩ rfl ?_);cbv))
end
def pxW (l:List UInt8):Tm×List Int×Int×Int :=
 let r:=o7 (Y7 l) 0 false []
 if r.2.2≠0 then (a0F,[],r.2.1,r.2.2)
 else
  let E:=(lvW r.1 200).1 (0,0)
  if E.2.2≠0 then (a0F,[],(j6 r.1 E.2.1).at_,E.2.2)
  else if (j6 r.1 E.2.1).kind≠4 then (a0F,[],(j6 r.1 E.2.1).at_,5)
  else if 5000<E.1.2.length then (a0F,[],0,7)
  else (E.1.1,E.1.2,0,0)
theorem b5b:a35 z10 (cM a0F):=by
 unfold a0F r7
 rw [cM,cT,rT,rM]
 repeat (first|exact .nil|refine .cons (.refl _) ?_|refine .cons (.nil _ _) ?_)
theorem PxZ.z {B:List (List D)} {p c:Int} (h:PxZ B z10 (.sl 0 []) p c):PxN B (cM a0F) (rZ []) p c:=h.likeq ⟨.ag b5b,.one (.nil _ _),.same _,.same _,trivial⟩
theorem RxN.z {B:List (List D)} {p c:Int} (h:RxN B z10 (.sl 0 []) p c):RxN B (cM a0F) (.sl 1 (rZ [])) p c:=h.likeq ⟨.ag b5b,.one (.nil _ _),.same _,.same _,trivial⟩
theorem d0H {E:PL} {x:Nat→D} (h:cP E=cE x):cM E.1=[x 0,x 1,x 2,x 3,x 4,x 5,x 6,x 7,x 8,x 9]∧D.sl 1 (rZ E.2)=x 10:=by
 obtain ⟨d0,d1,d2,d3,d4,d5,d6,d7,d8,d9,hd⟩:=a4v E.1
 unfold cP at h
 rw [hd] at h ⊢
 injection h with e0 h
 injection h with e1 h
 injection h with e2 h
 injection h with e3 h
 injection h with e4 h
 injection h with e5 h
 injection h with e6 h
 injection h with e7 h
 injection h with e8 h
 injection h with e9 h
 injection h with e10 h
 subst e0 e1 e2 e3 e4 e5 e6 e7 e8 e9
 exact ⟨rfl,e10⟩
theorem d0I (l:List UInt8) (hl:l.length≤65536):PxN (rU l) (cM (pxW l).1) (rZ (pxW l).2.1) (pxW l).2.2.1 (pxW l).2.2.2∧RxN (rU l) (cM (pxW l).1) (.sl 1 (rZ (pxW l).2.1)) (pxW l).2.2.1 (pxW l).2.2.2∧(C8 (pxW l).1).length≤1048576∧GdT (pxW l).1∧(pxW l).2.1.length≤1048576:=by
 have hT:=c1y l hl
 have hR:=b9D l hl
 have hok:=c42 (Y7 l)
 have hln:(Y7 l).length=l.length:=by unfold Y7;rw [d3o]
 have zN:(C8 a0F).length≤1048576∧GdT a0F:=by
  have h:=a3C 0 F8 0 0
  exact ⟨by show (C8 a0F).length≤_;unfold a0F;rw [C8,a79];decide,h.2⟩
 unfold pxW
 generalize o7 (Y7 l) 0 false []=r at *
 dsimp only
 by_cases h0:r.2.2=0
 ·rw [d2T (fun h=>h h0)]
  obtain ⟨hE,hNm,hpos,hle⟩:=hok h0
  rw [h0] at hT hR
  have hlt:r.1.length≤65537:=by omega
  have hl2:r.1.length≤1048576:=by omega
  have hv:T6 200 1:=by unfold T6;omega
  have hx:=(d03 hE hNm hlt 200 1 hv).1 (0,0) hpos
  have hr:=(lvG hE hlt 200 1 hv).1 0 hpos
  have hfit:=(a44 hE 200).1 (0,0) hpos
  have hgd:=(c5Y hE hlt 200).1 (0,0) hpos
  have hnw:NwN (C9 r.1):=b4p (C9 r.1) (fun h=>by have:=a4N r.1;rw [h] at this;simp at this;omega) (by rw [a4N];omega)
  generalize (lvW r.1 200).1 (0,0)=E at *
  have hvi:=hfit.hi
  have hsz:=hfit.sz
  have tok:=a0o hvi
  obtain ⟨x,hxx⟩:=C2 E.1
  have hok6:=okP hl2 hvi
  have hpk:=c2r hl2 hvi
  unfold L3 at hx hok6
  rw [hxx] at hx
  rw [c7x] at hx
  by_cases hE0:E.2.2=0
  ·rw [d2T (fun h=>h hE0)]
   rw [a2y hE0,c76 hxx,hE0] at hr
   have e0:stP r.1 E.2=(0,0,(E.2.1:Int)):=by rw [show E.2=(E.2.1,0) from d5v rfl hE0];rfl
   rw [e0] at hx hok6
   rw [show (E.2.2 == 0)=true by rw [hE0];rfl] at hok6
   obtain ⟨hbal,hgt⟩:=hgd hE0
   obtain ⟨hm1,hm2⟩:=d0H hxx
   have hnN:(C8 E.1.1).length≤1048576:=by rw [←hbal];simp only at hsz;omega
   by_cases hk:(j6 r.1 E.2.1).kind=4
   ·rw [d2T (fun h=>h hk)]
    have b0:((j6 r.1 E.2.1).kind == 4)=true:=by rw [hk];rfl
    have hnd:=c5m E.1.1 hnN
    have hcp:=c8k E.1.1 hnN hgt
    rw [hm1] at hnd hcp
    have hx':C5 19 [vi .i64 1] (C9 r.1) (0,0,0) [.ag [.d (x 0),.d (x 1),.d (x 2),.d (x 3),.d (x 4),.d (x 5),.d (x 6),.d (x 7),.d (x 8),.d (x 9),.d (.sl 1 (rZ E.1.2))]] (0,0,(E.2.1:Int)):=by rw [hm2];exact hx
    by_cases h5:5000<E.1.2.length
    ·rw [d2S h5]
     exact ⟨(d22 hT hnw hx' hok6 hpk b0 (d3a (by rw [a5O];omega))).z,(d2x hR hr tok b0 hnd (d3a (by rw [a2I,←hbal];omega))).z,zN.1,zN.2,d3t _⟩
    ·rw [d2T h5]
     refine ⟨?_,?_,hnN,hgt,by show E.1.2.length≤_;omega⟩
     ·show PxN _ (cM E.1.1) (rZ E.1.2) 0 0
      rw [hm1]
      exact d23 hT hnw hx' hok6 hpk b0 (d2U (by rw [a5O];omega)) hcp
     ·show RxN _ (cM E.1.1) (.sl 1 (rZ E.1.2)) 0 0
      rw [hm1,hm2]
      exact d2y hR hr tok b0 hnd (d2U (by rw [a2I,←hbal];omega))
   ·rw [d2S hk]
    have b0:=d2Y hk
    have h4:=b6i hl2 hvi 5 (by decide)
    have h5:=okP hl2 (p:=(E.2.1,5)) hvi
    unfold L3 at h4 h5
    rw [e0,show E7 5 E.2=(E.2.1,5) by unfold E7;rw [d2T (fun h=>h hE0)],b0d r.1 E.2.1 5 (by decide)] at h4
    rw [b0d r.1 E.2.1 5 (by decide)] at h5
    exact ⟨(d21 hT hnw hx hok6 hpk b0 h4 h5).z,(d2w hR hr tok b0 rfl).z,zN.1,zN.2,d3t _⟩
  ·rw [d2S hE0]
   rw [a0w hE0] at hr
   have e0:stP r.1 E.2=(E.2.2,(j6 r.1 E.2.1).at_,(E.2.1:Int)):=b0d r.1 E.2.1 E.2.2 hE0
   rw [e0] at hx hok6
   rw [show (E.2.2 == 0)=false from d2Y hE0] at hok6
   exact ⟨(d20 hT hnw hx hok6).z,(d2v hR hr (d2Y hE0) tok).z,zN.1,zN.2,d3t _⟩
 ·rw [d2S h0]
  exact ⟨(d2z hT (d2Y h0)).z,(d2u hR (d2Y h0)).z,zN.1,zN.2,d3t _⟩
end

theorem c3h:∀t u:Ty,t.parts.length≤1048576→o9 27 [.ag (cT t),.ag (cT u)] [.one (.sc (.bool (a32 t u)))]:=by
 intro t
 induction t using Ty.ind with
 | h t ih =>
  intro u hN
  have hkl:=T5 t
  obtain ⟨op,nm,n,ks⟩:=t
  obtain ⟨op2,nm2,n2,ks2⟩:=u
  simp only [Ty.kids] at hkl ih
  have hm:ks.length≤1048576:=by omega
  rw [cT,cT]
  generalize hb:a32 (.mk op nm n ks) (.mk op2 nm2 n2 ks2)=b
  obtain ⟨K,hK⟩:∃K,K=rT ks:=⟨_,rfl⟩
  obtain ⟨K2,hK2⟩:∃K,K=rT ks2:=⟨_,rfl⟩
  rw [←hK,←hK2]
  refine N2 Tryz.func27 rfl ?_;intro qa qb _ _ _ _ _ qi _ qk _ qm _ qp _ _ _ _ _ _ _ _ va vc;intros;rename_i hA
  cbv;refine gn ?_
  obtain ⟨e1,e2,e3,e4,e5,e6,e7,e8,e9⟩:=j7 hA
  obtain ⟨s1,s2,s3,-⟩:=G1 hA
  obtain ⟨r1,r2,-⟩:=A8 hA
  rw [a32] at hb
  cases h1:qk op op2
  ·cbv;refine gn ?_
   rw [e9] at h1
   rw [←hb,h1]
   exact ⟨rfl,trivial⟩
  cbv
  cases h2:qm (qp nm) (qp nm2)
  ·cbv;refine gn ?_
   rw [s1,s3,s3] at h2
   rw [←hb,h2]
   simp
  cbv
  cases h3:qk n n2
  ·cbv;refine gn ?_
   rw [e9] at h3
   rw [←hb,h3]
   simp
  cbv
  cases h4:qk (va K) (va K2)
  ·cbv;refine gn ?_
   have h5:ks.length≠ks2.length:=by
    rw [e9,r1,r1,hK,hK2,a0m,a0m] at h4
    intro h
    rw [h] at h4
    simp at h4
   rw [←hb,a7R h5]
   simp
  cbv;refine gn ?_
  have h5:ks.length=ks2.length:=by
   rw [e9,r1,r1,hK,hK2,a0m,a0m] at h4
   rw [d3F] at h4
   exact Int.ofNat.inj h4
  refine j9 hA (γ:=Int) (fun z=>[(5,vi .i64 z)]) (fun _=>[]) (fun z=>∃k:Nat,z=(k:Int)∧k≤ks.length∧N7 (ks.drop k) (ks2.drop k)=b) (fun z=>ks.length - z.toNat) 0 ?_ ?_ ?_
  ·exact ⟨0,rfl,d3t _,by rw [←hb,(by rw [←e9];exact h1:(op == op2)=true),(by rw [←s1,←s3,←s3];exact h2:(nm.toList == nm2.toList)=true),(by rw [←e9];exact h3:(n == n2)=true)];rfl⟩
  ·cbv
  ·intro z hinv
   cbv;refine gn ?_
   obtain ⟨k,hz,hk,hE⟩:=hinv
   have hz:z=(k:Int):=hz
   have hlen:va K=(ks.length:Int):=by rw [r1,hK,a0m]
   have hlt:qi z (va K)=decide (k<ks.length):=by rw [e7,hlen,hz];exact d3l.2 (by omega)
   by_cases h9:k<ks.length
   ·rw [d3a h9] at hlt
    obtain ⟨x,hx⟩:∃x,ks[k]?=some x:=⟨_,d2P h9⟩
    obtain ⟨y,hy⟩:∃y,ks2[k]?=some y:=⟨_,d2P (by omega)⟩
    have g1:vc K z=some (cT x):=by rw [r2,hz,d2S (by omega),hK];exact a5F hx
    have g2:vc K2 z=some (cT y):=by rw [r2,hz,d2S (by omega),hK2];exact a5F hy
    have hsp:=ih x (d3e hx) y (by have:=hkl.2 x (d3e hx);omega)
    have hst:=b2T hx hy
    obtain ⟨o1,m1,n1,l1⟩:=x
    obtain ⟨o2,m2,n2',l2⟩:=y
    rw [cT] at g1 g2 hsp
    rw [cT] at hsp
    generalize rT l1=L1 at *
    generalize rT l2=L2 at *
    generalize a32 (.mk o1 m1 n1 l1) (.mk o2 m2 n2' l2)=c at *
    rw [hlt]
    cbv;refine gn ?_
    rw [g1]
    cbv
    rw [g2]
    cbv
    refine i7 hA _ hsp ?_
    cases c
    ·cbv;refine gn ?_
     rw [←hE,hst]
     exact ⟨rfl,trivial⟩
    ·cbv;refine gn ?_
     replace hz:z=(k:Int):=hz
     have hz1:qa .i64 (qb z 1)=((k+1:Nat):Int):=by rw [e1,e2,hz,IntWalk.i64_in _ (by omega)];omega
     refine ⟨qa .i64 (qb z 1),⟨k+1,hz1,h9,by rw [←hE,hst];rfl⟩,by rw [hz1,hz];omega,?_⟩
     cbv
   ·rw [d2U h9] at hlt
    rw [hlt]
    cbv;refine gn ?_
    rw [←hE,d3A (by omega),d3A (by omega),N7]
    exact ⟨rfl,trivial⟩
section
def CdP (ex:PF):Prop:=∀p:PE,G5 p.2→G5 (ex p).2.2
theorem a0I:G5 0:=.inl rfl
theorem Z4 {ts:List Tok} {p:PE} (h:G5 p.2):G5 (i9 ts p).2.2:=by
 unfold i9
 split
 ·exact a0I
 ·exact a26 5 (.inr (.inl rfl)) h
theorem b8a {ts:List Tok} {n:Nat} {p:PE} (h:G5 p.2):G5 (P9 ts n p).2.2:=by
 unfold P9
 split
 ·show G5 (K5 ts n p.1).2.2.1
  unfold K5
  split
  ·exact a6L ts n (p.1,0) a0I
  ·exact a0I
 ·exact h
theorem c8q {ts:List Tok} {s:ByteArray} {p:PE} (h:G5 p.2):G5 (skP ts s p).2:=by
 unfold skP
 split
 ·exact a0I
 ·exact h
theorem b5c {ts:List Tok} {n:Nat} {p:PE} (h:G5 p.2):G5 (m7 ts n p).2.2:=by
 unfold m7
 split
 ·exact F9 (b8a (F9 (Z4 (c8q h))))
 ·exact Z4 h
theorem b1X {ts:List Tok} {n:Nat}:∀(k:Nat) (s:List Pm×PE),G5 s.2.2→G5 (B5 ts n k s).2.2
 | 0,s,h=>h
 | k+1,s,h=>by
  rw [B5]
  split
  ·exact b1X k _ (b5c h)
  ·exact h
section
variable {ts:List Tok} {ex:PF} (hx:CdP ex)
include hx
theorem a8c {n:Nat} {pl:Int} {r:Bool} {p:PE} (h:G5 p.2):G5 (G8 ts n ex pl r p).2.2:=by
 unfold G8
 refine hx _ (F9 (b1X _ _ (b5c ?_)))
 split
 ·exact Z4 h
 ·exact h
theorem b0v:∀(k:Nat) (s:List Fd×PE),G5 s.2.2→G5 (E5 ts ex k s).2.2
 | 0,s,h=>h
 | k+1,s,h=>by
  rw [E5]
  split
  ·exact b0v k _ (hx _ (F9 (Z4 a0I)))
  ·exact h
theorem b6y {pl:Int} {w:ByteArray} {p:PE} (h:G5 p.2):G5 (Y9 ts ex pl w p).2.2:=by
 have hF:G5 (a41 ts ex pl w p).2.2:=b0v hx _ _ (hx _ (F9 h))
 refine F9 ?_
 unfold G9
 split
 ·exact hx _ a0I
 ·exact hF
theorem c3i {p:PE} (h:G5 p.2):G5 (G3 ts ex p).2.2:=by
 unfold G3
 split
 ·exact hx _ (F9 (Z4 a0I))
 ·exact hx _ (F9 (Z4 (Z4 h)))
theorem c3j:∀(k:Nat) (f:Bool) (s:List PL×PE),G5 s.2.2→G5 (chL ts ex k f s).2.2
 | 0,f,s,h=>h
 | k+1,f,s,h=>by
  have hq:G5 (chQ ts f s.2).2:=by
   unfold chQ
   split
   ·exact h
   ·exact F9 h
  rw [chL]
  split
  ·split
   ·exact c3i hx hq
   ·exact c3j k false _ (c3i hx hq)
  ·exact h
theorem c3k {n:Nat} {p:PE} (h:G5 p.2):G5 (a0v ts n ex p).2.2:=by
 unfold a0v
 split
 ·exact h
 split
 ·exact a0I
 split
 ·exact a0I
 split
 ·exact a0I
 split
 ·exact a0I
 split
 ·unfold a1e
  split
  ·exact F9 (b8a a0I)
  ·exact F9 (hx _ a0I)
 split
 ·unfold T8
  split
  ·exact a0I
  split
  ·exact F9 (hx _ (F9 (hx _ a0I)))
  ·exact b6y hx (Z4 a0I)
 split
 ·exact F9 (c3j hx _ _ _ (F9 (hx _ a0I)))
 ·exact a26 5 (.inr (.inl rfl)) h
theorem c3l {n:Nat} {sm:PF} (hs:CdP sm) {p:PE} (h:G5 p.2):G5 (a25 ts n ex sm p).2.2:=by
 unfold a25
 split
 ·exact h
 split
 ·exact a8c hx a0I
 split
 ·exact a8c hx a0I
 split
 ·exact hx _ (F9 (hx _ (F9 (Z4 a0I))))
 split
 ·exact hx _ (F9 (hx _ (F9 (hx _ a0I))))
 ·unfold b91
  split
  ·exact hs _ a0I
  split
  ·exact hs _ a0I
  ·exact hs _ h
theorem a87 {sg:List ByteArray} {a:Int}:∀(k:Nat) (s:PL×PE),G5 s.2.2→G5 (Z3 sg ex ts a k s).2.2
 | 0,s,h=>h
 | k+1,s,h=>by
  rw [Z3]
  split
  ·exact h
  ·exact a87 k _ (hx _ a0I)
theorem a6Q {a:Int}:∀(k:Nat) (s:PL×PE),G5 s.2.2→G5 (a1L ex ts a k s).2.2
 | 0,s,h=>h
 | k+1,s,h=>by
  rw [a1L]
  split
  ·exact a6Q k _ (hx _ h)
  ·exact h
end
theorem b5d {ts:List Tok} {a:Int}:∀(k:Nat) (s:PL×PE),G5 s.2.2→G5 (M5 ts a k s).2.2
 | 0,s,h=>h
 | k+1,s,h=>by
  rw [M5]
  split
  ·exact h
  ·exact b5d k _ (Z4 a0I)
theorem c5Z (ts:List Tok):∀n,CdP (lvW ts n).1∧CdP (lvW ts n).2
 | 0=>⟨fun p h=>a26 6 (.inr (.inr rfl)) h,fun p h=>a26 6 (.inr (.inr rfl)) h⟩
 | n+1=>by
  obtain ⟨h1,h2⟩:=c5Z ts n
  have hP:CdP (a43 ts n (lvW ts n).1 (lvW ts n).2):=fun p h=>by
   have key:∀op:Int,G5 (a3B ts n op (lvW ts n).2 p).2.2:=fun op=>by
    unfold a3B
    split
    ·show G5 (K6 n _).2
     unfold K6
     split
     ·exact a26 6 (.inr (.inr rfl)) (Z4 a0I)
     ·exact Z4 a0I
    ·exact h2 _ (Z4 a0I)
   unfold a43 a76
   split
   ·exact key _
   split
   ·exact key _
   ·exact b5d _ _ (c3k h1 h)
  exact ⟨fun p h=>c3l h1 (fun q hq=>a87 (fun q hq=>a87 (fun q hq=>a6Q hP _ _ (hP _ hq)) _ _ (a6Q hP _ _ (hP _ hq))) _ _ (a87 (fun q hq=>a6Q hP _ _ (hP _ hq)) _ _ (a6Q hP _ _ (hP _ hq)))) h,hP⟩
theorem d0K (l:List UInt8) (h:0≤(o7 (Y7 l) 0 false []).2.2∧(o7 (Y7 l) 0 false []).2.2≤7):0≤(pxW l).2.2.2∧(pxW l).2.2.2≤7:=by
 have hc:=(c5Z (o7 (Y7 l) 0 false []).1 200).1 (0,0) a0I
 unfold pxW
 dsimp only
 split
 ·exact h
 split
 ·unfold G5 at hc
  show 0≤((lvW (o7 (Y7 l) 0 false []).1 200).1 (0,0)).2.2∧((lvW (o7 (Y7 l) 0 false []).1 200).1 (0,0)).2.2≤7
  omega
 split
 ·exact ⟨by show (0:Int)≤5;decide,by show (5:Int)≤7;decide⟩
 split
 ·exact ⟨by show (0:Int)≤7;decide,by show (7:Int)≤7;decide⟩
 ·exact ⟨by show (0:Int)≤0;decide,by show (0:Int)≤7;decide⟩
theorem b5e (t:Ty):a32 t t=true:=(b10 t t).2 rfl
theorem c3m:∀t:Tm,(C8 t).length≤1048576→GdT t→o9 9 [.ag (cM t),.ag (cM t)] [.one (.sc (.bool true))]:=by
 intro t
 induction t using Tm.ind with
 | h op nm ar n b a ks ih =>
  intro hN hG
  obtain ⟨ha,hkl,hkk⟩:=b7X hN hG
  have hal:=c3h a a ha
  rw [b5e] at hal
  have hcp:=fun k hk=>ih k hk (hkk k hk).1 (hkk k hk).2
  clear ih hN hG hkk
  obtain ⟨a0,a1,a2,a3,haa⟩:=l8 a
  rw [haa] at hal
  rw [cM,haa]
  obtain ⟨K,hK⟩:∃K,K=rM ks:=⟨_,rfl⟩
  rw [←hK]
  have hln:K.length=ks.length:=by rw [hK,a2I]
  obtain ⟨inv,hv⟩:∃inv:Int→Prop,inv=fun x=>∃k:Nat,x=(k:Int)∧k≤ks.length:=⟨_,rfl⟩
  have hi0:inv 0:=by rw [hv];exact ⟨0,rfl,d3t _⟩
  have key:∀b:Bool,o9 9 [.ag ([.sc (.int .u8 op),.sc (.string nm),.sc (.string ar),.sc (.int .i64 n),.sc (.bool b),a0,a1,a2,a3,.sl 10 K]),.ag ([.sc (.int .u8 op),.sc (.string nm),.sc (.string ar),.sc (.int .i64 n),.sc (.bool b),a0,a1,a2,a3,.sl 10 K])] [.one (.sc (.bool true))]:=by
   intro b
   cases b
   all_goals
    refine N2 Tryz.func9 rfl ?_;intro qa qb _ _ _ _ _ qi _ _ _ qm _ qp _ _ _ _ _ _ _ _ va vc;intros;rename_i hA
    obtain ⟨e1,e2,e3,e4,e5,e6,e7,e8,e9⟩:=j7 hA
    obtain ⟨r1,r2,r3,r4⟩:=A8 hA
    obtain ⟨s1,s2,s3,s4,s5,s6,s7⟩:=G1 hA
    have q1:qm (qp nm) (qp nm)=true:=by rw [s1];exact d3C _
    have q2:qm (qp ar) (qp ar)=true:=by rw [s1];exact d3C _
    iterate 2 (try cbv;repeat ((first|with_reducible apply f8 hA|rw [q1]|rw [q2]|refine f9 hA _ hal rfl ?_|refine i7 hA _ hal ?_|rw [ebr hA]);cbv))
    try simp (maxSteps:=4000000) only [nc] at *
    refine j9 hA (γ:=Int) (fun x=>[(5,vi .i64 x)]) (fun x=>[]) inv (fun x=>ks.length - x.toNat) 0 hi0 ?_ ?_
    ·cbv
    ·intro z hinv
     cbv;refine gn ?_;try simp only [nc] at *
     rw [hv] at hinv
     obtain ⟨k,hz,hk⟩:=hinv
     replace hz:z=(k:Int):=hz
     have hlt:qi z (va K)=decide (k<ks.length):=by rw [e7,r1,hln,hz];exact d3l.2 (by omega)
     by_cases h9:k<ks.length
     ·rw [d3a h9] at hlt
      obtain ⟨x,hx⟩:∃x,ks[k]?=some x:=⟨_,d2P h9⟩
      have h0:=hcp x (d3e hx)
      obtain ⟨d0,d1,d2,d3,d4,d5,d6,d7,d8,d9,hd⟩:=a4v x
      have gx:vc K z=some [d0,d1,d2,d3,d4,d5,d6,d7,d8,d9]:=by rw [r2,hz,d2S (by omega),show ((k:Int)).toNat=k by omega,hK,b6r hx,hd]
      rw [hd] at h0
      have hz1:qa .i64 (qb z 1)=((k+1:Nat):Int):=by rw [e1,e2,hz,IntWalk.i64_in _ (by omega)];omega
      have hm:ks.length - (qa .i64 (qb z 1)).toNat<ks.length - z.toNat:=by rw [hz1,hz];omega
      have hi:inv (qa .i64 (qb z 1)):=by rw [hv];exact ⟨k+1,hz1,h9⟩
      rw [hlt]
      iterate 2 (try cbv;repeat ((first|with_reducible apply f8 hA|rw [gx]|refine f9 hA _ h0 rfl ?_|refine i7 hA _ h0 ?_);cbv))
      try simp (maxSteps:=4000000) only [nc] at *
      refine ⟨_,hi,hm,?_⟩
      cbv
     ·rw [d2U h9] at hlt
      rw [hlt]
      try cbv;exact fr
  exact key b
theorem c5w (l:List Int) (hl:l.length≤1048576):o9 10 [.one (.sl 1 (rZ l)),.one (.sl 1 (rZ l))] [.one (.sc (.bool true))]:=by
 obtain ⟨n,hn⟩:∃n,n=l.length:=⟨_,rfl⟩
 have hln:=a5O l
 have hat:∀k,k<n→∃c:Int,(rZ l)[k]?=some [.sc (.int .i64 c)]:=fun k hk=>⟨_,by unfold rZ;rw [d3u,d2P (by omega)];rfl⟩
 rw [←hn] at hl hln
 generalize rZ l=U at *
 clear hn
 obtain ⟨inv,hv⟩:∃inv:Int→Prop,inv=fun x=>∃k:Nat,x=(k:Int)∧k≤n:=⟨_,rfl⟩
 have hi0:inv 0:=by rw [hv];exact ⟨0,rfl,d3t _⟩
 refine N2 Tryz.func10 rfl ?_;intro qa qb _ _ _ _ _ qi _ _ _ _ _ _ _ _ _ _ _ _ _ _ va vc;intros;rename_i hA
 obtain ⟨e1,e2,e3,e4,e5,e6,e7,e8,e9⟩:=j7 hA
 obtain ⟨r1,r2,r3,r4⟩:=A8 hA
 iterate 2 (try cbv;repeat ((first|with_reducible apply f8 hA|rw [ebr hA]);cbv))
 try simp (maxSteps:=4000000) only [nc] at *
 refine j9 hA (γ:=Int) (fun x=>[(5,vi .i64 x)]) (fun x=>[]) inv (fun x=>n - x.toNat) 0 hi0 ?_ ?_
 ·cbv
 ·intro z hinv
  cbv;refine gn ?_;try simp only [nc] at *
  rw [hv] at hinv
  obtain ⟨k,hz,hk⟩:=hinv
  replace hz:z=(k:Int):=hz
  have hlt:qi z (va U)=decide (k<n):=by rw [e7,r1,hln,hz];exact d3l.2 (by omega)
  by_cases h9:k<n
  ·rw [d3a h9] at hlt
   obtain ⟨c,hc⟩:=hat k h9
   have gx:vc U z=some [.sc (.int .i64 c)]:=by rw [r2,hz,d2S (by omega),show ((k:Int)).toNat=k by omega,hc]
   have hz1:qa .i64 (qb z 1)=((k+1:Nat):Int):=by rw [e1,e2,hz,IntWalk.i64_in _ (by omega)];omega
   have hm:n - (qa .i64 (qb z 1)).toNat<n - z.toNat:=by rw [hz1,hz];omega
   have hi:inv (qa .i64 (qb z 1)):=by rw [hv];exact ⟨k+1,hz1,h9⟩
   rw [hlt]
   iterate 2 (try cbv;repeat ((first|with_reducible apply f8 hA|rw [gx]|rw [ebr hA]);cbv))
   try simp (maxSteps:=4000000) only [nc] at *
   refine ⟨_,hi,hm,?_⟩
   cbv
  ·rw [d2U h9] at hlt
   rw [hlt]
   try cbv;exact fr
end
def CdM (c:Int):Prop:=0≤c∧c≤7
theorem cdm (c:Int) (h:0≤c∧c≤7):CdM c:=h
theorem c8r (l:List Int):CdM (a0x l).2:=by
 unfold a0x
 split
 ·exact cdm 4 (by decide)
 ·split
  ·exact cdm 7 (by decide)
  ·exact cdm 0 (by decide)
theorem c8s (s:ByteArray) (a:Int):CdM (a0k s a).2:=by
 unfold a0k
 split
 ·exact c8r _
 ·repeat' split
  all_goals first|exact cdm 0 (by decide)|exact cdm 4 (by decide)|exact cdm 7 (by decide)
theorem b8b (l:List Int):∀(m a:Nat) (rem:Bool) (out:List Tok),l.length - a≤m→CdM (o7 l a rem out).2.2
 | m,a,rem,out,hm=>by
  have z:∀c:Int,0≤c→c≤7→CdM c:=fun c h h2=>⟨h,h2⟩
  rw [a1n]
  unfold body
  by_cases ha:a<l.length
  ·rw [d2S ha]
   have go:∀(a':Nat) (rem:Bool) (out':List Tok),a<a'→CdM (o7 l a' rem out').2.2:=fun a' rem' out' h1=>by
    match m,hm with
    | 0,hm=>omega
    | m+1,hm=>exact b8b l m a' rem' out' (by omega)
   by_cases h0:nx l a=0
   ·rw [d2S h0];exact z 3 (by decide) (by decide)
   rw [d2T h0]
   by_cases h1:rem=true
   ·rw [d2S h1];exact go _ _ _ (by omega)
   rw [d2T h1]
   by_cases h2:L6 (gb l a)=true
   ·rw [d2S h2];exact go _ _ _ (by omega)
   rw [d2T h2]
   by_cases h3:gb l a=35
   ·rw [d2S h3];exact go _ _ _ (by omega)
   rw [d2T h3]
   by_cases h4:I6 (gb l a)=true
   ·rw [d2S h4]
    by_cases h5:(a0k (strOfNums (J2 l a)) a).2=0
    ·rw [d2S h5]
     have:=b29 ha h4
     exact go _ _ _ (by omega)
    ·rw [d2T h5];exact c8s _ _
   rw [d2T h4]
   by_cases h6:E2 (l.drop a)=0
   ·rw [d2S h6];exact z 4 (by decide) (by decide)
   rw [d2T h6]
   exact go _ _ _ (by omega)
  ·rw [d2T ha];exact z 0 (by decide) (by decide)
end Go.Proofs.YtahpnackkmbmgaaGreat.Vm
end
section
namespace Go.Proofs.YtahpnackkmbmgaaGreat.Vm
open Go.RowKit Go.ChangeShapes Go.WideShapes Go.Deep
section
inductive Deep (P:Program):Nat→List D→Nat→Prop
 | bool {t:Nat} (b:Bool) (h:P.underlying t=some .bool):Deep P t [.sc (.bool b)] 1
 | int {t:Nat} {k:IntKind} (n:Int) (h:P.underlying t=some (.int k)) (hw:(Lit.int k n).wf=true):Deep P t [.sc (.int k n)] 1
 | str {t:Nat} (s:ByteArray) (h:P.underlying t=some .string) (hs:s.size≤maxLen):Deep P t [.sc (.string s)] (s.size+1)
 | sl {t e:Nat} (rows:List (List D)) (ms:List Nat) (h:P.underlying t=some (.slice e)) (hl:ms.length=rows.length) (hb:rows.length≤maxLen)
   (hr:∀(i:Nat) (r:List D) (m:Nat),rows[i]?=some r→ms[i]?=some m→Deep P e r m):Deep P t [.sl (P.cellsOf e) rows] (ms.sum+1)
 | st {t:Nat} {fs:Array Field} (dss:List (List D)) (ms:List Nat) (h:P.underlying t=some (.struct fs)) (h1:dss.length=fs.size) (h2:ms.length=fs.size)
   (hf:∀(i:Nat) (f:Field) (ds:List D) (m:Nat),fs[i]?=some f→dss[i]?=some ds→ms[i]?=some m→Deep P f.type ds m):Deep P t dss.flatten (ms.sum+1)
def a5r (P:Program) (t:Nat) (r:R) (m:Nat):Prop:=match P.underlying t,r with
 | some (.struct _),.ag xs=>Deep P t xs m
 | some (.struct _),.one _=>False
 | _,.one x=>Deep P t [x] m
 | _,.ag _=>False
section
variable {P:Program} {t:Nat} {ds:List D} {m:Nat}
theorem Deep.unint {k:IntKind} (h:Deep P t ds m) (hu:P.underlying t=some (.int k)):∃n,ds=[.sc (.int k n)]∧(Lit.int k n).wf=true∧m=1:=by
 cases h with
 | int n h hw=>rw [hu] at h;cases h;exact ⟨n,rfl,hw,rfl⟩
 | _=>simp_all
theorem Deep.unbool (h:Deep P t ds m) (hu:P.underlying t=some .bool):∃b,ds=[.sc (.bool b)]∧m=1:=by
 cases h with
 | bool b h=>exact ⟨b,rfl,rfl⟩
 | _=>simp_all
theorem Deep.unstr (h:Deep P t ds m) (hu:P.underlying t=some .string):∃s:ByteArray,ds=[.sc (.string s)]∧s.size≤maxLen∧m=s.size+1:=by
 cases h with
 | str s h hs=>exact ⟨s,rfl,hs,rfl⟩
 | _=>simp_all
theorem Deep.unsl {e:Nat} (h:Deep P t ds m) (hu:P.underlying t=some (.slice e)):∃(rows:List (List D)) (ms:List Nat),ds=[.sl (P.cellsOf e) rows]∧ms.length=rows.length∧rows.length≤maxLen∧m=ms.sum+1 ∧
  ∀(i:Nat) (r:List D) (m:Nat),rows[i]?=some r→ms[i]?=some m→Deep P e r m:=by
 cases h with
 | sl rows ms h hl hb hr=>rw [hu] at h;cases h;exact ⟨rows,ms,rfl,hl,hb,rfl,hr⟩
 | _=>simp_all
end
def a88 (P:Program):List Field→Nat→Nat→Bool
 | [],n,c=>Nat.beq n c
 | f::fs,n,c=>Nat.beq f.offset n && a88 P fs (n+P.cellsOf f.type) c
def b3q (P:Program) (L:List Nat) (t:Nat):Bool:=match P.underlying t with
 | some .bool=>true
 | some (.int _)=>true
 | some .string=>true
 | some (.slice e)=>L.contains e && Nat.blt 0 (P.cellsOf e)
 | some (.struct fs)=>(fs.toList.all fun f=>L.contains f.type) && a88 P fs.toList 0 (P.cellsOf t)
 | _=>false
def dataOk (P:Program) (L:List Nat):Bool:=L.all (b3q P L)
theorem b3r {β:Type}:∀ {n:Nat} {p:Nat→β→Prop},(∀i,i<n→∃b,p i b)→∃l:List β,l.length=n∧∀(i:Nat) b,l[i]?=some b→p i b
 | 0,p,h=>⟨[],rfl,fun i b hi=>by simp at hi⟩
 | n+1,p,h=>by
  obtain ⟨b0,h0⟩:=h 0 (by omega)
  obtain ⟨l,hl,hp⟩:=b3r (n:=n) (p:=fun i b=>p (i+1) b) fun i hi=>h (i+1) (by omega)
  refine ⟨b0::l,by simp [hl],fun i b hi=>?_⟩
  cases i with
  | zero=>simp at hi;subst hi;exact h0
  | succ i=>exact hp i b (by simpa using hi)
theorem a7A {I:Nat→Nat→Prop} {w:World}:∀ {css:List (List Value)} {dss:List (List D)},css.length=dss.length→(∀(i:Nat) cs ds,css[i]?=some cs→dss[i]?=some ds→E0 I w cs ds)→E0 I w css.flatten dss.flatten
 | [],[],_,_=>E0.nil I w
 | c::css,d::dss,hl,h=>by
  rw [d3H,d3H]
  exact (h 0 c d rfl rfl).append (a7A (by simpa using hl) fun i cs ds h1 h2=>h (i+1) cs ds (by simpa using h1) (by simpa using h2))
 | [],_::_,hl,_=>by simp at hl
 | _::_,[],hl,_=>by simp at hl
theorem b0w {P:Program} {cs:List Value}:∀(fs:List Field) (n c:Nat),a88 P fs n c=true→cs.length=c→cs.drop n=(fs.map fun f=>(cs.drop f.offset).take (P.cellsOf f.type)).flatten
 | [],n,c,h,hl=>by
  have:n=c:=d5e h
  rw [d3A (by omega)];rfl
 | f::fs,n,c,h,hl=>by
  rw [a88,d2Z] at h
  have h1:f.offset=n:=d5e h.1
  rw [d3c,d3H,←b0w fs _ c h.2 hl,h1,←List.drop_drop,d3X]
theorem b0x {H:Type}:∀ {ms:List Nat} {els:List (DataW H)},ms.length=els.length→(∀(i m:Nat) y,ms[i]?=some m→els[i]?=some y→m≤Rows.uptoBulk y)→ms.sum≤Rows.uptoBulkAll els
 | [],[],_,_=>by simp
 | m::ms,y::els,hl,h=>by
  have h1:=h 0 m y rfl rfl
  have h2:=b0x (ms:=ms) (els:=els) (by simpa using hl) fun i m y hm hy=>h (i+1) m y (by simpa using hm) (by simpa using hy)
  simp only [d49,Rows.uptoBulkAll]
  omega
 | [],_::_,hl,_=>by simp at hl
 | _::_,[],hl,_=>by simp at hl
def Low (w:World) (b _h:Nat):Prop:=b<w.heap.size
section
variable {H:Type} {enc:TypeId×Value→H} {P:Program} {w:World} {base:Nat} {spare:Nat→Bool} {held:Bool}
theorem a7B {L:List Nat} (hL:dataOk P L=true):∀(fuel t:Nat) (cs:List Value) (x:DataW H×List MemPlace),t∈L→DataW.trod enc P w base spare held fuel t cs=some x→∃ds m,E0 (Low w) w cs ds∧Deep P t ds m∧m≤Rows.uptoBulk x.1
 | 0,t,cs,x,ht,h=>by simp [DataW.trod] at h
 | fuel+1,t,cs,x,ht,h=>by
  have hk:=d3z.1 hL t ht
  unfold b3q at hk
  split at hk
  ·rename_i e
   obtain ⟨b,rfl,rfl⟩:=DataW.trod_bool e h
   exact ⟨_,_,E0.cons (.sc _ rfl) (E0.nil _ _),.bool b e,by simp [Rows.uptoBulk]⟩
  ·rename_i k e
   obtain ⟨n,rfl,rfl,hw⟩:=DataW.trod_int e h
   exact ⟨_,_,E0.cons (.sc _ rfl) (E0.nil _ _),.int n e hw,by simp [Rows.uptoBulk]⟩
  ·rename_i e
   obtain ⟨s,rfl,rfl,hs⟩:=DataW.trod_string e h
   refine ⟨_,_,E0.cons (.sc _ rfl) (E0.nil _ _),.str s e hs,?_⟩
   have e2:s.data.toList.length=s.size:=by rw [d4l];rfl
   simp only [Rows.uptoBulk]
   omega
  ·rename_i e he
   simp only [d2Z,d3Y,d3Z] at hk
   rcases DataW.trod_slice he h with ⟨rfl,rfl⟩|⟨a,len,cap,elems,rest,n,hfu,rfl,rfl,hb,hl,hm,hlen,hel,_,_⟩
   ·exact ⟨_,_,E0.cons (.nil none 0 (P.cellsOf e)) (E0.nil _ _),.sl [] [] he rfl (d3t _) (fun i r m hr=>by simp at hr),by simp [Rows.uptoBulk]⟩
   ·obtain rfl:n=fuel:=by omega
    have each:∀i,i<len→∃q:List Value×List D×Nat,(w.cells? base (a.add (i * P.cellsOf e)) (P.cellsOf e)=some q.1)∧E0 (Low w) w q.1 q.2.1∧Deep P e q.2.1 q.2.2∧∃y,elems[i]?=some y∧q.2.2≤Rows.uptoBulk y.1:=by
     intro i hi
     have h1:=hel i hi
     have hei:elems[i]?=some (elems[i]'(by omega)):=d2P (by omega)
     rw [hei,Option.bind_eq_some_iff] at h1
     obtain ⟨cs',hc,ht'⟩:=h1
     obtain ⟨ds,m,h2,h3,h4⟩:=a7B hL n e cs' _ hk.1 ht'
     exact ⟨(cs',ds,m),hc,h2,h3,_,hei,h4⟩
    obtain ⟨l,hll,hp⟩:=b3r each
    have hmap:∀ {β:Type} (f:List Value×List D×Nat→β) (i:Nat) (b:β),(l.map f)[i]?=some b→∃q,l[i]?=some q∧f q=b:=fun f i b hi=>by
     rw [d3u,d3V] at hi
     exact hi
    have hrl:(l.map fun q=>q.2.1).length=len:=by rw [d3o,hll]
    have hcl:∀r∈l.map (fun q=>q.1),r.length=P.cellsOf e:=fun r hr=>by
     obtain ⟨i,hi⟩:=d39.1 hr
     obtain ⟨q,hq,rfl⟩:=hmap _ i r hi
     exact (World.cells?_some (hp i q hq).1).2.1
    have hdl:∀r∈l.map (fun q=>q.2.1),r.length=P.cellsOf e:=fun r hr=>by
     obtain ⟨i,hi⟩:=d39.1 hr
     obtain ⟨q,hq,rfl⟩:=hmap _ i r hi
     rw [←(hp i q hq).2.1.1]
     exact (World.cells?_some (hp i q hq).1).2.1
    have hD:Deep P t [.sl (P.cellsOf e) (l.map fun q=>q.2.1)] ((l.map fun q=>q.2.2).sum+1):=by
     refine .sl _ _ he (by simp) (by rw [hrl];omega) fun i r m hr hm=>?_
     obtain ⟨q,hq,rfl⟩:=hmap _ i r hr
     obtain ⟨q',hq',rfl⟩:=hmap _ i m hm
     rw [hq] at hq'
     cases hq'
     exact (hp i q hq).2.2.1
    have hB:(l.map fun q=>q.2.2).sum+1≤Rows.uptoBulk (DataW.slice (elems.map (·.1)) (rest.map (·.1))):=by
     have:=b0x (ms:=l.map fun q=>q.2.2) (els:=elems.map (·.1)) (by simp [hll,hlen]) fun i m y hm hy=>by
      obtain ⟨q,hq,rfl⟩:=hmap _ i m hm
      obtain ⟨y',hy',h4⟩:=(hp i q hq).2.2.2
      rw [d3u,hy'] at hy
      cases hy
      exact h4
     simp only [Rows.uptoBulk]
     omega
    refine ⟨_,_,E0.cons ?_ (E0.nil _ _),hD,hB⟩
    by_cases h0:len=0
    ·subst h0
     rw [d3w hll]
     exact .nil _ _ _
    obtain ⟨b,off,spot⟩:=a
    obtain ⟨q0,hq0⟩:∃q,l[0]?=some q:=⟨_,d2P (by omega)⟩
    have hc0:=(World.cells?_some (hp 0 q0 hq0).1).2
    have hq00:q0.1[0]?=some (q0.1[0]'(by omega)):=d2P (by omega)
    have hcell0:=(hc0.2 0 hk.2).trans hq00
    have hspot:spot=none:=by
     have:=World.cell?_spot hcell0
     simpa [Addr.add] using this
    subst hspot
    have hblk:b<w.heap.size:=by
     have:=World.block_lt_of_cell? w _ hcell0
     simpa [Addr.add] using this
    have add0:∀o j,(⟨b,o,none⟩:Addr).add j=⟨b,o+j,none⟩:=fun o j=>by
     unfold Addr.add
     by_cases hj:j=0
     ·subst hj;rfl
     ·simp [hj]
    have hus:(l.map fun q=>q.1).flatten.length=len * P.cellsOf e:=by rw [a2e hcl,d3o,hll]
    have hsl:=AtD.sl (I:=Low w) (w:=w) b off cap (P.cellsOf e) (l.map fun q=>q.2.1) (l.map fun q=>q.1).flatten (by rw [hrl];exact hl) ⟨_,d3b _,hblk⟩ hdl (by rw [hus,hrl]) (fun i u hu=>?_) (fun i u d hu hd=>?_)
    ·rw [hrl] at hsl
     exact hsl
    ·have hi:i<len * P.cellsOf e:=by rw [←hus];exact (d2Q.1 hu).1
     have hq:i / P.cellsOf e<len:=(Nat.div_lt_iff_lt_mul hk.2).2 hi
     have hr:i % P.cellsOf e<P.cellsOf e:=Nat.mod_lt _ hk.2
     have ei:i / P.cellsOf e * P.cellsOf e+i % P.cellsOf e=i:=by rw [Nat.mul_comm];exact Nat.div_add_mod i _
     obtain ⟨q,hqq⟩:∃q,l[i / P.cellsOf e]?=some q:=⟨_,d2P (by omega)⟩
     have hcq:=(World.cells?_some (hp _ q hqq).1).2.2 _ hr
     have hfl:=a1t hcl (i:=i / P.cellsOf e) (j:=i % P.cellsOf e) (r:=q.1) (by rw [d3u,hqq];rfl) hr
     rw [ei,hu] at hfl
     rw [←hfl,add0,add0,d3W,ei] at hcq
     exact hcq
    ·exact (a7A (I:=Low w) (w:=w) (css:=l.map fun q=>q.1) (dss:=l.map fun q=>q.2.1) (by simp) fun i cs ds h1 h2=>by
      obtain ⟨q,hq,rfl⟩:=hmap _ i cs h1
      obtain ⟨q',hq',rfl⟩:=hmap _ i ds h2
      rw [hq] at hq'
      cases hq'
      exact (hp i q hq).2.1).2 i u d hu hd
  ·rename_i fs he
   simp only [d2Z,d3z,d3Y] at hk
   obtain ⟨xs,n,hfu,rfl,hcl,hxl,hf⟩:=DataW.trod_struct he h
   obtain rfl:n=fuel:=by omega
   have each:∀i,i<fs.size→∃q:List D×Nat,∀f,fs[i]?=some f→E0 (Low w) w ((cs.drop f.offset).take (P.cellsOf f.type)) q.1∧Deep P f.type q.1 q.2∧∃y,xs[i]?=some y∧q.2≤Rows.uptoBulk y.1:=by
    intro i hi
    have hfi:fs[i]?=some fs[i]:=d3N hi
    have hxi:xs[i]?=some (xs[i]'(by omega)):=d2P (by omega)
    have h1:=hf i _ hfi
    rw [hxi] at h1
    obtain ⟨ds,m,h2,h3,h4⟩:=a7B hL n _ _ _ (hk.1 _ (Array.getElem_mem_toList ..)) h1
    refine ⟨(ds,m),fun f hff=>?_⟩
    rw [hfi] at hff
    cases hff
    exact ⟨h2,h3,_,hxi,h4⟩
   obtain ⟨l,hll,hp⟩:=b3r each
   have hmap:∀ {β:Type} (f:List D×Nat→β) (i:Nat) (b:β),(l.map f)[i]?=some b→∃q,l[i]?=some q∧f q=b:=fun f i b hi=>by
    rw [d3u,d3V] at hi
    exact hi
   refine ⟨(l.map (·.1)).flatten,(l.map (·.2)).sum+1,?_,.st _ _ he (by simp [hll]) (by simp [hll]) fun i f ds m h1 h2 h3=>?_,?_⟩
   ·have hcut:=b0w fs.toList 0 _ hk.2 hcl
    rw [d4g] at hcut
    rw [hcut]
    refine a7A (by simp [hll]) fun i c d h1 h2=>?_
    rw [d3u,d3V] at h1
    obtain ⟨f,hfi,rfl⟩:=h1
    obtain ⟨q,hq,rfl⟩:=hmap _ i d h2
    exact (hp i q hq f (by simpa using hfi)).1
   ·obtain ⟨q,hq,rfl⟩:=hmap _ i ds h2
    obtain ⟨q',hq',rfl⟩:=hmap _ i m h3
    rw [hq] at hq'
    cases hq'
    exact (hp i q hq f h1).2.1
   ·have:=b0x (ms:=l.map (·.2)) (els:=xs.map (·.1)) (by simp [hll,hxl]) fun i m y hm hy=>by
     obtain ⟨q,hq,rfl⟩:=hmap _ i m hm
     have hlt:i<fs.size:=by rw [←hll];exact (d2Q.1 hq).1
     obtain ⟨y',hy',h4⟩:=(hp i q hq _ (d3N hlt)).2.2
     rw [d3u,hy'] at hy
     cases hy
     exact h4
    simp only [Rows.uptoBulk]
    omega
  ·cases hk
theorem open_arg {L:List Nat} (hL:dataOk P L=true) {t:Nat} {v:Value} {d:DataW H} {ps:List MemPlace} {rc:Reach} {b0:Nat} (ht:L.contains t=true) (hv:Value.okWide P w rc b0 t v) (h:DataW.Trod enc P w base spare held t v d ps) :
  ∃r m,AtR (Low w) w v r∧a5r P t r m∧m≤Rows.uptoBulk d:=by
 rw [d3Y] at ht
 obtain ⟨fuel,hf⟩:=h
 obtain ⟨ds,m,h1,h2,h3⟩:=a7B hL fuel t _ _ ht hf
 have hk:=d3z.1 hL t ht
 unfold b3q at hk
 split at hk
 ·rename_i e
  obtain ⟨b,rfl⟩:=okWide_bool e hv
  obtain ⟨b',rfl,rfl⟩:=h2.unbool e
  obtain ⟨u,us',e2,h4,_⟩:=h1.uncons
  simp [Value.cells] at e2
  rw [←e2.1] at h4
  exact ⟨.one _,_,h4,by unfold a5r;rw [e];exact h2,h3⟩
 ·rename_i k e
  obtain ⟨b,rfl⟩:=okWide_int e hv
  obtain ⟨b',rfl,_,rfl⟩:=h2.unint e
  obtain ⟨u,us',e2,h4,_⟩:=h1.uncons
  simp [Value.cells] at e2
  rw [←e2.1] at h4
  exact ⟨.one _,_,h4,by unfold a5r;rw [e];exact h2,h3⟩
 ·rename_i e
  obtain ⟨b,rfl⟩:=okWide_string e hv
  obtain ⟨b',rfl,_,rfl⟩:=h2.unstr e
  obtain ⟨u,us',e2,h4,_⟩:=h1.uncons
  simp [Value.cells] at e2
  rw [←e2.1] at h4
  exact ⟨.one _,_,h4,by unfold a5r;rw [e];exact h2,h3⟩
 ·rename_i el e
  obtain ⟨a,len,cap,rfl⟩:=okWide_slice e hv
  obtain ⟨rows,ms,rfl,_,_,rfl,_⟩:=h2.unsl e
  obtain ⟨u,us',e2,h4,_⟩:=h1.uncons
  simp [Value.cells] at e2
  rw [←e2.1] at h4
  exact ⟨.one _,_,h4,by unfold a5r;rw [e];exact h2,h3⟩
 ·rename_i fs e
  obtain ⟨cs,rfl,_⟩:=okWide_struct e hv
  exact ⟨.ag ds,m,⟨cs.toList,by simp,h1⟩,by unfold a5r;rw [e];exact h2,h3⟩
 ·cases hk
end
theorem law_true {f:Nat} {rs:List R} (h:o9 f rs [.one (.sc (.bool true))]) {w:World} {args:List Value} (hat:a5u (Low w) w args rs) (hT:b5p (fun _=>False) w:=by exact fun _ h=>nomatch h):Calls Tryz.prog f args.toArray w fun e w'=>e=.returned (.bool true)∧Below w.heap.size w w':=by
 refine (h.2 (Low w) w args ⟨fun _ _ h=>h,hT⟩ hat).mono ?_
 rintro e w' ⟨v,rfl,hv,hb⟩
 cases hv
 exact ⟨rfl,hb⟩
end
end Go.Proofs.YtahpnackkmbmgaaGreat.Vm
end
section
namespace Go.Proofs.YtahpnackkmbmgaaGreat.Vm
open Go.RowKit
set_option maxRecDepth 100000
set_option maxHeartbeats 4000000
theorem b9E {α:Type} (f:α→List D) (Q:α→Nat→Prop) (hQ:∀x m n,m≤n→Q x m→Q x n) (hpos:∀x m,Q x m→1≤m) {tl te:Nat} (hu:Tryz.prog.underlying tl=some (.slice te)) (h:∀ds m,Deep Tryz.prog te ds m→∃x,ds=f x∧Q x m) {r:R} {m:Nat} (hd:a5r Tryz.prog tl r m) :
  ∃l:List α,r=.one (.sl (Tryz.prog.cellsOf te) (l.map f))∧l.length≤m∧∀x∈l,Q x m:=by
 have hd:∃x,r=.one x∧Deep Tryz.prog tl [x] m:=by
  unfold a5r at hd
  rw [hu] at hd
  cases r with
  | one x=>exact ⟨x,rfl,hd⟩
  | ag xs=>exact hd.elim
 obtain ⟨x,rfl,hx⟩:=hd
 obtain ⟨rows,ks,e,hl,hb,rfl,hr⟩:=hx.unsl hu
 injection e with e _
 subst e
 have key:∀(rows:List (List D)) (ks:List Nat),ks.length=rows.length→(∀(i:Nat) (r:List D) (m:Nat),rows[i]?=some r→ks[i]?=some m→Deep Tryz.prog te r m)→∃l:List α,rows=l.map f∧l.length≤ks.sum∧∀x∈l,Q x ks.sum:=by
  intro rows
  induction rows with
  | nil=>intro ks hl _;exact ⟨[],rfl,d3t _,by simp⟩
  | cons r rows ih =>
   intro ks hl hr
   match ks,hl with
   | k::ks,hl =>
    obtain ⟨t,e1,e2⟩:=h r k (hr 0 r k rfl rfl)
    obtain ⟨l,f1,f2,f3⟩:=ih ks (by simpa using hl) fun i r' m' hi hm=>hr (i+1) r' m' (by simpa using hi) (by simpa using hm)
    have hp:=hpos t k e2
    refine ⟨t::l,by rw [e1,f1];rfl,by rw [d2X,d49];omega,fun x hx=>?_⟩
    rw [d49]
    rcases d3d.1 hx with rfl|hx
    ·exact hQ _ _ _ (by omega) e2
    ·exact hQ _ _ _ (by omega) (f3 x hx)
 obtain ⟨l,h1,h2,h3⟩:=key rows ks hl hr
 rw [h1]
 exact ⟨l,rfl,by omega,fun x hx=>hQ _ _ _ (by omega) (h3 x hx)⟩
theorem b9F:Tryz.prog.cellsOf 5=1:=by kernel_rfl
theorem b5f {r:R} {m:Nat} (h:a5r Tryz.prog 22 r m):∃l:List UInt8,r=.one (.sl 1 (rU l))∧l.length≤m:=by
 obtain ⟨l,h1,h2,_⟩:=b9E (fun c:UInt8=>[D.sc (.int .u8 (c.toNat:Int))]) (fun _ m=>1≤m) (fun _ m n hmn h=>by omega) (fun _ m h=>h) Tryz.underlying22 (fun ds m hd=>by
  obtain ⟨n,e1,e2,e3⟩:=hd.unint Tryz.underlying5
  have hb:0≤n∧n≤255:=by
   simp [Lit.wf] at e2
   first|exact e2|omega|(simp [IntKind.wrap,IntKind.bits] at e2;omega)
  refine ⟨UInt8.ofNat n.toNat,?_,by omega⟩
  have:((UInt8.ofNat n.toNat).toNat:Int)=n:=by rw [d5w];omega
  rw [this]
  exact e1) h
 rw [b9F] at h1
 exact ⟨l,h1,h2⟩
section
theorem b9G {w:World} {b T m:Nat} {cur:Array Value} (h:w.heap[b]?=some (.cells cur T (0,0))):(w.freeze ⟨b,m,none⟩ 1).heap[b]?=some (.cells cur T (m,m+1)):=by
 unfold World.freeze
 rw [d2T (by decide)]
 simp only [d4B,d4S,h]
 simp
theorem b0y {w:World} {b m c:Nat} (hc:c≠b):(w.freeze ⟨b,m,none⟩ 1).heap[c]?=w.heap[c]?:=by
 unfold World.freeze
 rw [d2T (by decide)]
 simp only [d4B]
 rw [d2T (d4R hc)]
theorem b9H (w:World) (b m:Nat):(w.freeze ⟨b,m,none⟩ 1).os=w.os∧(w.freeze ⟨b,m,none⟩ 1).tape=w.tape∧(w.freeze ⟨b,m,none⟩ 1).output=w.output∧(w.freeze ⟨b,m,none⟩ 1).heap.size=w.heap.size:=by
 unfold World.freeze
 rw [d2T (by decide)]
 exact ⟨rfl,rfl,rfl,by simp⟩
theorem b9I {t:Nat} {x:Operand} {d:Option Nat} {s:S} {K:S→Prop} {k e:Nat} {z:Bool} {rows:List (List D)} (ht:j5 t=true) (hby:a3U t=true) (he:(ty t).elem=some e) (hx:s.get x=.own k) (hk:A9 s.o k=.row z e rows) (hne:rows≠[])
  (hK:K (S.put ⟨s.t,J5 s.o k .dead⟩ d (.d (.sl (ty e).sz rows)))):f7.ext (.convert t t x) d s K:=by
 rintro I0 X w0 a w o Q ho hdst hop ⟨I,g,h⟩
 obtain ⟨I2,h2,hI⟩:=h.freeze k
 have hf:c0i s.o k=J5 s.o k (.row true e rows):=by unfold c0i;rw [hk]
 rw [hf] at h2
 have hk0:=B4 hk (by simp)
 have hlt:k<s.o.length:=(d2Q.1 hk0).1
 have hk2:(J5 s.o k (.row true e rows))[k]?=some (.row true e rows):=by rw [H4,d30 hlt]
 have hv:AtV I2 w g (a.eval x) (.own k):=by have:=h.get x;rw [hx] at this;exact this.mono hI (B7.refl _ _)
 have hk3:A9 (J5 s.o k (.row true e rows)) k=.row true e rows:=by
  have:∀(l:List O) (k:Nat) (o:O),l[k]?=some o→A9 l k=o:=by
   intro l
   induction l with
   | nil=>intro k o h;simp at h
   | cons y l ih=>intro k o h;cases k with|zero=>simp at h;exact h|succ k=>exact ih k o (by simpa using h)
  exact this _ _ _ hk2
 have hat:AtD I2 w (a.eval x) (.sl (ty e).sz rows):=a8I h2 hv (by show (match A9 (J5 s.o k (.row true e rows)) k with|.row true e rows=>some (D.sl (ty e).sz rows)|_=>none)=_;rw [hk3])
 obtain ⟨us,hown,hrl,hdr,hbk⟩:=h2.obj k _ hk2
 have hgv:a.eval x=g k:=hv.unown.1.trans (a28 hown)
 rcases hown.2 with ⟨_,hz⟩|⟨b,cap,cur,e0,_,hb,hnc,hcm,hcs,htake⟩
 ·exact absurd (d3w hz) hne
 obtain ⟨e',he',hke,hkk⟩:=a4F hby
 rw [he] at he'
 obtain rfl:e=e':=Option.some.inj he'
 have hrun:(convert t t (a.eval x)).run Tryz.prog w=.ok (a.eval x) (w.freeze ⟨b,cur.size,none⟩ 1):=by
  have hsh:w.shape? b=some (e,cur.size):=by simp [World.shape?,hb]
  rw [hgv,e0]
  simp [convert,run_underlying (M1 ht he),run_underlying (a6X hke hkk),markStringish,hsh,Result.andThen]
 obtain ⟨f1,f2,f3,f4⟩:=b9H w b cur.size
 have hgb:gbl (g k) b:=by rw [e0];rfl
 have hcell:∀i,(w.freeze ⟨b,cur.size,none⟩ 1).cell? ⟨b,i,none⟩=w.cell? ⟨b,i,none⟩:=fun i=>by
  rw [c1c hb]
  unfold World.cell?
  rw [b9G hb]
  simp
 have h3:=h2.deadTo (k:=k) (o:=.row true e rows) hk2 (by simp) (w':=w.freeze ⟨b,cur.size,none⟩ 1) hgb f1 f2 f3 f4 (fun c hc=>b0y hc) hcell
 have hkp:B7 I2 w (w.freeze ⟨b,cur.size,none⟩ 1):=fun b' n hb' i hi=>by
  by_cases eb:b'=b
  ·subst eb;exact hcell i
  ·exact a3T (b0y eb) i
 have hso:(J5 s.o k (.row true e rows)).set k .dead=J5 s.o k .dead:=by rw [H4,H4,List.set_set]
 rw [hso] at h3
 unfold Oper.wp
 have hex:(execOp a.eval o).run Tryz.prog w=.ok (.value (a.eval x)) (w.freeze ⟨b,cur.size,none⟩ 1):=by
  unfold execOp
  rw [ho]
  simp only [Sem.run_bind,hrun,Result.andThen_ok,Sem.run_pure]
 rw [hex,Oper.upon_value,hdst]
 exact ⟨_,⟨I2,g,h3.put (.d (hat.mono (fun _ _ h=>h) hkp)) _⟩,hK⟩
section
variable {qa:_} {qb:_} {qc:_} {qd:_} {qe:_} {qg:_} {qh:_} {qi:_} {qj:_} {qk:_} {ql:_} {qm:_} {qo:_} {qp:_} {qq:_} {qt:_} {qu:_} {qv:_} {qw:_} {qx:_} {qy:_} {qz:_} {va:_} {vc:_} {vd:_} {ve:_} {vf:_} {vg:_} {vh:_} {vj:_} {vk:_} {vl:_} {vm:_} {vn:_} {vo:_} {vp:_} {vq:_} {vr:_} {vt:_} {vu:_} {vv:_} {vw:_} {vx:_} (hA:Ar.mk qa qb qc qd qe qg qh qi qj qk ql qm qo qp qq qt qu qv qw qx qy qz va vc vd ve vf vg vh vj vk vl vm vn vo vp vq vr vt vu vv vw vx=f7)
include hA
theorem c5x {t:Nat} {x:Operand} {d:Option Nat} {s:S} {K:S→Prop} (k e:Nat) {z:Bool} {rows:List (List D)} (ht:j5 t=true) (hby:a3U t=true) (he:(ty t).elem=some e) (hx:s.get x=.own k) (hk:A9 s.o k=.row z e rows) (hne:rows≠[])
  (hK:K (S.put ⟨s.t,J5 s.o k .dead⟩ d (.d (.sl (ty e).sz rows)))):vv (.convert t t x) d s K:=c62 hA (b9I ht hby he hx hk hne hK)
end
end
def l6:List UInt8:=[102,32,120,46,97,32,43,32,49]
def b6:List (List D):=[[.sc (.int .u8 102)],[.sc (.int .u8 32)],[.sc (.int .u8 120)],[.sc (.int .u8 46)],[.sc (.int .u8 97)],[.sc (.int .u8 32)],[.sc (.int .u8 43)],[.sc (.int .u8 32)],[.sc (.int .u8 49)]]
def t6:Tm:=.mk 40 ⟨#[43]⟩ ⟨#[]⟩ 0 false (.mk 0 ⟨#[]⟩ 0 []) [.mk 37 ⟨#[]⟩ ⟨#[]⟩ 0 false (.mk 0 ⟨#[]⟩ 0 []) [.mk 32 ⟨#[102]⟩ ⟨#[]⟩ 0 false (.mk 0 ⟨#[]⟩ 0 []) [],.mk 43 ⟨#[97]⟩ ⟨#[]⟩ 0 false (.mk 0 ⟨#[]⟩ 0 []) [.mk 32 ⟨#[120]⟩ ⟨#[]⟩ 0 false (.mk 0 ⟨#[]⟩ 0 []) []]],.mk 33 ⟨#[]⟩ ⟨#[]⟩ 1 false (.mk 0 ⟨#[]⟩ 0 []) []]
def c6:List D:=[.sc (.int .u8 40),.sc (.string ⟨#[43]⟩),.sc (.string ⟨#[]⟩),.sc (.int .i64 0),.sc (.bool false),.sc (.int .u8 0),.sc (.string ⟨#[]⟩),.sc (.int .i64 0),.sl 4 [],.sl 10 [[.sc (.int .u8 37),.sc (.string ⟨#[]⟩),.sc (.string ⟨#[]⟩),.sc (.int .i64 0),.sc (.bool false),.sc (.int .u8 0),.sc (.string ⟨#[]⟩),.sc (.int .i64 0),.sl 4 [],.sl 10 [[.sc (.int .u8 32),.sc (.string ⟨#[102]⟩),.sc (.string ⟨#[]⟩),.sc (.int .i64 0),.sc (.bool false),.sc (.int .u8 0),.sc (.string ⟨#[]⟩),.sc (.int .i64 0),.sl 4 [],.sl 10 []],[.sc (.int .u8 43),.sc (.string ⟨#[97]⟩),.sc (.string ⟨#[]⟩),.sc (.int .i64 0),.sc (.bool false),.sc (.int .u8 0),.sc (.string ⟨#[]⟩),.sc (.int .i64 0),.sl 4 [],.sl 10 [[.sc (.int .u8 32),.sc (.string ⟨#[120]⟩),.sc (.string ⟨#[]⟩),.sc (.int .i64 0),.sc (.bool false),.sc (.int .u8 0),.sc (.string ⟨#[]⟩),.sc (.int .i64 0),.sl 4 [],.sl 10 []]]]]],[.sc (.int .u8 33),.sc (.string ⟨#[]⟩),.sc (.string ⟨#[]⟩),.sc (.int .i64 1),.sc (.bool false),.sc (.int .u8 0),.sc (.string ⟨#[]⟩),.sc (.int .i64 0),.sl 4 [],.sl 10 []]]]
theorem d0L:cM t6=c6:=by kernel_rfl
theorem d0M:rU l6=b6:=by kernel_rfl
theorem d0N:pxW l6=(t6,[0,0,0,2,2,8],0,0):=by kernel_rfl
theorem b6z:∃(K P:List (List D)) (x1 x2 x3 x4 x5 x6 x7 x8 x9:D),o9 7 [.one (.sl 1 b6)] [.ag [.sc (.int .u8 40),.sc (.string ⟨#[43]⟩),.sc (.string ⟨#[]⟩),.sc (.int .i64 0),.sc (.bool false),.sc (.int .u8 0),.sc (.string ⟨#[]⟩),.sc (.int .i64 0),.sl 4 [],.sl 10 K],.one (.sl 1 P),.one (.sc (.int .i64 0)),.one (.sc (.int .u8 0))]∧K.length=2∧K[0]?=some [.sc (.int .u8 37),x1,x2,x3,x4,x5,x6,x7,x8,x9]∧P.length=6:=by
 have h:=(d0I l6 (by decide)).1
 rw [d0N,d0M] at h
 have h:PxN b6 (cM t6) (rZ [0,0,0,2,2,8]) 0 0:=h
 rw [d0L] at h
 exact ⟨_,_,_,_,_,_,_,_,_,_,_,h,rfl,rfl,rfl⟩
theorem b9J:o9 6 [] [.one (.sc (.bool true))]:=by
 obtain ⟨K,P,x1,x2,x3,x4,x5,x6,x7,x8,x9,h1,hK,hg,hP⟩:=b6z
 unfold b6 at h1
 refine N2 Tryz.func6 rfl ?_;intro qa _ _ _ _ _ _ _ _ qk _ _ _ _ _ _ _ _ _ _ _ _ va vc;intros;rename_i hA
 obtain ⟨e1,e2,e3,e4,e5,e6,e7,e8,e9⟩:=j7 hA
 obtain ⟨r1,r2,r3,r4⟩:=A8 hA
 cbv;refine gn ?_
 refine A6 hA false ?_
 cbv
 refine a1E hA true ?_
 cbv
 refine c5x hA 0 5 (by kernel_rfl) (by kernel_rfl) rfl rfl rfl (by simp) ?_
 cbv
 have q1:qk (qa .i64 0) 0=true:=by rw [e9,e1];rfl
 have q2:qk (va K) 2=true:=by rw [e9,r1,hK];rfl
 have q3:qk (va P) 6=true:=by rw [e9,r1,hP];rfl
 have q4:vc K 0=some [.sc (.int .u8 37),x1,x2,x3,x4,x5,x6,x7,x8,x9]:=by rw [r2,d2S (by omega)];exact hg
 iterate 2 (try cbv;repeat ((first|with_reducible apply f8 hA|rw [q1]|rw [q2]|rw [q3]|rw [q4]|refine f9 hA _ h1 rfl ?_|refine i7 hA _ h1 ?_|rw [ebr hA]);cbv))
theorem d24 (l:List UInt8):o9 3 [.one (.sl 1 (rU l))] [.one (.sc (.bool true))]:=by
 have hal:=b9J
 have hln:=c6D l
 by_cases h5:3000<l.length
 ·generalize rU l=B at *
  refine N2 Tryz.func3 rfl fun qa qb qc qd qe qg qh qi qj qk ql qm qo qp qq qt qu qv qw qx qy qz va vc vd ve vf vg vh vj vk vl vm vn vo vp vq vr vt vu vv vw vx hA=>?_
  obtain ⟨e1,e2,e3,e4,e5,e6,e7,e8,e9⟩:=j7 hA
  obtain ⟨r1,r2,r3,r4⟩:=A8 hA
  have q:qi 3000 (va B)=true:=by rw [e7,r1,hln];exact d3a (by omega)
  iterate 2 (try cbv;repeat ((first|with_reducible apply f8 hA|rw [q]|refine f9 hA _ hal rfl ?_|refine i7 hA _ hal ?_);cbv))
 ·obtain ⟨hM,hR,hn,hg,hi⟩:=d0I l (by omega)
  have hc:=d0K l (b8b (Y7 l) _ 0 false [] (d3b _))
  generalize pxW l=w at *
  obtain ⟨t,ps,p,c⟩:=w
  have h1:=c3m t hn hg
  have h2:=c5w ps hi
  replace hc:0≤c∧c≤7:=hc
  unfold PxN at hM
  unfold RxN at hR
  dsimp only at hM hR
  obtain ⟨d0,d1,d2,d3,d4,d5,d6,d7,d8,d9,hd⟩:=a4v t
  rw [hd] at hM hR h1
  generalize rZ ps=X at *
  generalize rU l=B at *
  refine N2 Tryz.func3 rfl fun qa qb qc qd qe qg qh qi qj qk ql qm qo qp qq qt qu qv qw qx qy qz va vc vd ve vf vg vh vj vk vl vm vn vo vp vq vr vt vu vv vw vx hA=>?_
  obtain ⟨e1,e2,e3,e4,e5,e6,e7,e8,e9⟩:=j7 hA
  obtain ⟨r1,r2,r3,r4⟩:=A8 hA
  have q:qi 3000 (va B)=false:=by rw [e7,r1,hln];exact d2U (by omega)
  have q2:qk (qa .i64 c) c=true:=by rw [e9,e1,IntWalk.i64_in _ (by omega)];exact d3a rfl
  iterate 2 (try cbv;repeat ((first|with_reducible apply f8 hA|rw [q]|rw [q2]|refine f9 hA _ hal rfl ?_|refine i7 hA _ hal ?_|refine f9 hA _ hM rfl ?_|refine i7 hA _ hM ?_|refine f9 hA _ hR rfl ?_|refine i7 hA _ hR ?_|refine f9 hA _ h1 rfl ?_|refine i7 hA _ h1 ?_|refine f9 hA _ h2 rfl ?_|refine i7 hA _ h2 ?_|rw [ebr hA]);cbv))
theorem PE_up {r0:R} {m0:Nat} (d0:a5r Tryz.prog 22 r0 m0):o9 3 [r0] [.one (.sc (.bool true))]:=by
 obtain ⟨l,rfl,_⟩:=b5f d0
 exact d24 l
end Go.Proofs.YtahpnackkmbmgaaGreat.Vm
end

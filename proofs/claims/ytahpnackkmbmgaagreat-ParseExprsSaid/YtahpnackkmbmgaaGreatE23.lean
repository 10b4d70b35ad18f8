/- Part 23 of the proof. Conditions: none. -/
import Derived.Test.YtahpnackkmbmgaaGreatE4
import Derived.Test.YtahpnackkmbmgaaGreatE10
import Derived.Test.YtahpnackkmbmgaaGreatE21
import Derived.Test.YtahpnackkmbmgaaGreatE22
import Derived.Test.YtahpnackkmbmgaaGreatE0
set_option linter.all false
set_option linter.unusedVariables false
set_option linter.unusedSimpArgs false
section
namespace Go.Proofs.YtahpnackkmbmgaaGreat.Vm
open Go.RowKit
set_option maxRecDepth 100000
set_option maxHeartbeats 4000000
section
theorem a5Q {ts:List Tok} {a:Nat} (h:(j6 ts a).kind=1):i9 ts (a,0)=((j6 ts a).text,(a+1,0)):=by unfold i9;rw [d2S ⟨rfl,h⟩]
theorem a78 {ts:List Tok} {a:Nat} (h:(j6 ts a).kind≠1):i9 ts (a,0)=(F8,(a,5)):=by unfold i9;rw [d2T (fun hh=>h hh.2)];rfl
theorem b3n {ts:List Tok} {p:PE} (h:p.2≠0):i9 ts p=(F8,p):=by unfold i9 E7;rw [d2T (fun hh=>h hh.1),d2S h]
theorem b1S:∀ {l:List (PL×PE)},(∀g∈l,g.2.2=0)→a1J l=none
 | [],_=>rfl
 | g::l,h=>by rw [a1J,d2S (h g (d2V ..)),b1S fun x hx=>h x (d2W _ hx)]
def d0D (ts:List Tok) (ex:PF) (p0:Nat) (rr:List PL×PE):IvC:=fun K n b m=>∃(ks:List (PL×PE)) (q:Nat),K=ks.map cG∧n=(q:Int)∧SzC ts p0 (ks.map fun g=>g.1,(q,0))∧(∀g∈ks,g.2.2=0)∧1≤ks.length∧m=ts.length - q ∧
 ((b=true∧rr=(ks.map fun g=>g.1,(q,0)))∨(b=false∧∃j,ts.length - q≤j∧rr=chL ts ex j (decide (ks.length=1)) (ks.map fun g=>g.1,(q,0))))
section
variable {ts:List Tok} (hE:o5 ts) (hl:ts.length≤65537) {ex:PF} {L:Int} (hx:∀a:Nat,a<ts.length→ExN (C9 ts) a (L+1) (cG (cl (ex (a,0))))) (he:∀p:PE,p.2≠0→ex p=(zPL,p)) (hf:B8 ts ex)
include hE hl hx he hf
theorem c5W {R:List D} {inv:IvC} {K:List (List D)} {m i:Nat} {op:Int} {nm:ByteArray} {pl:Int} {w:Nat} {b:Bool} (hw:w+1<ts.length) (A:PL×PE) (hA:A=(s8 op nm (i9 ts (w+1,0)).1 pl [(ex (j0 ts Q5 (i9 ts (w+1,0)).2)).1],(ex (j0 ts Q5 (i9 ts (w+1,0)).2)).2))
  (h1:A.2.2≠0→R=zG A.2.1 A.2.2) (h2:A.2.2=0→inv (K++[cG A]) A.2.1 b i∧i<m):c8h (C9 ts) (L+1) R inv K m op nm pl ((w+1:Nat):Int) b (w:Int):=by
 have n5:(5:Int)≠0:=by decide
 refine ⟨_,_,_,_,wI1 (by omega),a0o hw,?_⟩
 by_cases hk:(j6 ts (w+1)).kind=1
 ·have k2:=hE _ hw (by rw [hk];decide)
  rw [a5Q hk] at hA
  have h5:=c8b hE hl hx he Q5 (b:=w+2) k2
  obtain ⟨c1,_,_⟩:=j8 (s:=Q5) hE (p:=(w+2,0)) k2
  have hz:=K9 hf hl c1
  have hA:A=(s8 op nm (j6 ts (w+1)).text pl [(ex (j0 ts Q5 (w+2,0))).1],(ex (j0 ts Q5 (w+2,0))).2):=hA
  generalize ex (j0 ts Q5 (w+2,0))=e at *
  obtain ⟨y,hy⟩:=E4 e
  rw [hy] at h5
  have hA2:A.2=e.2:=by rw [hA]
  rw [hA2] at h1 h2
  refine .inr ⟨_,_,_,y,by rw [hk];rfl,wI2 (by omega),h5,?_⟩
  by_cases h0:e.2.2=0
  ·have o0:=a8h (op:=op) (nm:=nm) (ar:=(j6 ts (w+1)).text) (n:=0) (p:=pl) (m:=e.2.1) (ks:=[cl e]) (by simp) (by simp only [d3j,d3m,d3f];have:=Q0 e;omega)
   have e5:cl (y8 op nm (j6 ts (w+1)).text 0 false r7 pl [e.1],e.2)=(y8 op nm (j6 ts (w+1)).text 0 false r7 pl [e.1],e.2):=a2y h0
   rw [nd1,e5] at o0
   have o0:NdN op nm (j6 ts (w+1)).text 0 pl e.2.1 ([cl e].map cG) (cG A):=by rw [hA];exact o0
   obtain ⟨z,-,hz⟩:=a4x A
   rw [d3c,d35,hy,hz,h0] at o0
   obtain ⟨i1,i2⟩:=h2 h0
   rw [hz] at i1
   exact .inr ⟨_,_,z,i,h0,o0,i1,i2⟩
  ·exact .inl ⟨d2Y h0,by rw [h1 h0,←a0w h0,hy]⟩
 ·rw [a78 hk] at hA
  have e1:ex (j0 ts Q5 (w+1,5))=(zPL,(w+1,5)):=by rw [B9 (p:=(w+1,5)) n5];exact he _ n5
  have hA2:A.2=(w+1,5):=by rw [hA];show (ex (j0 ts Q5 (w+1,5))).2=_;rw [e1]
  rw [hA2] at h1
  exact .inl ⟨d2Y hk,K8 _ _,h1 n5⟩
theorem d0E {R:List D} {inv:IvC} {K:List (List D)} {m i:Nat} {q:Nat} (hq:q<ts.length) (h1:(G3 ts ex (q,0)).2.2≠0→R=zG (G3 ts ex (q,0)).2.1 (G3 ts ex (q,0)).2.2) (h2:(G3 ts ex (q,0)).2.2=0→inv (K++[cG (G3 ts ex (q,0))]) (G3 ts ex (q,0)).2.1 (A2 ts J4 (q,0)) i∧i<m):c5j (C9 ts) (L+1) R inv K m (q:Int):=by
 have n5:(5:Int)≠0:=by decide
 refine ⟨_,_,_,((q+1:Nat):Int),_,a0o hq,?_⟩
 by_cases s1:L7 (j6 ts q) J4=true
 ·have hs:A2 ts J4 (q,0)=true:=by rw [E8];exact s1
  rw [hs] at h2
  exact .inl ⟨sgy hq hl s1,c5W hE hl hx he hf (hE _ hq (by rw [F0 s1];decide)) (G3 ts ex (q,0)) (by conv=>lhs;unfold G3;rw [d2S hs]) h1 h2⟩
 ·have hs:A2 ts J4 (q,0)=false:=by rw [E8];simpa using s1
  rw [hs] at h2
  refine .inr ⟨sgn hq hl s1,?_⟩
  by_cases hk:(j6 ts q).kind=1
  ·refine .inr ⟨by rw [hk];rfl,c5W hE hl hx he hf (hE _ hq (by rw [hk];decide)) (G3 ts ex (q,0)) (by conv=>lhs;unfold G3;rw [d2T (by rw [hs];decide),a5Q hk]) h1 h2⟩
  ·have e1:(G3 ts ex (q,0)).2=(q,5):=by
    unfold G3
    rw [d2T (by rw [hs];decide),a78 hk]
    show (ex (j0 ts Q5 (i9 ts (q,5)).2)).2=_
    rw [b3n (p:=(q,5)) n5,B9 (p:=(q,5)) n5,he _ n5]
   rw [e1] at h1
   exact .inl ⟨d2Y hk,K8 _ _,h1 n5⟩
theorem d2n (hL:0≤L∧L≤200) {a:Nat} (ha:a+1<ts.length):E6N 137 (C9 ts) a L (cG (cl (Y0 ts ex (j6 ts a).at_ (a+1,0)))):=by
 have n5:(5:Int)≠0:=by decide
 have h8:=hx (a+1) ha
 have hfe:=hf (a+1,0) ha
 have hsz0:=(b3j hE hf (p:=(a+1,0)) ha).1
 unfold Y0
 generalize ex (a+1,0)=e at *
 have hvi:=hfe.hi
 obtain ⟨x,hxe⟩:=E4 e
 rw [hxe] at h8
 by_cases h0:e.2.2=0
 ·rw [h0] at h8 hxe
  by_cases h1:L7 (j6 ts e.2.1) a4Z=true
  ·have k1:=hE _ hvi (by rw [F0 h1];decide)
   rw [T9 h0 h1] at hsz0 ⊢
   obtain ⟨rr,hrr⟩:∃rr,rr=chL ts ex ts.length true ([e.1],(e.2.1+1,0)):=⟨_,rfl⟩
   rw [←hrr]
   obtain ⟨R,hR⟩:∃R,R=cG (cl (s8 48 ⟨#[]⟩ ⟨#[]⟩ (j6 ts a).at_ rr.1,j0 ts Z7 rr.2)):=⟨_,rfl⟩
   rw [←hR]
   have hRe:rr.2.2≠0→R=zG rr.2.1 rr.2.2:=fun h=>by rw [hR,B9 h];exact a0w (g:=(_,rr.2)) h
   refine c2V (inv:=d0D ts ex (a+1) rr) (m0:=ts.length - (e.2.1+1)) (wI1 (by omega)) (wIL hL.1 (by omega)) h8 (sgy hvi hl h1) (wI1 (by omega)) (a0o (by omega)) ⟨[cl e],e.2.1+1,by rw [d3c,d35,hxe],rfl,by rw [a2y h0];exact hsz0,fun g hg=>by rw [d33.1 hg,d04];exact h0,d3b _,rfl,.inr ⟨rfl,ts.length,by omega,by rw [hrr,a2y h0];rfl⟩⟩ ?_
   rintro K n b m ⟨ks,q,rfl,rfl,hsz,hk0,hk1,rfl,hend⟩
   have hqi:=hsz.hi
   have hlen:((ks.map fun g=>g.1):List PL).length=ks.length:=d3o ..
   have stop:rr=(ks.map fun g=>g.1,(q,0))→∃(z:Nat→D) (z1 z2 y1 y2:Int) (y:Nat→D),NdN 48 ⟨#[]⟩ ⟨#[]⟩ 0 (j6 ts a).at_ (q:Int) (ks.map cG) (gG z z1 z2)∧ClN (C9 ts) z z1 z2 Z7 (gG y y1 y2)∧R=gG y y1 y2:=fun hr=>by
    have o0:=a8h (op:=48) (nm:=⟨#[]⟩) (ar:=⟨#[]⟩) (n:=0) (p:=(j6 ts a).at_) (m:=q) (ks:=ks) (by have:=hsz.ln;rw [hlen] at this;simp only at this hqi;omega) (by
     have h3:=hsz.sz
     unfold chN at h3
     simp only [List.flatMap_map] at h3
     simp only at hqi
     omega)
    unfold ndW at o0
    rw [b1S hk0] at o0
    have hc:=b4U hE hl Z7 (g:=(s8 48 ⟨#[]⟩ ⟨#[]⟩ (j6 ts a).at_ (ks.map fun g=>g.1),(q,0))) hqi
    rw [a2y (r:=(_,(q,0))) rfl] at hc
    rw [hr] at hR
    obtain ⟨z,-,hz⟩:=a4x (s8 48 ⟨#[]⟩ ⟨#[]⟩ (j6 ts a).at_ (ks.map fun g=>g.1),(q,0))
    obtain ⟨y,hy⟩:=E4 (s8 48 ⟨#[]⟩ ⟨#[]⟩ (j6 ts a).at_ (ks.map fun g=>g.1),j0 ts Z7 (q,0))
    have o0:NdN 48 ⟨#[]⟩ ⟨#[]⟩ 0 (j6 ts a).at_ (q:Int) (ks.map cG) (cG (s8 48 ⟨#[]⟩ ⟨#[]⟩ (j6 ts a).at_ (ks.map fun g=>g.1),(q,0))):=o0
    rw [hz] at o0 hc
    rw [hy] at hc hR
    exact ⟨z,_,_,_,_,y,o0,hc,hR⟩
   rcases hend with ⟨rfl,hr⟩|⟨rfl,j,hj,hr⟩
   ·exact .inl ⟨.inl rfl,stop hr⟩
   by_cases s1:L7 (j6 ts q) Z7=true
   ·rw [a75 (fun h=>by rw [s1] at h;exact absurd h.2 (by decide))] at hr
    exact .inl ⟨.inr ⟨rfl,sgy hqi hl s1⟩,stop hr⟩
   ·refine .inr ⟨rfl,sgn hqi hl s1,by have:=hsz.ln;rw [hlen] at this;rw [d3o];simp only at this hqi;omega,?_⟩
    obtain ⟨j,rfl⟩:∃j',j=j'+1:=⟨j - 1,by simp only at hqi;omega⟩
    rw [chL,d2S ⟨rfl,by simpa using s1⟩] at hr
    have hst:=b3h hE hf he (f:=decide (ks.length=1)) hsz rfl
    have arm:∀q',chQ ts (decide (ks.length=1)) (q,0)=(q',0)→c5j (C9 ts) (L+1) R (d0D ts ex (a+1) rr) (ks.map cG) (ts.length - q) (q':Int):=fun q' hq'=>by
     have hr':rr=if A2 ts J4 (q',0)=true then ((ks.map fun g=>g.1)++[(G3 ts ex (q',0)).1],(G3 ts ex (q',0)).2) else chL ts ex j false ((ks.map fun g=>g.1)++[(G3 ts ex (q',0)).1],(G3 ts ex (q',0)).2):=by rw [hr];show (if A2 ts J4 (chQ ts (decide (ks.length=1)) (q,0))=true then _ else _)=_;rw [hq']
     have hst':(q'<ts.length)∧SzC ts (a+1) ((ks.map fun g=>g.1)++[(G3 ts ex (q',0)).1],(G3 ts ex (q',0)).2)∧q≤(G3 ts ex (q',0)).2.1∧((G3 ts ex (q',0)).2.2=0→q+1≤(G3 ts ex (q',0)).2.1):=by
      have h:=hst
      rw [show chQ ts (decide (ks.length=1)) (((ks.map fun g=>g.1),((q,0):PE)):List PL×PE).2=(q',0) from hq'] at h
      exact h
     obtain ⟨hq1,hs1,hs2,hs3⟩:=hst'
     refine d0E hE hl hx he hf (i:=ts.length - (G3 ts ex (q',0)).2.1) hq1 (fun h=>?_) (fun h=>?_)
     ·have e2:rr.2=(G3 ts ex (q',0)).2:=by
       rw [hr']
       split
       ·rfl
       ·rw [a75 (fun hh=>h hh.1)]
      rw [hRe (by rw [e2];exact h),e2]
     ·have e3:(G3 ts ex (q',0)).2=((G3 ts ex (q',0)).2.1,0):=d5v rfl h
      have hm:(((ks++[G3 ts ex (q',0)]).map fun g=>g.1):List PL)=(ks.map fun g=>g.1)++[(G3 ts ex (q',0)).1]:=by rw [d3Q];rfl
      refine ⟨⟨ks++[G3 ts ex (q',0)],(G3 ts ex (q',0)).2.1,by rw [d3Q];rfl,rfl,by rw [hm,←e3];exact hs1,fun g hg=>?_,by rw [d2R];omega,rfl,?_⟩,by have:=hs3 h;have:=hs1.hi;simp only at *;omega⟩
      ·rcases d38.1 hg with hg|hg
       ·exact hk0 g hg
       ·rw [d33.1 hg];exact h
      ·rw [hm,←e3]
       cases hsk:A2 ts J4 (q',0)
       ·rw [hsk,d2T (by decide)] at hr'
        refine .inr ⟨rfl,j,by have:=hs3 h;omega,?_⟩
        rw [hr',show decide ((ks++[G3 ts ex (q',0)]).length=1)=false from d2U (by rw [d2R,d4e];omega)]
       ·rw [hsk,d2S rfl] at hr'
        exact .inl ⟨rfl,hr'⟩
    by_cases hk:ks.length=1
    ·refine .inl ⟨by rw [d3o,hk];rfl,arm q ?_⟩
     unfold chQ
     rw [d2S (d3a hk)]
    ·refine .inr ⟨by rw [d3o];exact d3a (by omega),?_⟩
     have hcq:chQ ts (decide (ks.length=1)) (q,0)=j0 ts a7W (q,0):=by unfold chQ;rw [d2T (by rw [d2U hk];decide)]
     by_cases s2:L7 (j6 ts q) a7W=true
     ·exact .inr ⟨((q+1:Nat):Int),sgy hqi hl s2,wI1 (by simp only at hqi;omega),arm (q+1) (by rw [hcq,T9 rfl s2])⟩
     ·refine .inl ⟨sgn hqi hl s2,K8 _ _,?_⟩
      have hcq2:chQ ts (decide (ks.length=1)) (((ks.map fun g=>g.1),((q,0):PE)):List PL×PE).2=(q,5):=by show chQ ts _ (q,0)=_;rw [hcq,Y3 rfl s2]
      rw [hcq2,d2T (by rw [a0O n5];decide)] at hr
      have e1:(G3 ts ex (q,5)).2=(q,5):=by
       unfold G3
       rw [d2T (by rw [a0O n5];decide),b3n (p:=(q,5)) n5]
       show (ex (j0 ts Q5 (i9 ts (q,5)).2)).2=_
       rw [b3n (p:=(q,5)) n5,B9 (p:=(q,5)) n5,he _ n5]
      have e2:rr.2=(q,5):=by rw [hr,a75 (fun hh=>by rw [show ((_:List PL),(G3 ts ex (q,5)).2).2.2=5 by rw [e1]] at hh;exact n5 hh.1)];exact e1
      rw [hRe (by rw [e2];exact n5),e2]
  ·rw [Y3 h0 h1,a75 (fun hh=>n5 hh.1)]
   have e9:∀X:PL,cG (cl (X,j0 ts Z7 (e.2.1,5)))=zG e.2.1 5:=fun X=>by rw [B9 (p:=(e.2.1,5)) n5];exact a0w (g:=(X,(e.2.1,5))) n5
   rw [e9]
   exact d1L (wI1 (by omega)) (wIL hL.1 (by omega)) h8 (sgn hvi hl h1) (K8 _ _)
 ·rw [B9 h0,a75 (fun hh=>h0 hh.1)]
  have e9:∀X:PL,cG (cl (X,j0 ts Z7 e.2))=gG x e.2.1 e.2.2:=fun X=>by rw [B9 h0,a0w (g:=(X,e.2)) h0,←a0w h0,hxe]
  rw [e9]
  exact d1K (wI1 (by omega)) (wIL hL.1 (by omega)) h8 (d2Y h0)
end
end
section
section
variable {ts:List Tok} (hE:o5 ts) (hl:ts.length≤65537) {ex:PF} {L:Int} (hx:∀a:Nat,a<ts.length→ExN (C9 ts) a (L+1) (cG (cl (ex (a,0))))) (he:∀p:PE,p.2≠0→ex p=(zPL,p)) (hf:B8 ts ex)
include hE hl hx he hf
theorem d2o {n:Nat} (hv:T6 n L) (hn:1≤n) {a:Nat} (ha:a<ts.length):E6N 125 (C9 ts) a L (cG (cl (a0v ts n ex (a,0)))):=by
 have hL:0≤L∧L≤200:=by unfold T6 at hv;omega
 have n5:(5:Int)≠0:=by decide
 have tok:=a0o ha
 have leaf:∀(op:Int) (nm:ByteArray) (k:Int),∃z,cG (cl (J3 op nm k (j6 ts a).at_,(a+1,0)))=gG z ((a+1:Nat):Int) 0∧Nd0 op nm ⟨#[]⟩ k (j6 ts a).at_ ((a+1:Nat):Int) (gG z ((a+1:Nat):Int) 0):=fun op nm k=>by
  obtain ⟨z,-,hz⟩:=a4x (J3 op nm k (j6 ts a).at_,(a+1,0))
  have o0:=c8a (op:=op) (nm:=nm) (n:=k) (p:=(j6 ts a).at_) (m:=a+1)
  rw [hz] at o0
  exact ⟨z,by rw [a2y (r:=(J3 op nm k (j6 ts a).at_,(a+1,0))) rfl];exact hz,o0⟩
 unfold a0v
 rw [d2T (fun h=>h rfl)]
 by_cases k1:(j6 ts a).kind=1
 ·rw [d2S k1]
  obtain ⟨z,hz,o0⟩:=leaf 32 (j6 ts a).text 0
  rw [hz]
  exact c9K tok (by rw [k1];rfl) (wI1 (by omega)) o0
 rw [d2T k1]
 have b0:=d2Y k1
 by_cases k2:(j6 ts a).kind=2
 ·rw [d2S k2]
  obtain ⟨z,hz,o0⟩:=leaf 33 ⟨#[]⟩ (j6 ts a).n
  rw [hz]
  exact c9L tok b0 (by rw [k2];rfl) (wI1 (by omega)) o0
 rw [d2T k2]
 have b1:=d2Y k2
 have am:=b4T ha hl a6H (by decide)
 rw [n8] at am
 by_cases s1:A2 ts b4L (a,0)=true
 ·rw [d2S s1] at am ⊢
  obtain ⟨z,hz,o0⟩:=leaf 34 ⟨#[]⟩ 1
  rw [hz]
  exact c2p tok b0 b1 am (wI1 (by omega)) o0
 rw [d2T s1] at am ⊢
 rw [n8] at am
 by_cases s2:A2 ts b0p (a,0)=true
 ·rw [d2S s2] at am ⊢
  obtain ⟨z,hz,o0⟩:=leaf 34 ⟨#[]⟩ 0
  rw [hz]
  exact b9f tok b0 b1 am (wI1 (by omega)) o0
 rw [d2T s2] at am ⊢
 rw [n8] at am
 by_cases s3:A2 ts a0G (a,0)=true
 ·rw [d2S s3] at am ⊢
  have j1:=(o8 hE ha s3).1
  have h1:=hx (a+1) j1
  have hfe:=hf (a+1,0) j1
  have hz1:=K9 hf hl (p:=(a+1,0)) j1
  unfold a1e
  show E6N _ _ _ _ (cG (cl (if A2 ts a5P (ex (a+1,0)).2=true then _ else _)))
  generalize ex (a+1,0)=e at *
  have hvi:=hfe.hi
  obtain ⟨x,hxe⟩:=E4 e
  rw [hxe] at h1
  have hc:=b4U hE hl a0H hvi
  by_cases h0:e.2.2=0
  ·by_cases sc:L7 (j6 ts e.2.1) a5P=true
   ·rw [d2S (by unfold A2;rw [h0,sc];rfl)]
    have j2:=hE _ hvi (by rw [F0 sc];decide)
    obtain ⟨g,hg1,hg2⟩:=b6n hE hl (n - 1) (L+1) (a4T hv) (e.2.1+1) j2
    have hfw:=(P7 hE (n - 1) (e.2.1+1,0) j2).1
    have hhi:=hfw.hi
    have hk:P9 ts (n - 1) (e.2.1+1,0)=((K5 ts (n - 1) (e.2.1+1)).1,((K5 ts (n - 1) (e.2.1+1)).2.2.2,(K5 ts (n - 1) (e.2.1+1)).2.2.1)):=by unfold P9;rw [d2S rfl]
    rw [hk]
    unfold K5
    have hsp:=hfw.sp
    have hsz:=hfw.sz
    generalize n9 ts (n - 1) (e.2.1+1,0)=u at *
    obtain ⟨x4,hx4⟩:=a6E g
    rw [hx4] at hg1
    rw [h0] at h1 hxe
    by_cases hu:u.2.2=0
    ·rw [d2T (fun h=>h hu)]
     have hug:=hg2 hu
     have hcan:=b74 1048576 g (by rw [hug];simp only at hsz;omega) (d3b _) (fun x hxm=>by rw [hug] at hxm;exact hsp x hxm)
     obtain ⟨y4,hy4⟩:=a6E (y9 u.1)
     rw [hug,hy4,←hug,hx4] at hcan
     rw [hu] at hg1
     have o0:=c7Z (op:=51) (nm:=⟨#[]⟩) (ar:=⟨#[]⟩) (h:=true) (p:=(j6 ts a).at_) (m:=u.2.1) hy4 (ks:=[cl e]) (by simp) (by simp only [d3j,d3m,d3f];have:=Q0 e;omega)
     unfold ndW at o0
     rw [a1J,a2y h0,d2S h0,a1J] at o0
     have hc:=b4U hE hl a0H (g:=(y8 51 ⟨#[]⟩ ⟨#[]⟩ 0 true (y9 u.1) (j6 ts a).at_ [e.1],(u.2.1,0))) hhi
     rw [a2y (r:=(_,(u.2.1,0))) rfl] at hc
     show E6N _ _ _ _ (cG (cl (y8 51 ⟨#[]⟩ ⟨#[]⟩ 0 true (y9 u.1) (j6 ts a).at_ [e.1],j0 ts a0H (u.2.1,0))))
     obtain ⟨y,-,hy⟩:=a4x (y8 51 ⟨#[]⟩ ⟨#[]⟩ 0 true (y9 u.1) (j6 ts a).at_ [e.1],(u.2.1,0))
     obtain ⟨z,hz⟩:=E4 (y8 51 ⟨#[]⟩ ⟨#[]⟩ 0 true (y9 u.1) (j6 ts a).at_ [e.1],j0 ts a0H (u.2.1,0))
     have o0:NdA 51 ⟨#[]⟩ ⟨#[]⟩ true y4 (j6 ts a).at_ (u.2.1:Int) [cG e] (cG (y8 51 ⟨#[]⟩ ⟨#[]⟩ 0 true (y9 u.1) (j6 ts a).at_ [e.1],(u.2.1,0))):=o0
     rw [a2y h0] at hxe
     rw [hxe,hy] at o0
     rw [hy,hz] at hc
     rw [hz]
     exact c9N tok b0 b1 am (wI1 (by omega)) (wIL hL.1 (by omega)) h1 (sgy hvi hl sc) (wI1 (by omega)) hg1 hcan o0 hc
    ·rw [d2S hu]
     have e9:∀X:PL,cG (cl (X,j0 ts a0H (u.2.1,u.2.2)))=zG u.2.1 u.2.2:=fun X=>by rw [B9 (p:=(u.2.1,u.2.2)) hu];exact a0w (g:=(X,(u.2.1,u.2.2))) hu
     rw [e9]
     exact c7v tok b0 b1 am (wI1 (by omega)) (wIL hL.1 (by omega)) h1 (sgy hvi hl sc) (wI1 (by omega)) hg1 (d2Y hu) (K8 _ _)
   ·rw [d2T (by unfold A2;rw [h0];simpa using sc)]
    obtain ⟨z,hz⟩:=E4 (e.1,j0 ts a0H e.2)
    rw [hz] at hc ⊢
    rw [hxe,h0] at hc
    rw [h0] at h1
    exact c9M tok b0 b1 am (wI1 (by omega)) (wIL hL.1 (by omega)) h1 (sgn hvi hl sc) hc
  ·rw [d2T (by rw [a0O h0];decide)]
   obtain ⟨z,hz⟩:=E4 (e.1,j0 ts a0H e.2)
   rw [hz] at hc ⊢
   rw [hxe] at hc
   exact c7u tok b0 b1 am (wI1 (by omega)) (wIL hL.1 (by omega)) h1 (d2Y h0) hc
 rw [d2T s3] at am ⊢
 rw [n8] at am
 by_cases s4:A2 ts b0q (a,0)=true
 ·rw [d2S s4] at am ⊢
  have h1:=d2k hE hl hx he hf hL (o8 hE ha s4).1
  obtain ⟨z,hz⟩:=E4 (T8 ts ex (j6 ts a).at_ (a+1,0))
  rw [hz] at h1 ⊢
  exact b6g tok b0 b1 am h1
 rw [d2T s4] at am ⊢
 rw [n8] at am
 by_cases s5:A2 ts b4M (a,0)=true
 ·rw [d2S s5] at am ⊢
  have h1:=d2n hE hl hx he hf hL (o8 hE ha s5).1
  obtain ⟨z,hz⟩:=E4 (Y0 ts ex (j6 ts a).at_ (a+1,0))
  rw [hz] at h1 ⊢
  exact b6h tok b0 b1 am h1
 rw [d2T s5] at am ⊢
 rw [n8] at am
 rw [show E7 5 ((a,0):PE)=(a,5) from rfl,a0w (g:=(zPL,(a,5))) n5]
 exact c7w tok b0 b1 am (K8 _ _)
end
def b6q (ts:List Tok) (b:Nat) (rr:PL×PE) (F:PL×PE→PL×PE):IvG:=fun x n c m=>∃y:PL×PE,cG (cl y)=gG x n c∧n=(y.2.1:Int)∧c=y.2.2∧y.2.1<ts.length∧SzP b y∧rr=F y∧m=ts.length - y.2.1
theorem SzP.len {ts:List Tok} {b:Nat} {y:PL×PE} (h:SzP b y) (h1:y.2.1<ts.length) (hl:ts.length≤65537):y.1.2.length≤131076:=by
 have:=h.2.1
 omega
section
variable {ts:List Tok} (hE:o5 ts) (hl:ts.length≤65537) {L:Int}
include hE hl
theorem c8j (hL:0≤L∧L≤200) {nx:PF} (hf:B8 ts nx) {a:Nat} (ha:a<ts.length) (hx:E6N 125 (C9 ts) a L (cG (cl (nx (a,0))))) (am:AmN (C9 ts) a [gAt,b0s] ⟨#[]⟩):E6N 110 (C9 ts) a L (cG (cl (a4z nx ts (a,0)))):=by
 have n5:(5:Int)≠0:=by decide
 unfold a4z
 show E6N _ _ _ _ (cG (cl (M5 ts (j6 ts a).at_ ts.length (nx (a,0)))))
 have hfe:=hf (a,0) ha
 obtain ⟨rr,hrr⟩:∃rr,rr=M5 ts (j6 ts a).at_ ts.length (nx (a,0)):=⟨_,rfl⟩
 rw [←hrr]
 generalize nx (a,0)=e at *
 obtain ⟨x,hxe⟩:=E4 e
 rw [hxe] at hx
 refine c8f (inv:=b6q ts a rr (M5 ts (j6 ts a).at_ ts.length)) (m0:=ts.length - e.2.1) (a0o ha) am hx ⟨e,hxe,rfl,rfl,hfe.hi,hfe.size,hrr,rfl⟩ ?_
 rintro x n c m ⟨y,hy,rfl,rfl,hyl,hsz,hr,rfl⟩
 rw [b0i hE hyl] at hr
 by_cases h0:y.2.2=0
 ·have e0:y.2=(y.2.1,0):=d5v rfl h0
  have am2:=b4T hyl hl a1c (by decide)
  rw [←e0] at am2
  have hyz:=hsz.len hyl hl
  have next:∀(op:Int),y.2.1+1<ts.length→((j6 ts (y.2.1+1)).kind == 1)=true→∃z,NdN op (j6 ts (y.2.1+1)).text ⟨#[]⟩ 0 (j6 ts a).at_ ((y.2.1+2:Nat):Int) [gG x y.2.1 0] (gG z ((y.2.1+2:Nat):Int) 0)∧cG (cl (s8 op (j6 ts (y.2.1+1)).text F8 (j6 ts a).at_ [y.1],(y.2.1+2,0)))=gG z ((y.2.1+2:Nat):Int) 0:=fun op hk hkk=>by
   have o0:=a8h (op:=op) (nm:=(j6 ts (y.2.1+1)).text) (ar:=⟨#[]⟩) (n:=0) (p:=(j6 ts a).at_) (m:=y.2.1+2) (ks:=[y]) (by simp) (by simp only [d3j,d3m,d3f];omega)
   unfold ndW at o0
   rw [a1J,d2S h0,a1J] at o0
   obtain ⟨z,-,hz⟩:=a4x (s8 op (j6 ts (y.2.1+1)).text F8 (j6 ts a).at_ [y.1],(y.2.1+2,0))
   have o0:NdN op (j6 ts (y.2.1+1)).text ⟨#[]⟩ 0 (j6 ts a).at_ ((y.2.1+2:Nat):Int) [cG y] (cG (s8 op (j6 ts (y.2.1+1)).text F8 (j6 ts a).at_ [y.1],(y.2.1+2,0))):=o0
   rw [a2y h0,h0] at hy
   rw [hy,hz] at o0
   exact ⟨z,o0,by rw [b4O rfl];exact hz⟩
  have arm:∀(g:ByteArray) (op:Int),op=a2t g→n8 ts a1c y.2=some g→∃(n1 k u v:Int) (s:ByteArray),wI y.2.1 1 n1∧tK (C9 ts) n1 k s u v∧(((k == 1)=false∧WrN n1 5∧cG (cl rr)=zG n1 5)∨∃(n2 z1 z2:Int) (z:Nat→D) (i:Nat),(k == 1)=true∧wI y.2.1 2 n2∧NdN op s ⟨#[]⟩ 0 (j6 ts a).at_ n2 [gG x y.2.1 0] (gG z z1 z2)∧b6q ts a rr (M5 ts (j6 ts a).at_ ts.length) z z1 z2 i∧i<ts.length - y.2.1):=fun g op hop hg=>by
   rw [hg] at hr
   obtain ⟨g1,g2,g3⟩:=P8 hE hyl hg
   have hst:=a74 hE (op:=a2t g) (nm:=(i9 ts (y.2.1+1,0)).1) (ar:=F8) (a:=(j6 ts a).at_) hsz h0 g2
   refine ⟨_,_,_,_,_,wI1 (by omega),a0o g2,?_⟩
   by_cases hk:(j6 ts (y.2.1+1)).kind=1
   ·have hkb:((j6 ts (y.2.1+1)).kind == 1)=true:=by rw [hk];rfl
    obtain ⟨z,o0,hz⟩:=next op g2 hkb
    rw [a5Q hk] at hr hst
    refine .inr ⟨_,_,_,z,ts.length - (y.2.1+2),hkb,wI2 (by omega),o0,⟨_,hz,rfl,rfl,hE _ g2 (by rw [hk];decide),by rw [hop];exact hst,by rw [hop];exact hr,rfl⟩,by omega⟩
   ·rw [a78 hk] at hr
    refine .inl ⟨d2Y hk,K8 _ _,?_⟩
    have hr:rr=M5 ts (j6 ts a).at_ ts.length (s8 (a2t g) F8 F8 (j6 ts a).at_ [y.1],(y.2.1+1,5)):=hr
    rw [b0i hE (y:=(s8 (a2t g) F8 F8 (j6 ts a).at_ [y.1],(y.2.1+1,5))) g2,a1b (p:=(y.2.1+1,5)) n5] at hr
    rw [hr]
    exact a0w (g:=(_,(y.2.1+1,5))) n5
  refine .inr ⟨h0,?_⟩
  cases hg:n8 ts a1c y.2 with
  | none =>
   rw [hg] at hr am2
   have hr:rr=y:=hr
   exact .inl ⟨am2,by rw [hr,hy,h0]⟩
  | some g =>
   have hg3:=(P8 hE hyl hg).2.2
   simp only [d3d,d4p,d5x] at hg3
   rw [hg] at am2
   rcases hg3 with rfl|rfl
   ·exact .inr (.inl ⟨am2,arm c79 43 (by unfold a2t;rw [d2S rfl]) hg⟩)
   ·exact .inr (.inr ⟨am2,arm c5M 44 (by unfold a2t;rw [d2T (by simp only [ByteArray.toList_eq];decide)]) hg⟩)
 ·rw [a1b h0] at hr
  have hr:rr=y:=hr
  exact .inl ⟨d2Y h0,by rw [hr,hy]⟩
theorem d2p (hL:0≤L∧L≤200) {m:Nat} (hm:m=0∧200<L+1∨m≠0∧L+1≤200) {nx pr:PF} (hf:B8 ts nx) (hr:B8 ts pr) (hx:∀a:Nat,a<ts.length→E6N 125 (C9 ts) a L (cG (cl (nx (a,0))))) (hp:m≠0→∀a:Nat,a<ts.length→E6N 110 (C9 ts) a (L+1) (cG (cl (pr (a,0))))) {a:Nat} (ha:a<ts.length) :
  E6N 110 (C9 ts) a L (cG (cl (a76 ts m (a4z nx ts) pr (a,0)))):=by
 have n5:(5:Int)≠0:=by decide
 have n6:(6:Int)≠0:=by decide
 have tok:=a0o ha
 have am:=b4T ha hl [gAt,b0s] (by decide)
 have w:∀op:Int,a+1<ts.length→(j6 ts (a+1)).kind≠1→cG (cl (a3B ts m op pr (a,0)))=zG ((a+1:Nat):Int) 5:=fun op k1 hk=>by
  unfold a3B
  rw [a78 hk,d2S (.inr n5)]
  have e:K6 m (a+1,5)=(a+1,5):=by unfold K6;split <;> rfl
  show cG (cl (zPL,K6 m (a+1,5)))=_
  rw [e]
  exact a0w (g:=(zPL,(a+1,5))) n5
 have d:∀op:Int,(j6 ts (a+1)).kind=1→m=0→cG (cl (a3B ts m op pr (a,0)))=zG ((a+2:Nat):Int) 6:=fun op hk hm0=>by
  unfold a3B
  rw [a5Q hk,d2S (.inl hm0)]
  show cG (cl (zPL,K6 m (a+2,0)))=_
  rw [show K6 m (a+2,0)=(a+2,6) by unfold K6;rw [d2S hm0];rfl]
  exact a0w (g:=(zPL,(a+2,6))) n6
 have o:∀op:Int,(j6 ts (a+1)).kind=1→m≠0→a+2<ts.length→∃(x z:Nat→D),cG (cl (pr (a+2,0)))=gG x (pr (a+2,0)).2.1 (pr (a+2,0)).2.2∧cG (cl (a3B ts m op pr (a,0)))=gG z (pr (a+2,0)).2.1 (pr (a+2,0)).2.2∧NdN op (j6 ts (a+1)).text ⟨#[]⟩ 0 (j6 ts a).at_ (pr (a+2,0)).2.1 [gG x (pr (a+2,0)).2.1 (pr (a+2,0)).2.2] (gG z (pr (a+2,0)).2.1 (pr (a+2,0)).2.2):=fun op hk hm0 k2=>by
  have e1:a3B ts m op pr (a,0)=(s8 op (j6 ts (a+1)).text ⟨#[]⟩ (j6 ts a).at_ [(pr (a+2,0)).1],(pr (a+2,0)).2):=by
   unfold a3B
   rw [a5Q hk,d2T (fun h=>h.elim hm0 fun h=>h rfl)]
  rw [e1]
  have hz:=K9 hr hl (p:=(a+2,0)) k2
  generalize pr (a+2,0)=e at *
  obtain ⟨x,hxe⟩:=E4 e
  obtain ⟨z,hze⟩:=E4 (s8 op (j6 ts (a+1)).text ⟨#[]⟩ (j6 ts a).at_ [e.1],e.2)
  have o0:=a8h (op:=op) (nm:=(j6 ts (a+1)).text) (ar:=⟨#[]⟩) (n:=0) (p:=(j6 ts a).at_) (m:=e.2.1) (ks:=[cl e]) (by simp) (by simp only [d3j,d3m,d3f];have:=Q0 e;omega)
  rw [nd1,hze,d3c,d35,hxe] at o0
  exact ⟨x,z,hxe,hze,o0⟩
 unfold a76
 by_cases s1:A2 ts gAt (a,0)=true
 ·rw [d2S s1]
  rw [n8,d2S s1] at am
  have k1:=(o8 hE ha s1).1
  by_cases hk:(j6 ts (a+1)).kind=1
  ·have k2:=hE _ k1 (by rw [hk];decide)
   rcases hm with ⟨hm0,hm1⟩|⟨hm0,hm1⟩
   ·rw [d 46 hk hm0]
    exact c9H tok am (wI1 (by omega)) (a0o k1) (by rw [hk];rfl) (wIL hL.1 (by omega)) (wI2 (by omega)) (d3a hm1) (K8 _ _)
   ·obtain ⟨x,z,hxe,hze,o0⟩:=o 46 hk hm0 k2
    have h1:=hp hm0 (a+2) k2
    rw [hxe] at h1
    rw [hze]
    exact d19 tok am (wI1 (by omega)) (a0o k1) (by rw [hk];rfl) (wIL hL.1 (by omega)) (wI2 (by omega)) (d2U (by omega)) h1 o0
  ·rw [w 46 k1 hk]
   exact c9G tok am (wI1 (by omega)) (a0o k1) (d2Y hk) (K8 _ _)
 rw [d2T s1]
 rw [n8,d2T s1,n8] at am
 by_cases s2:A2 ts b0s (a,0)=true
 ·rw [d2S s2] at am ⊢
  have k1:=(o8 hE ha s2).1
  by_cases hk:(j6 ts (a+1)).kind=1
  ·have k2:=hE _ k1 (by rw [hk];decide)
   rcases hm with ⟨hm0,hm1⟩|⟨hm0,hm1⟩
   ·rw [d 47 hk hm0]
    exact c9J tok am (wI1 (by omega)) (a0o k1) (by rw [hk];rfl) (wIL hL.1 (by omega)) (wI2 (by omega)) (d3a hm1) (K8 _ _)
   ·obtain ⟨x,z,hxe,hze,o0⟩:=o 47 hk hm0 k2
    have h1:=hp hm0 (a+2) k2
    rw [hxe] at h1
    rw [hze]
    exact d1A tok am (wI1 (by omega)) (a0o k1) (by rw [hk];rfl) (wIL hL.1 (by omega)) (wI2 (by omega)) (d2U (by omega)) h1 o0
  ·rw [w 47 k1 hk]
   exact c9I tok am (wI1 (by omega)) (a0o k1) (d2Y hk) (K8 _ _)
 rw [d2T s2] at am ⊢
 rw [n8] at am
 exact c8j hE hl hL hf ha (hx a ha) am
end
end
section
theorem b7W {ts:List Tok} {l:List ByteArray} {p:PE} (hl:∀g∈l,(g.toList == ByteArray.toList ⟨#[]⟩)=false):(((n8 ts l p).getD F8).toList == ByteArray.toList ⟨#[]⟩)=(n8 ts l p).isNone:=by
 induction l with
 | nil=>exact d3C _
 | cons s l ih =>
  rw [n8]
  split
  ·exact hl s (d2V ..)
  ·exact ih fun g hg=>hl g (d2W _ hg)
theorem b96 {ts:List Tok} {a:Nat}:T7 (j6 ts a)=((j6 ts a).kind == 1 || ((j6 ts a).kind == 2 || !(n8 ts a4S (a,0)).isNone)):=by
 unfold T7
 congr 1
 congr 1
 have e:∀l:List ByteArray,((j6 ts a).kind == 3 && l.any fun s=>(j6 ts a).text.toList == s.toList)=!(n8 ts l (a,0)).isNone:=by
  intro l
  induction l with
  | nil=>rw [List.any_nil,d4I];rfl
  | cons s l ih =>
   rw [n8,List.any_cons,Bool.and_or_distrib_left,ih,E8]
   unfold L7
   cases h:((j6 ts a).kind == 3 && (j6 ts a).text.toList == s.toList)
   ·rw [d2T (by decide),d5y]
   ·rw [d2S rfl,Bool.true_or];rfl
 exact e _
section
variable {ts:List Tok} (hE:o5 ts) (hl:ts.length≤65537) {L:Int}
include hl
theorem d2q {pr:PF} (hf:B8 ts pr) (hst:StF ts pr) (hx:∀a:Nat,a<ts.length→E6N 110 (C9 ts) a L (cG (cl (pr (a,0))))) {a:Nat} (ha:a<ts.length):E6N 89 (C9 ts) a L (cG (cl (a73 pr ts (a,0)))):=by
 unfold a73
 show E6N _ _ _ _ (cG (cl (a1L pr ts (j6 ts a).at_ ts.length (pr (a,0)))))
 have hfe:=hf (a,0) ha
 have hxa:=hx a ha
 obtain ⟨rr,hrr⟩:∃rr,rr=a1L pr ts (j6 ts a).at_ ts.length (pr (a,0)):=⟨_,rfl⟩
 rw [←hrr]
 generalize pr (a,0)=e at *
 obtain ⟨x,hxe⟩:=E4 e
 rw [hxe] at hxa
 refine d0C (inv:=b6q ts a rr (a1L pr ts (j6 ts a).at_ ts.length)) (m0:=ts.length - e.2.1) (a0o ha) hxa ⟨e,hxe,rfl,rfl,hfe.hi,hfe.size,hrr,rfl⟩ ?_
 rintro x n c m ⟨y,hy,rfl,rfl,hyl,hsz,hr,rfl⟩
 rw [b7K hf hst hyl] at hr
 by_cases h0:y.2.2=0
 ·have e0:y.2=(y.2.1,0):=d5v rfl h0
  have am:=b4T hyl hl a4S (by decide)
  have hno:=b7W (ts:=ts) (l:=a4S) (p:=(y.2.1,0)) (by simp only [ByteArray.toList_eq];decide)
  have hsb:=b96 (ts:=ts) (a:=y.2.1)
  refine .inr ⟨_,_,_,_,_,h0,a0o hyl,am,?_⟩
  by_cases hs:T7 (j6 ts y.2.1)=true
  ·rw [d2S ⟨h0,hs⟩] at hr
   rw [hs] at hsb
   refine .inr ⟨?_,?_⟩
   ·cases k1:(j6 ts y.2.1).kind == 1
    ·cases k2:(j6 ts y.2.1).kind == 2
     ·rw [k1,k2,d5y,d5y] at hsb
      exact .inr ⟨rfl,.inr ⟨rfl,by rw [hno];simpa using hsb.symm⟩⟩
     ·exact .inr ⟨rfl,.inl rfl⟩
    ·exact .inl rfl
   ·have hlt:=hst (y.2.1,0) hyl rfl hs
    have hxy:=hx y.2.1 hyl
    have hstep:=b0g hf (a:=(j6 ts a).at_) hsz h0 hyl
    have hz:=K9 hf hl (p:=(y.2.1,0)) hyl
    have hfi:=(hf (y.2.1,0) hyl).hi
    rw [e0] at hr hstep
    have hyz:=hsz.len hyl hl
    generalize pr (y.2.1,0)=w at *
    obtain ⟨v,hv⟩:=E4 w
    obtain ⟨z,hzz⟩:=E4 (s8 37 F8 F8 (j6 ts a).at_ [y.1,w.1],w.2)
    have o0:=a8h (op:=37) (nm:=⟨#[]⟩) (ar:=⟨#[]⟩) (n:=0) (p:=(j6 ts a).at_) (m:=w.2.1) (ks:=[cl y,cl w]) (by simp) (by
     simp only [d3j,d3m,d3f,d2R]
     have:=Q0 y
     have:=Q0 w
     omega)
    rw [nd2 (fun h=>absurd h0 h)] at o0
    have o0:NdN 37 ⟨#[]⟩ ⟨#[]⟩ 0 (j6 ts a).at_ (w.2.1:Int) ([cl y,cl w].map cG) (cG (cl (s8 37 F8 F8 (j6 ts a).at_ [y.1,w.1],w.2))):=o0
    rw [hzz,d3c,d3c,d35,hy,hv,h0] at o0
    rw [hv] at hxy
    exact ⟨_,_,_,_,v,z,ts.length - w.2.1,hxy,o0,⟨_,hzz,rfl,rfl,hfi,hstep,hr,rfl⟩,by simp only at hlt;omega⟩
  ·rw [d2T (fun h=>hs h.2)] at hr
   have hs':T7 (j6 ts y.2.1)=false:=by simpa using hs
   rw [hs'] at hsb
   have h3:=d4G.1 hsb.symm
   have h4:=d4G.1 h3.2
   exact .inl ⟨h3.1,h4.1,by rw [hno];simpa using h4.2,by rw [hr,hy,h0]⟩
 ·rw [d2T (fun h=>h0 h.1)] at hr
  exact .inl ⟨d2Y h0,by rw [hr,hy]⟩
include hE
theorem b4V {nx:PF} (hf:B8 ts nx) {k:Int} {sg:List ByteArray} (hsg:∀g∈sg,(g.toList == ByteArray.toList ⟨#[]⟩)=false) (hsn:sg.length≤1000) (hx:∀a:Nat,a<ts.length→BiN (C9 ts) a L k (cG (cl (nx (a,0))))) {b:Nat} {pl:Int} {rr:PL×PE} {x:Nat→D} {n c:Int} {m:Nat} (h:b6q ts b rr (Z3 sg nx ts pl ts.length) x n c m) :
  ((c == 0)=false∧cG (cl rr)=gG x n c)∨∃s,c=0∧AmN (C9 ts) n sg s∧(((s.toList == ByteArray.toList ⟨#[]⟩)=true∧cG (cl rr)=gG x n 0)∨∃(n1 n2 d z1 z2:Int) (y z:Nat→D) (i:Nat),(s.toList == ByteArray.toList ⟨#[]⟩)=false∧wI n 1 n1∧BiN (C9 ts) n1 L k (gG y n2 d)∧NdN 40 s ⟨#[]⟩ 0 pl n2 [gG x n 0,gG y n2 d] (gG z z1 z2)∧b6q ts b rr (Z3 sg nx ts pl ts.length) z z1 z2 i∧i<m):=by
 obtain ⟨y,hy,rfl,rfl,hyl,hsz,hr,rfl⟩:=h
 rw [b3f hE hf hyl] at hr
 by_cases h0:y.2.2=0
 ·have e0:y.2=(y.2.1,0):=d5v rfl h0
  have am:=b4T hyl hl sg hsn
  have hno:=b7W (ts:=ts) (l:=sg) (p:=y.2) hsg
  rw [←e0] at am
  refine .inr ⟨_,h0,am,?_⟩
  cases hg:n8 ts sg y.2 with
  | none =>
   rw [hg] at hr
   have hr:rr=y:=hr
   exact .inl ⟨d3C _,by rw [hr,hy,h0]⟩
  | some g =>
   rw [hg] at hr hno
   obtain ⟨g1,g2,g3⟩:=P8 hE hyl hg
   have hstep:=a4R hE hf (op:=40) (nm:=g) (ar:=F8) (a:=pl) hsz h0 g2
   have hxy:=hx (y.2.1+1) g2
   have hz:=K9 hf hl (p:=(y.2.1+1,0)) g2
   have hfw:=hf (y.2.1+1,0) g2
   have hlo:=hfw.lo
   have hfi:=hfw.hi
   have hyz:=hsz.len hyl hl
   have hr:rr=Z3 sg nx ts pl ts.length (s8 40 g F8 pl [y.1,(nx (y.2.1+1,0)).1],(nx (y.2.1+1,0)).2):=hr
   generalize nx (y.2.1+1,0)=w at *
   obtain ⟨v,hv⟩:=E4 w
   obtain ⟨z,hzz⟩:=E4 (s8 40 g F8 pl [y.1,w.1],w.2)
   have o0:=a8h (op:=40) (nm:=g) (ar:=⟨#[]⟩) (n:=0) (p:=pl) (m:=w.2.1) (ks:=[cl y,cl w]) (by simp) (by
    simp only [d3j,d3m,d3f,d2R]
    have:=Q0 y
    have:=Q0 w
    omega)
   rw [nd2 (fun h=>absurd h0 h)] at o0
   have o0:NdN 40 g ⟨#[]⟩ 0 pl (w.2.1:Int) ([cl y,cl w].map cG) (cG (cl (s8 40 g F8 pl [y.1,w.1],w.2))):=o0
   rw [hzz,d3c,d3c,d35,hy,hv,h0] at o0
   rw [hv] at hxy
   exact .inr ⟨_,_,_,_,_,v,z,ts.length - w.2.1,hno,wI1 (by omega),hxy,o0,⟨_,hzz,rfl,rfl,hfi,hstep,hr,rfl⟩,by simp only at hlo;omega⟩
 ·rw [a1b h0] at hr
  have hr:rr=y:=hr
  exact .inl ⟨d2Y h0,by rw [hr,hy]⟩
theorem d2r {nx:PF} (hf:B8 ts nx) (hx:∀a:Nat,a<ts.length→BiN (C9 ts) a L 3 (cG (cl (nx (a,0))))) {a:Nat} (ha:a<ts.length):BiN (C9 ts) a L 2 (cG (cl (a7T nx ts (a,0)))):=by
 unfold a7T
 have hfe:=hf (a,0) ha
 have hxa:=hx a ha
 obtain ⟨rr,hrr⟩:∃rr,rr=Z3 a1K nx ts (j6 ts a).at_ ts.length (nx (a,0)):=⟨_,rfl⟩
 show BiN _ _ _ _ (cG (cl (Z3 a1K nx ts (j6 ts a).at_ ts.length (nx (a,0)))))
 rw [←hrr]
 obtain ⟨x,hxe⟩:=E4 (nx (a,0))
 rw [hxe] at hxa
 exact d2m (inv:=b6q ts a rr (Z3 a1K nx ts (j6 ts a).at_ ts.length)) (m0:=ts.length - (nx (a,0)).2.1) (a0o ha) hxa ⟨_,hxe,rfl,rfl,hfe.hi,hfe.size,hrr,rfl⟩ fun x n c m h=>b4V hE hl hf (by simp only [ByteArray.toList_eq];decide) (by decide) hx h
theorem d2s {nx:PF} (hf:B8 ts nx) (hx:∀a:Nat,a<ts.length→BiN (C9 ts) a L 2 (cG (cl (nx (a,0))))) {a:Nat} (ha:a<ts.length):BiN (C9 ts) a L 1 (cG (cl (b9n nx ts (a,0)))):=by
 unfold b9n
 have hfe:=hf (a,0) ha
 have hxa:=hx a ha
 obtain ⟨rr,hrr⟩:∃rr,rr=Z3 a4y nx ts (j6 ts a).at_ ts.length (nx (a,0)):=⟨_,rfl⟩
 show BiN _ _ _ _ (cG (cl (Z3 a4y nx ts (j6 ts a).at_ ts.length (nx (a,0)))))
 rw [←hrr]
 obtain ⟨x,hxe⟩:=E4 (nx (a,0))
 rw [hxe] at hxa
 exact d2l (inv:=b6q ts a rr (Z3 a4y nx ts (j6 ts a).at_ ts.length)) (m0:=ts.length - (nx (a,0)).2.1) (a0o ha) hxa ⟨_,hxe,rfl,rfl,hfe.hi,hfe.size,hrr,rfl⟩ fun x n c m h=>b4V hE hl hf (by simp only [ByteArray.toList_eq];decide) (by decide) hx h
end
section
variable {ts:List Tok} (hE:o5 ts) (hl:ts.length≤65537) {ex:PF} {L:Int} (hx:∀a:Nat,a<ts.length→ExN (C9 ts) a (L+1) (cG (cl (ex (a,0))))) (he:∀p:PE,p.2≠0→ex p=(zPL,p)) (hf:B8 ts ex)
include hE hl hx he hf
theorem d2t {n:Nat} (hv:T6 n L) (hn:1≤n) {sm:PF} (hsf:B8 ts sm) (hs:∀a:Nat,a<ts.length→BiN (C9 ts) a L 1 (cG (cl (sm (a,0))))) {a:Nat} (ha:a<ts.length):ExN (C9 ts) a L (cG (cl (a25 ts n ex sm (a,0)))):=by
 have hL:0≤L∧L≤200:=by unfold T6 at hv;omega
 have n5:(5:Int)≠0:=by decide
 have l0:decide (200<L)=false:=d2U (by omega)
 have tok:=a0o ha
 have am:=b4T ha hl [b1M,b1O,b90,gIf] (by decide)
 rw [n8] at am
 unfold a25
 rw [d2T (fun h=>h rfl)]
 by_cases s1:A2 ts b1M (a,0)=true
 ·rw [d2S s1] at am ⊢
  have k1:=(o8 hE ha s1).1
  have h1:=c8c hE hl hx he hf hv hn ts.length (a+1) (by omega) k1 35 ⟨#[]⟩ (j6 ts a).at_
  unfold G8
  simp only [d4h,d5u]
  rw [c5U]
  obtain ⟨z,hz⟩:=E4 (fn1 35 ⟨#[]⟩ (j6 ts a).at_ (ex (v6 ts n (a+1,0)).2).1 (v6 ts n (a+1,0)).1,(ex (v6 ts n (a+1,0)).2).2)
  rw [hz] at h1
  show ExN _ _ _ (cG (cl (fn1 35 ⟨#[]⟩ (j6 ts a).at_ (ex (v6 ts n (a+1,0)).2).1 (v6 ts n (a+1,0)).1,(ex (v6 ts n (a+1,0)).2).2)))
  rw [hz]
  exact c9A l0 tok am (wI1 (by omega)) h1
 rw [d2T s1] at am ⊢
 rw [n8] at am
 by_cases s2:A2 ts b1O (a,0)=true
 ·rw [d2S s2] at am ⊢
  have k1:=(o8 hE ha s2).1
  unfold G8
  simp only [d4S]
  rw [c5U]
  by_cases hk:(j6 ts (a+1)).kind=1
  ·have k2:=hE _ k1 (by rw [hk];decide)
   rw [a5Q hk]
   have h1:=c8c hE hl hx he hf hv hn ts.length (a+2) (by omega) k2 36 (j6 ts (a+1)).text (j6 ts a).at_
   obtain ⟨z,hz⟩:=E4 (fn1 36 (j6 ts (a+1)).text (j6 ts a).at_ (ex (v6 ts n (a+2,0)).2).1 (v6 ts n (a+2,0)).1,(ex (v6 ts n (a+2,0)).2).2)
   rw [hz] at h1
   show ExN _ _ _ (cG (cl (fn1 36 (j6 ts (a+1)).text (j6 ts a).at_ (ex (v6 ts n (a+2,0)).2).1 (v6 ts n (a+2,0)).1,(ex (v6 ts n (a+2,0)).2).2)))
   rw [hz]
   exact c9B l0 tok am (wI1 (by omega)) (wI2 (by omega)) (a0o k1) (by rw [hk];rfl) h1
  ·rw [a78 hk]
   have e0:(m7 ts n (a+1,5)).2=(a+1,5):=by
    unfold m7
    rw [d2T (by rw [a0O (p:=(a+1,5)) n5];decide),b3n (p:=(a+1,5)) n5]
   have e1:(ex (v6 ts n (a+1,5)).2).2=(a+1,5):=by
    rw [a7X hE (fun h=>by rw [e0] at h;exact n5 h.1),e0,B9 (p:=(a+1,5)) n5,he _ n5]
   have e9:∀X:PL,cG (cl (X,(ex (v6 ts n (a+1,5)).2).2))=zG ((a+1:Nat):Int) 5:=fun X=>by rw [e1];exact a0w (g:=(X,(a+1,5))) n5
   show ExN _ _ _ (cG (cl (_,(ex (v6 ts n (a+1,5)).2).2)))
   rw [e9]
   exact c7q l0 tok am (wI1 (by omega)) (a0o k1) (d2Y hk) (K8 _ _)
 rw [d2T s2] at am ⊢
 rw [n8] at am
 by_cases s3:A2 ts b90 (a,0)=true
 ·rw [d2S s3] at am ⊢
  have k1:=(o8 hE ha s3).1
  unfold c2M
  by_cases hk:(j6 ts (a+1)).kind=1
  ·have k2:=hE _ k1 (by rw [hk];decide)
   rw [a5Q hk]
   have h1:=c8b hE hl hx he C6 (b:=a+2) k2
   obtain ⟨c1,_,_⟩:=j8 (s:=C6) hE (p:=(a+2,0)) k2
   have z1:=K9 hf hl c1
   have i1:=(hf _ c1).hi
   have h2:=c2U hE hl hx he gIn i1
   obtain ⟨c2,_,_⟩:=j8 (s:=gIn) hE i1
   have z2:=K9 hf hl c2
   show ExN _ _ _ (cG (cl (s8 38 (j6 ts (a+1)).text ⟨#[]⟩ (j6 ts a).at_ [(ex (j0 ts C6 (a+2,0))).1,(ex (j0 ts gIn (ex (j0 ts C6 (a+2,0))).2)).1],(ex (j0 ts gIn (ex (j0 ts C6 (a+2,0))).2)).2)))
   generalize ex (j0 ts C6 (a+2,0))=v at *
   have hs2:v.2.2≠0→(ex (j0 ts gIn v.2)).2=v.2:=fun h=>by rw [he _ (by rw [B9 h];exact h),B9 h]
   generalize ex (j0 ts gIn v.2)=w at *
   have o0:=a8h (op:=38) (nm:=(j6 ts (a+1)).text) (ar:=⟨#[]⟩) (n:=0) (p:=(j6 ts a).at_) (m:=w.2.1) (ks:=[cl v,cl w]) (by simp) (by
    simp only [d3j,d3m,d3f,d2R]
    have:=Q0 v
    have:=Q0 w
    omega)
   rw [nd2 hs2] at o0
   obtain ⟨x,hxe⟩:=E4 v
   obtain ⟨y,hye⟩:=E4 w
   obtain ⟨z,hze⟩:=E4 (s8 38 (j6 ts (a+1)).text ⟨#[]⟩ (j6 ts a).at_ [v.1,w.1],w.2)
   rw [d3c,d3c,d35,hxe,hye,hze] at o0
   rw [hxe] at h1 h2
   rw [hye] at h2
   rw [hze]
   exact c9C l0 tok am (wI1 (by omega)) (wI2 (by omega)) (a0o k1) (by rw [hk];rfl) (wIL hL.1 (by omega)) h1 h2 o0
  ·rw [a78 hk]
   have e1:(ex (j0 ts gIn (ex (j0 ts C6 (a+1,5))).2)).2=(a+1,5):=by
    rw [B9 (p:=(a+1,5)) n5,he (a+1,5) n5,B9 (p:=(a+1,5)) n5,he (a+1,5) n5]
   have e9:∀X:PL,cG (cl (X,(ex (j0 ts gIn (ex (j0 ts C6 (a+1,5))).2)).2))=zG ((a+1:Nat):Int) 5:=fun X=>by rw [e1];exact a0w (g:=(X,(a+1,5))) n5
   show ExN _ _ _ (cG (cl (_,(ex (j0 ts gIn (ex (j0 ts C6 (a+1,5))).2)).2)))
   rw [e9]
   exact c7r l0 tok am (wI1 (by omega)) (a0o k1) (d2Y hk) (K8 _ _)
 rw [d2T s3] at am ⊢
 rw [n8] at am
 by_cases s4:A2 ts gIf (a,0)=true
 ·rw [d2S s4] at am ⊢
  have k1:=(o8 hE ha s4).1
  have h1:=hx (a+1) k1
  have z1:=K9 hf hl (p:=(a+1,0)) k1
  have i1:=(hf (a+1,0) k1).hi
  unfold ifW
  show ExN _ _ _ (cG (cl (s8 39 ⟨#[]⟩ ⟨#[]⟩ (j6 ts a).at_ [(ex (a+1,0)).1,(ex (j0 ts a1A (ex (a+1,0)).2)).1,(ex (j0 ts J4 (ex (j0 ts a1A (ex (a+1,0)).2)).2)).1],(ex (j0 ts J4 (ex (j0 ts a1A (ex (a+1,0)).2)).2)).2)))
  generalize ex (a+1,0)=u at *
  have h2:=c2U hE hl hx he a1A i1
  obtain ⟨c2,_,_⟩:=j8 (s:=a1A) hE i1
  have z2:=K9 hf hl c2
  have i2:=(hf _ c2).hi
  have hs1:u.2.2≠0→(ex (j0 ts a1A u.2)).2=u.2:=fun h=>by rw [he _ (by rw [B9 h];exact h),B9 h]
  generalize ex (j0 ts a1A u.2)=v at *
  have h3:=c2U hE hl hx he J4 i2
  obtain ⟨c3,_,_⟩:=j8 (s:=J4) hE i2
  have z3:=K9 hf hl c3
  have hs2:v.2.2≠0→(ex (j0 ts J4 v.2)).2=v.2:=fun h=>by rw [he _ (by rw [B9 h];exact h),B9 h]
  generalize ex (j0 ts J4 v.2)=w at *
  have o0:=a8h (op:=39) (nm:=⟨#[]⟩) (ar:=⟨#[]⟩) (n:=0) (p:=(j6 ts a).at_) (m:=w.2.1) (ks:=[cl u,cl v,cl w]) (by simp) (by
   simp only [d3j,d3m,d3f,d2R]
   have:=Q0 u
   have:=Q0 v
   have:=Q0 w
   omega)
  rw [nd3 hs1 hs2] at o0
  obtain ⟨x,hxe⟩:=E4 u
  obtain ⟨y,hye⟩:=E4 v
  obtain ⟨q,hqe⟩:=E4 w
  obtain ⟨z,hze⟩:=E4 (s8 39 ⟨#[]⟩ ⟨#[]⟩ (j6 ts a).at_ [u.1,v.1,w.1],w.2)
  rw [d3c,d3c,d3c,d35,hxe,hye,hqe,hze] at o0
  rw [hxe] at h1 h2
  rw [hye] at h2 h3
  rw [hqe] at h3
  rw [hze]
  exact c9D l0 tok am (wI1 (by omega)) (wIL hL.1 (by omega)) h1 h2 h3 o0
 rw [d2T s4] at am ⊢
 rw [n8] at am
 have h1:=hs a ha
 have hfe:=hsf (a,0) ha
 have z1:=K9 hsf hl (p:=(a,0)) ha
 unfold b91
 show ExN _ _ _ (cG (cl (if A2 ts a5q (sm (a,0)).2=true then _ else _)))
 generalize sm (a,0)=u at *
 have hvi:=hfe.hi
 have am2:=b4T hvi hl [a5q,a6I] (by decide)
 obtain ⟨x,hxe⟩:=E4 u
 rw [hxe] at h1
 have two:∀(g:ByteArray),u.2.2=0→L7 (j6 ts u.2.1) g=true→∃(n2 d z1 z2:Int) (y z:Nat→D),BiN (C9 ts) ((u.2.1+1:Nat):Int) L 1 (gG y n2 d)∧NdN 40 g ⟨#[]⟩ 0 (j6 ts a).at_ n2 [gG x u.2.1 0,gG y n2 d] (gG z z1 z2)∧cG (cl (s8 40 g ⟨#[]⟩ (j6 ts a).at_ [u.1,(sm (u.2.1+1,0)).1],(sm (u.2.1+1,0)).2))=gG z z1 z2:=fun g h0 hg=>by
  have k2:=hE _ hvi (by rw [F0 hg];decide)
  have h2:=hs (u.2.1+1) k2
  have z2:=K9 hsf hl (p:=(u.2.1+1,0)) k2
  generalize sm (u.2.1+1,0)=w at *
  obtain ⟨y,hye⟩:=E4 w
  obtain ⟨z,hze⟩:=E4 (s8 40 g ⟨#[]⟩ (j6 ts a).at_ [u.1,w.1],w.2)
  have o0:=a8h (op:=40) (nm:=g) (ar:=⟨#[]⟩) (n:=0) (p:=(j6 ts a).at_) (m:=w.2.1) (ks:=[cl u,cl w]) (by simp) (by
   simp only [d3j,d3m,d3f,d2R]
   have:=Q0 u
   have:=Q0 w
   omega)
  rw [nd2 (fun h=>absurd h0 h),hze,d3c,d3c,d35,hxe,hye,h0] at o0
  rw [hye] at h2
  exact ⟨_,_,_,_,y,z,h2,o0,hze⟩
 by_cases h0:u.2.2=0
 ·have e0:u.2=(u.2.1,0):=d5v rfl h0
  have sk:∀g,A2 ts g u.2=L7 (j6 ts u.2.1) g:=fun g=>by rw [e0,E8]
  rw [sk,sk]
  rw [n8,E8] at am2
  rw [h0] at h1
  by_cases s5:L7 (j6 ts u.2.1) a5q=true
  ·rw [d2S s5] at am2 ⊢
   obtain ⟨n2,d,z1,z2,y,z,h3,o0,hz⟩:=two a5q h0 s5
   rw [hz]
   exact c7s l0 tok am h1 am2 (wI1 (by omega)) h3 o0
  rw [d2T s5] at am2 ⊢
  rw [n8,E8] at am2
  by_cases s6:L7 (j6 ts u.2.1) a6I=true
  ·rw [d2S s6] at am2 ⊢
   obtain ⟨n2,d,z1,z2,y,z,h3,o0,hz⟩:=two a6I h0 s6
   rw [hz]
   exact c7t l0 tok am h1 am2 (wI1 (by omega)) h3 o0
  rw [d2T s6] at am2 ⊢
  rw [n8] at am2
  rw [hxe,h0]
  exact c9F l0 tok am h1 am2
 ·rw [d2T (by rw [a0O h0];decide),d2T (by rw [a0O h0];decide),hxe]
  exact c9E l0 tok am h1 am2 (d2Y h0)
end
theorem lvG {ts:List Tok} (hE:o5 ts) (hl:ts.length≤65537):∀(n:Nat) (L:Int),T6 n L→(∀a:Nat,a<ts.length→ExN (C9 ts) a L (cG (cl ((lvW ts n).1 (a,0)))))∧(n≠0→∀a:Nat,a<ts.length→E6N 110 (C9 ts) a L (cG (cl ((lvW ts n).2 (a,0)))))
 | 0,L,hv=>⟨fun a ha=>by
   have hL:200<L:=by unfold T6 at hv;omega
   show ExN _ _ _ (cG (cl (zPL,(a,6))))
   rw [a0w (g:=(zPL,(a,6))) (by show (6:Int)≠0;decide)]
   exact c99 (d3a hL) (K8 _ _),fun h=>absurd rfl h⟩
 | n+1,L,hv=>by
  have hb:0≤L∧L≤200∧(n=0∧200<L+1∨n≠0∧L+1≤200):=by unfold T6 at hv;omega
  have hv2:T6 n (L+1):=a4T hv
  obtain ⟨i1,i2⟩:=lvG hE hl n (L+1) hv2
  obtain ⟨h1,h2,h3⟩:=a44 hE n
  have hat:B8 ts (a0v ts (n+1) (lvW ts n).1):=fun p hp=>b0r hE (n+1) h1 h2 hp
  have hP:B8 ts (a43 ts n (lvW ts n).1 (lvW ts n).2):=(a44 hE (n+1)).2.2
  have hpre:∀a:Nat,a<ts.length→E6N 110 (C9 ts) a L (cG (cl (a43 ts n (lvW ts n).1 (lvW ts n).2 (a,0)))):=fun a ha=>d2p hE hl ⟨hb.1,hb.2.1⟩ hb.2.2 hat h3 (fun b hb'=>d2o hE hl i1 h2 h1 hv (by omega) hb') (fun hm b hb'=>i2 hm b hb') ha
  have happ:=fun a ha=>d2q hl hP (b7T hE n (n+1) h1 h2 h3) hpre (a:=a) ha
  have hb3:∀a:Nat,a<ts.length→BiN (C9 ts) a L 3 (cG (cl (a73 (a43 ts n (lvW ts n).1 (lvW ts n).2) ts (a,0)))):=fun a ha=>by
   have h:=happ a ha
   obtain ⟨z,hz⟩:=E4 (a73 (a43 ts n (lvW ts n).1 (lvW ts n).2) ts (a,0))
   rw [hz] at h ⊢
   exact d18 h
  have hprod:=fun a ha=>d2r hE hl (b9o hP) hb3 (a:=a) ha
  have hsum:=fun a ha=>d2s hE hl (a2u hE hP).1 hprod (a:=a) ha
  exact ⟨fun a ha=>d2t hE hl i1 h2 h1 hv (by omega) (a2u hE hP).2 hsum ha,fun _=>hpre⟩
end
theorem c5k:∀t:Ty,t.parts.length≤1048576→o9 48 [.ag (cT t)] [.ag (cT t)]:=by
 intro t
 induction t using Ty.ind with
 | h t ih =>
  intro hN
  have hkl:=T5 t
  obtain ⟨op,nm,n,ks⟩:=t
  simp only [Ty.kids] at hkl ih
  rw [cT]
  obtain ⟨K,hK⟩:∃K,K=rT ks:=⟨_,rfl⟩
  rw [←hK]
  refine N2 Tryz.func48 rfl ?_;intro qa qb _ _ _ _ _ qi _ _ _ _ _ _ _ _ _ _ _ _ _ _ va vc _ ve;intros;rename_i hA
  cbv
  with_reducible apply f8 hA
  cbv
  refine a2j hA 3 27 true rfl ?_
  cbv
  repeat ((with_reducible apply f8 hA);cbv)
  obtain ⟨e1,e2,e3,e4,e5,e6,e7,e8,e9⟩:=j7 hA
  obtain ⟨r1,r2,r3,r4⟩:=A8 hA
  refine j9 hA (γ:=Int×List (List D)) (fun x=>[(9,vi .i64 x.1),(3,.own 2),(13,.jk)]) (fun x=>[(2,.row true 27 x.2)]) (fun x=>∃k:Nat,x.1=(k:Int)∧k≤ks.length∧x.2=rT (ks.take k)) (fun x=>ks.length - x.1.toNat) (0,[]) ?_ ?_ ?_
  ·exact ⟨0,rfl,d3t _,rfl⟩
  ·cbv
  ·intro x hinv
   obtain ⟨z,L⟩:=x
   cbv;refine gn ?_
   obtain ⟨k,hz,hk,hE⟩:=hinv
   have hz:z=(k:Int):=hz
   replace hE:L=rT (ks.take k):=hE
   have hlen:va K=(ks.length:Int):=by rw [r1,hK,a0m]
   have hlt:qi z (va K)=decide (k<ks.length):=by rw [e7,hlen,hz];exact d3l.2 (by omega)
   by_cases h9:k<ks.length
   ·rw [d3a h9] at hlt
    obtain ⟨x,hx⟩:∃x,ks[k]?=some x:=⟨_,d2P h9⟩
    have g1:vc K z=some (cT x):=by rw [r2,hz,d2S (by omega),hK];exact a5F hx
    have hsp:=ih x (d3e hx) (by have:=hkl.2 x (d3e hx);omega)
    have hsn:=a82 hx
    obtain ⟨o1,m1,n1,l1⟩:=x
    rw [cT] at g1 hsp hsn
    generalize rT l1=L1 at *
    rw [hlt]
    cbv;refine gn ?_
    rw [g1]
    cbv
    repeat ((with_reducible apply f8 hA);cbv)
    refine f9 hA _ hsp ?_ ?_
    ·rfl
    cbv
    refine A6 hA true ?_
    cbv
    refine B3 hA (by rw [hE,a0m];simp;omega) ?_
    cbv
    repeat ((with_reducible apply f8 hA);cbv)
    replace hz:z=(k:Int):=hz
    have hz1:qa .i64 (qb z 1)=((k+1:Nat):Int):=by rw [e1,e2,hz,IntWalk.i64_in _ (by omega)];omega
    refine ⟨(qa .i64 (qb z 1),ve L [[.sc (.int .u8 o1),.sc (.string m1),.sc (.int .i64 n1),.sl 4 L1]]),⟨k+1,hz1,h9,by show ve L _=_;rw [r4,hE,hsn]⟩,by show ks.length - (qa .i64 (qb z 1)).toNat<ks.length - z.toNat;rw [hz1,hz];omega,?_⟩
    cbv
   ·rw [d2U h9] at hlt
    rw [hlt]
    cbv;refine gn ?_
    have hE2:L=K:=by rw [hE,hK,d31 (by omega)]
    rw [hE2]
    exact ⟨rfl,trivial⟩
theorem Tm.ind {P:Tm→Prop} (h:∀op nm ar n b a ks,(∀k∈ks,P k)→P (.mk op nm ar n b a ks)):∀t,P t
 | .mk op nm ar n b a ks=>h op nm ar n b a ks fun k hk=>Tm.ind h k
mutual
def C8:Tm→List Tm
 | .mk op nm ar n h a ks=>.mk op nm ar n h a ks::a79 ks
def a79:List Tm→List Tm
 | []=>[]
 | t::ts=>C8 t++a79 ts
end
theorem a2b:∀l:List Tm,a79 l=l.flatMap C8
 | []=>by rw [a79];rfl
 | t::l=>by rw [a79,a2b l];rfl
def anM:Tm→Ty
 | .mk _ _ _ _ _ a _=>a
theorem b1T (t:Tm):1≤(C8 t).length:=by
 obtain ⟨op,nm,ar,n,h,a,ks⟩:=t
 rw [C8,d2X]
 omega
theorem b3o {α β:Type} (f:α→List β) (hf:∀x,1≤(f x).length):∀l:List α,l.length≤(l.flatMap f).length
 | []=>d3b _
 | x::l=>by
  rw [d3j,d2R,d2X]
  have:=b3o f hf l
  have:=hf x
  omega
def GdT (t:Tm):Prop:=∀x∈C8 t,(anM x).parts.length≤1048576
theorem b7X {op:Int} {nm ar:ByteArray} {n:Int} {h:Bool} {a:Ty} {ks:List Tm} (hn:(C8 (.mk op nm ar n h a ks)).length≤1048576) (hg:GdT (.mk op nm ar n h a ks)):a.parts.length≤1048576∧ks.length≤1048576∧∀k∈ks,(C8 k).length≤1048576∧GdT k:=by
 unfold GdT at hg
 rw [C8] at hn hg
 rw [a2b] at hn hg
 rw [d2X] at hn
 refine ⟨hg _ (d2V ..),by have:=b3o C8 b1T ks;omega,fun k hk=>⟨?_,fun x hx=>hg x (d2W _ (d3K.2 ⟨k,hk,hx⟩))⟩⟩
 obtain ⟨i,hi,e⟩:=d5r hk
 have:=a4w C8 ks i k (by rw [d2P hi,e])
 omega
theorem b6r {l:List Tm} {k:Nat} {t:Tm} (h:l[k]?=some t):(rM l)[k]?=some (cM t):=by rw [a1H,d3u,h];rfl
theorem c5l {ks:List Tm} {k:Nat} {x:Tm} (h:ks[k]?=some x):rM (ks.take (k+1))=rM (ks.take k)++[cM x]:=by
 rw [a1a h,a1H,a1H,d3Q]
 rfl
theorem c8k:∀t:Tm,(C8 t).length≤1048576→GdT t→o9 23 [.ag (cM t)] [.ag (cM t)]:=by
 intro t
 induction t using Tm.ind with
 | h op nm ar n b a ks ih =>
  intro hN hG
  obtain ⟨ha,hkl,hkk⟩:=b7X hN hG
  have hty:=c5k a ha
  have hcp:=fun k hk=>ih k hk (hkk k hk).1 (hkk k hk).2
  clear ih hN hG hkk
  obtain ⟨a0,a1,a2,a3,haa⟩:=l8 a
  rw [haa] at hty
  rw [cM,haa]
  obtain ⟨K,hK⟩:∃K,K=rM ks:=⟨_,rfl⟩
  rw [←hK]
  have hln:K.length=ks.length:=by rw [hK,a2I]
  obtain ⟨inv,hv⟩:∃inv:Int×List (List D)→Prop,inv=fun x=>∃k:Nat,x.1=(k:Int)∧k≤ks.length∧x.2=rM (ks.take k):=⟨_,rfl⟩
  have hi0:inv (0,[]):=by rw [hv];exact ⟨0,rfl,d3t _,by rw [d5d,rM]⟩
  refine N2 Tryz.func23 rfl ?_;intro qa qb _ _ _ _ _ qi _ _ _ _ _ _ _ _ _ _ _ _ _ _ va vc;intros;rename_i hA
  obtain ⟨e1,e2,e3,e4,e5,e6,e7,e8,e9⟩:=j7 hA
  obtain ⟨r1,r2,r3,r4⟩:=A8 hA
  iterate 2 (try cbv;repeat ((first|refine a2j hA 3 30 true rfl ?_|with_reducible apply f8 hA);cbv))
  try simp (maxSteps:=4000000) only [nc] at *
  refine j9 hA (γ:=Int×List (List D)) (fun x=>[(9,vi .i64 x.1),(3,.own 2),(13,.jk)]) (fun x=>[(2,.row true 30 x.2)]) inv (fun x=>ks.length - x.1.toNat) (0,[]) hi0 ?_ ?_
  ·cbv
  ·intro x hinv
   obtain ⟨z,L⟩:=x
   cbv;refine gn ?_;try simp only [nc] at *
   rw [hv] at hinv
   obtain ⟨k,hz,hk,hE⟩:=hinv
   replace hz:z=(k:Int):=hz
   replace hE:L=rM (ks.take k):=hE
   have hLl:L.length≤1048576:=by rw [hE,a2I,d3v];omega
   have hlt:qi z (va K)=decide (k<ks.length):=by rw [e7,r1,hln,hz];exact d3l.2 (by omega)
   by_cases h9:k<ks.length
   ·rw [d3a h9] at hlt
    obtain ⟨x,hx⟩:∃x,ks[k]?=some x:=⟨_,d2P h9⟩
    have h0:=hcp x (d3e hx)
    obtain ⟨d0,d1,d2,d3,d4,d5,d6,d7,d8,d9,hd⟩:=a4v x
    have gx:vc K z=some [d0,d1,d2,d3,d4,d5,d6,d7,d8,d9]:=by rw [r2,hz,d2S (by omega),show ((k:Int)).toNat=k by omega,hK,b6r hx,hd]
    rw [hd] at h0
    have hz1:qa .i64 (qb z 1)=((k+1:Nat):Int):=by rw [e1,e2,hz,IntWalk.i64_in _ (by omega)];omega
    have hm:ks.length - (qa .i64 (qb z 1)).toNat<ks.length - z.toNat:=by rw [hz1,hz];omega
    have hi:inv (qa .i64 (qb z 1),L++[[d0,d1,d2,d3,d4,d5,d6,d7,d8,d9]]):=by
     rw [hv]
     exact ⟨k+1,hz1,h9,by show L++_=_;rw [hE,c5l hx,hd]⟩
    rw [hlt]
    iterate 2 (try cbv;repeat ((first|with_reducible apply f8 hA|rw [gx]|refine f9 hA _ h0 rfl ?_|refine i7 hA _ h0 ?_|rw [ea hA]|refine A6 hA true ?_|(refine B3 hA (by simp only [d2X,d3g];omega) ?_));cbv))
    try simp (maxSteps:=4000000) only [nc] at *
    refine ⟨_,hi,hm,?_⟩
    cbv
   ·rw [d2U h9] at hlt
    have hL2:K=L:=by rw [hK,hE,d31 (by omega)]
    rw [hlt,hL2]
    iterate 2 (try cbv;repeat ((first|with_reducible apply f8 hA|refine f9 hA _ hty rfl ?_|refine i7 hA _ hty ?_);cbv))
theorem c5m:∀t:Tm,(C8 t).length≤1048576→o9 26 [.ag (cM t)] [.one (.sl 10 (rM (C8 t)))]:=by
 intro t
 induction t using Tm.ind with
 | h op nm ar n b a ks ih =>
  intro hN
  have hkk:∀k∈ks,(C8 k).length≤1048576:=fun k hk=>by
   rw [C8,a2b,d2X] at hN
   obtain ⟨i,hi,e⟩:=d5r hk
   have:=a4w C8 ks i k (by rw [d2P hi,e])
   omega
  have hcp:=fun k hk=>ih k hk (hkk k hk)
  rw [C8,a2b] at hN ⊢
  have hft:=fun k=>a4Q C8 ks k
  have hfl:=b3o C8 b1T ks
  have hfo:=fun k q h=>a4w C8 ks k q h
  obtain ⟨F,hF⟩:∃F,F=(ks.flatMap C8).length:=⟨_,rfl⟩
  rw [d2X,←hF] at hN
  rw [←hF] at hfl
  simp only [←hF] at hft hfo
  clear ih hkk
  obtain ⟨X,hX⟩:∃X,X=rM (.mk op nm ar n b a ks::ks.flatMap C8):=⟨_,rfl⟩
  rw [←hX]
  obtain ⟨a0,a1,a2,a3,haa⟩:=l8 a
  have hc0:cM (.mk op nm ar n b a ks)=[.sc (.int .u8 op),.sc (.string nm),.sc (.string ar),.sc (.int .i64 n),.sc (.bool b),a0,a1,a2,a3,.sl 10 (rM ks)]:=by rw [cM,haa];rfl
  rw [hc0]
  obtain ⟨K,hK⟩:∃K,K=rM ks:=⟨_,rfl⟩
  rw [←hK]
  rw [←hK] at hc0
  have hln:K.length=ks.length:=by rw [hK,a2I]
  obtain ⟨inv,hv⟩:∃inv:Int×List (List D)→Prop,inv=fun x=>∃k:Nat,x.1=(k:Int)∧k≤ks.length∧x.2=rM (.mk op nm ar n b a ks::(ks.take k).flatMap C8):=⟨_,rfl⟩
  have hi0:inv (0,[[.sc (.int .u8 op),.sc (.string nm),.sc (.string ar),.sc (.int .i64 n),.sc (.bool b),a0,a1,a2,a3,.sl 10 K]]):=by rw [hv];exact ⟨0,rfl,d3t _,by rw [d5d,d3m,rM,rM,hc0]⟩
  refine N2 Tryz.func26 rfl ?_;intro qa qb _ _ _ _ _ qi _ _ _ _ _ _ _ _ _ _ _ _ _ _ va vc;intros;rename_i hA
  obtain ⟨e1,e2,e3,e4,e5,e6,e7,e8,e9⟩:=j7 hA
  obtain ⟨r1,r2,r3,r4⟩:=A8 hA
  iterate 2 (try cbv;repeat ((first|with_reducible apply f8 hA|refine A6 hA false ?_|refine a1E hA true ?_);cbv))
  try simp (maxSteps:=4000000) only [nc] at *
  refine j9 hA (γ:=Int×List (List D)) (fun x=>[(4,vi .i64 x.1),(3,.own 1),(6,.jk)]) (fun x=>[(1,.row true 30 x.2)]) inv (fun x=>ks.length - x.1.toNat) (0,[[.sc (.int .u8 op),.sc (.string nm),.sc (.string ar),.sc (.int .i64 n),.sc (.bool b),a0,a1,a2,a3,.sl 10 K]]) hi0 ?_ ?_
  ·cbv
  ·intro x hinv
   obtain ⟨z,L⟩:=x
   cbv;refine gn ?_;try simp only [nc] at *
   rw [hv] at hinv
   obtain ⟨k,hz,hk,hE⟩:=hinv
   replace hz:z=(k:Int):=hz
   replace hE:L=rM (.mk op nm ar n b a ks::(ks.take k).flatMap C8):=hE
   have hLl:L.length≤1048577:=by rw [hE,a2I,d2X];have:=hft k;omega
   have hlt:qi z (va K)=decide (k<ks.length):=by rw [e7,r1,hln,hz];exact d3l.2 (by omega)
   by_cases h9:k<ks.length
   ·rw [d3a h9] at hlt
    obtain ⟨x,hx⟩:∃x,ks[k]?=some x:=⟨_,d2P h9⟩
    have h0:=hcp x (d3e hx)
    obtain ⟨d0,d1,d2,d3,d4,d5,d6,d7,d8,d9,hd⟩:=a4v x
    have gx:vc K z=some [d0,d1,d2,d3,d4,d5,d6,d7,d8,d9]:=by rw [r2,hz,d2S (by omega),show ((k:Int)).toNat=k by omega,hK,b6r hx,hd]
    rw [hd] at h0
    have hz1:qa .i64 (qb z 1)=((k+1:Nat):Int):=by rw [e1,e2,hz,IntWalk.i64_in _ (by omega)];omega
    have hm:ks.length - (qa .i64 (qb z 1)).toNat<ks.length - z.toNat:=by rw [hz1,hz];omega
    have hi:inv (qa .i64 (qb z 1),L++rM (C8 x)):=by
     rw [hv]
     refine ⟨k+1,hz1,h9,?_⟩
     show L++_=_
     rw [hE,a1a hx,d4O,d3j,d3m,d3f,←d3I,a1H,a1H,a1H,d3Q]
    have hq2:(rM (C8 x)).length≤1048576:=by rw [a2I];have:=hfo k x hx;omega
    generalize rM (C8 x)=Q at *
    rw [hlt]
    iterate 2 (try cbv;repeat ((first|with_reducible apply f8 hA|rw [gx]|refine f9 hA _ h0 rfl ?_|refine i7 hA _ h0 ?_|rw [ea hA]|refine B3 hA (by omega) ?_);cbv))
    try simp (maxSteps:=4000000) only [nc] at *
    refine ⟨_,hi,hm,?_⟩
    cbv
   ·rw [d2U h9] at hlt
    have hL2:X=L:=by rw [hX,hE,d31 (by omega)]
    rw [hlt,hL2]
    try cbv;exact fr
section
def Gd (x:PL):Prop:=x.2.length=(C8 x.1).length∧GdT x.1
def OkG (r:PL×PE):Prop:=r.2.2=0→Gd r.1
theorem a86 {op:Int} {nm ar:ByteArray} {n:Int} {h:Bool} {a:Ty} {pl:Int} {ks:List PL} (ha:a.parts.length≤1048576) (hk:∀x∈ks,Gd x):Gd (y8 op nm ar n h a pl ks):=by
 unfold y8
 refine ⟨?_,fun x hx=>?_⟩
 ·show (pl::ks.flatMap fun p=>p.2).length=_
  rw [C8,a2b,d2X,d2X]
  congr 1
  clear ha
  induction ks with
  | nil=>rfl
  | cons k ks ih =>
   rw [d3j,d3c,d3j,d2R,d2R,ih fun x hx=>hk x (d2W _ hx),(hk k (d2V ..)).1]
 ·have hx:x∈C8 (.mk op nm ar n h a (ks.map fun p=>p.1)):=hx
  rw [C8,a2b] at hx
  rcases d3d.1 hx with rfl|hx
  ·exact ha
  ·obtain ⟨t,ht,hx⟩:=d3K.1 hx
   obtain ⟨k,hk1,rfl⟩:=d4r.1 ht
   exact (hk k hk1).2 x hx
theorem a6N:r7.parts.length≤1048576:=by rw [a0Z];omega
theorem c5n {op:Int} {nm ar:ByteArray} {pl:Int} {ks:List PL} (hk:∀x∈ks,Gd x):Gd (s8 op nm ar pl ks):=a86 a6N hk
theorem a3C (op:Int) (nm:ByteArray) (n a:Int):Gd (J3 op nm n a):=a86 (op:=op) (nm:=nm) (ar:=F8) (n:=n) (h:=false) (pl:=a) (ks:=[]) a6N fun x hx=>by cases hx
theorem c5o {op:Int} {nm ar:ByteArray} {pl:Int} {x:PL} (h:Gd x):Gd (s8 op nm ar pl [x]):=c5n fun y hy=>by rw [d33.1 hy];exact h
theorem b6s {op:Int} {nm ar:ByteArray} {pl:Int} {x y:PL} (h:Gd x) (h2:Gd y):Gd (s8 op nm ar pl [x,y]):=c5n fun z hz=>by
 rcases d3d.1 hz with rfl|hz
 ·exact h
 ·rw [d33.1 hz];exact h2
theorem a6O {ts:List Tok} {s:ByteArray} {p:PE} (h:(j0 ts s p).2=0):p.2=0:=by
 by_cases h0:p.2=0
 ·exact h0
 ·rw [B9 h0] at h;exact h
theorem c5p {ts:List Tok} {s:ByteArray} {p:PE} (h:A2 ts s p=true):p.2=0:=by
 by_cases h0:p.2=0
 ·exact h0
 ·rw [a0O h0] at h;cases h
section
variable {ts:List Tok} (hE:o5 ts) (hl:ts.length≤65537)
include hE hl
theorem b7Y (n:Nat) {p:PE} (hp:p.1<ts.length):(P9 ts n p).1.parts.length≤1048576:=by
 unfold P9
 split
 ·have hf:=(P7 hE n (p.1,0) hp).1
  have h1:=hf.sz
  have h2:=hf.hi
  show (K5 ts n p.1).1.parts.length≤_
  unfold K5
  split
  ·exact a6N
  ·show (y9 _).parts.length≤_
   rw [b12 _ _ (d3b _) hf.sp]
   omega
 ·exact a6N
theorem b4W (n:Nat) {p:PE} (hp:p.1<ts.length):(m7 ts n p).1.2.2.1.parts.length≤1048576:=by
 unfold m7
 split
 ·rename_i h
  obtain ⟨a1,a2,a3⟩:=b3g hE hp h
  obtain ⟨b1,b2,b3⟩:=A0 hE a1
  obtain ⟨c1,c2,c3⟩:=j8 (s:=a5P) hE b1
  exact b7Y hE hl (n - 1) c1
 ·exact a6N
theorem b1U (n:Nat):∀(k:Nat) (s:List Pm×PE),s.2.1<ts.length→(∀m∈s.1,m.2.2.1.parts.length≤1048576)→∀m∈(B5 ts n k s).1,m.2.2.1.parts.length≤1048576
 | 0,s,h,hs=>hs
 | k+1,s,h,hs=>by
  rw [B5]
  split
  ·refine b1U n k _ (U8 hE n h).1 fun m hm=>?_
   rcases d38.1 hm with hm|hm
   ·exact hs m hm
   ·rw [d33.1 hm];exact b4W hE hl n h
  ·exact hs
omit hE hl in
theorem c2W {pl:Int} {r:Bool} {w:ByteArray} {x:PL} (hx:Gd x):∀(f:Bool) (l:List Pm),(∀m∈l,m.2.2.1.parts.length≤1048576)→Gd (fnW pl r w x f l)
 | _,[],_=>by rw [fnW];exact hx
 | f,m::l,h=>by
  rw [fnW]
  refine a86 (h m (d2V ..)) fun y hy=>?_
  rw [d33.1 hy]
  exact c2W hx false l fun m hm=>h m (d2W _ hm)
variable {ex:PF} (he:∀p:PE,p.2≠0→ex p=(zPL,p)) (hf:B8 ts ex) (hg:∀p:PE,p.1<ts.length→OkG (ex p))
include hg
theorem a8b (n:Nat) (pl:Int) (r:Bool) {p:PE} (hp:p.1<ts.length):OkG (G8 ts n ex pl r p):=by
 have hq:(if r=true then (i9 ts p).2 else p).1<ts.length:=by
  split
  ·exact (A0 hE hp).1
  ·exact hp
 unfold G8
 generalize (if r=true then (i9 ts p).2 else p)=q at *
 obtain ⟨a1,a2,a3,a4⟩:=a39 hE n hq
 refine fun h=>c2W (hg _ a1 h) true _ ?_
 refine b1U hE hl n _ _ (U8 hE n hq).1 fun m hm=>?_
 rw [d33.1 hm]
 exact b4W hE hl n hq
include he hf
theorem c5q {p:PE} (h:(ex p).2.2=0):p.2=0:=by
 by_cases h0:p.2=0
 ·exact h0
 ·rw [he p h0] at h;exact h
theorem b1V:∀(k:Nat) (s:List Fd×PE),s.2.1<ts.length→(s.2.2=0→∀f∈s.1,Gd f.2.2)→(E5 ts ex k s).2.1<ts.length∧((E5 ts ex k s).2.2=0→∀f∈(E5 ts ex k s).1,Gd f.2.2)
 | 0,s,h,hs=>⟨h,hs⟩
 | k+1,s,h,hs=>by
  rw [E5]
  split
  ·rename_i hc
   obtain ⟨a1,a2⟩:=b7U hE hf h hc
   obtain ⟨k1,k2⟩:=o8 hE h hc
   obtain ⟨b1,b2,b3⟩:=A0 hE (p:=(s.2.1+1,0)) k1
   obtain ⟨c1,c2,c3⟩:=j8 (s:=C6) hE b1
   refine b1V k _ a1 fun h0 f hf'=>?_
   rcases d38.1 hf' with hf'|hf'
   ·exact hs k2 f hf'
   ·rw [d33.1 hf'];exact hg _ c1 h0
  ·exact ⟨h,hs⟩
omit hE hl he hf hg in
theorem b6t {x:PL} (hx:Gd x):∀l:List Fd,(∀f∈l,Gd f.2.2)→Gd (fdW x l)
 | [],_=>by rw [fdW];exact hx
 | f::l,h=>by
  rw [fdW]
  exact b6s (h f (d2V ..)) (b6t hx l fun f hf=>h f (d2W _ hf))
theorem b6u (pl:Int) (w:ByteArray) {p:PE} (hp:p.1<ts.length):OkG (Y9 ts ex pl w p):=by
 obtain ⟨c1,c2,c3⟩:=j8 (s:=C6) hE hp
 have hF:=b1V hE hl he hf hg ts.length ([(w,pl,(ex (j0 ts C6 p)).1)],(ex (j0 ts C6 p)).2) (hf _ c1).hi (fun h0 f hf'=>by rw [d33.1 hf'];exact hg _ c1 h0)
 intro h
 have h2:=a6O h
 show Gd (fdW (G9 ts ex (a41 ts ex pl w p).2).1 (a41 ts ex pl w p).1)
 unfold a41 at h2 ⊢
 generalize E5 ts ex ts.length ([(w,pl,(ex (j0 ts C6 p)).1)],(ex (j0 ts C6 p)).2)=F at *
 unfold G9 at h2 ⊢
 split at h2
 ·rename_i hb
  rw [d2S hb]
  exact b6t (hg _ (o8 hE hF.1 hb).1 h2) _ (hF.2 (c5p hb))
 ·rename_i hb
  rw [d2T hb]
  exact b6t (a3C _ _ _ _) _ (hF.2 h2)
theorem c8l {p:PE} (hp:p.1<ts.length):OkG (G3 ts ex p):=by
 unfold G3
 split
 ·rename_i h
  obtain ⟨k1,k2⟩:=o8 hE hp h
  obtain ⟨b1,b2,b3⟩:=A0 hE (p:=(p.1+1,0)) k1
  obtain ⟨c1,c2,c3⟩:=j8 (s:=Q5) hE b1
  exact fun h=>c5o (hg _ c1 h)
 ·obtain ⟨a1,_,_⟩:=A0 hE hp
  obtain ⟨b1,b2,b3⟩:=A0 hE a1
  obtain ⟨c1,c2,c3⟩:=j8 (s:=Q5) hE b1
  exact fun h=>c5o (hg _ c1 h)
theorem c2X:∀(k:Nat) (f:Bool) (s:List PL×PE),s.2.1<ts.length→(s.2.2=0→∀x∈s.1,Gd x)→(chL ts ex k f s).2.2=0→∀x∈(chL ts ex k f s).1,Gd x
 | 0,f,s,h,hs=>hs
 | k+1,f,s,h,hs=>by
  rw [chL]
  split
  ·rename_i hc
   have hq:(chQ ts f s.2).1<ts.length:=by
    unfold chQ
    split
    ·exact h
    ·exact (j8 (s:=a7W) hE h).1
   have ha:=d0y hE hf he hq
   have hb:=c8l hE hl he hf hg hq
   have key:(G3 ts ex (chQ ts f s.2)).2.2=0→∀x∈s.1++[(G3 ts ex (chQ ts f s.2)).1],Gd x:=fun h0 x hx=>by
    rcases d38.1 hx with hx|hx
    ·exact hs hc.1 x hx
    ·rw [d33.1 hx];exact hb h0
   split
   ·exact key
   ·exact c2X k false _ ha.hi key
  ·exact hs
theorem b97 (pl:Int) {p:PE} (hp:p.1<ts.length):OkG (Y0 ts ex pl p):=by
 unfold Y0
 intro h
 have h2:=a6O h
 refine c5n (c2X hE hl he hf hg ts.length true ([(ex p).1],j0 ts a4Z (ex p).2) (j8 (s:=a4Z) hE (hf p hp).hi).1 (fun h0 x hx=>?_) h2)
 rw [d33.1 hx]
 exact hg p hp (a6O h0)
theorem c2Y (n:Nat) (pl:Int) {p:PE} (hp:p.1<ts.length):OkG (a1e ts n ex pl p):=by
 unfold a1e
 split
 ·rename_i h
  refine fun h2=>a86 (b7Y hE hl (n - 1) (o8 hE (hf p hp).hi h).1) fun x hx=>?_
  rw [d33.1 hx]
  exact hg p hp (c5p h)
 ·exact fun h2=>hg p hp (a6O h2)
theorem b98 (pl:Int) {p:PE} (hp:p.1<ts.length):OkG (T8 ts ex pl p):=by
 unfold T8
 split
 ·exact fun _=>a3C _ _ _ _
 ·obtain ⟨b1,b2,b3⟩:=A0 hE hp
  split
  ·rename_i h
   obtain ⟨k1,_⟩:=o8 hE b1 h
   intro h2
   have h3:=a6O h2
   have h4:=a6O (c5q hE hl he hf hg h3)
   exact b6s (hg _ k1 h4) (hg _ (j8 (s:=H6) hE (hf _ k1).hi).1 h3)
  ·exact b6u hE hl he hf hg pl _ b1
theorem c5r (n:Nat) {p:PE} (hp:p.1<ts.length):OkG (a0v ts n ex p):=by
 unfold a0v
 split
 ·exact fun h=>by rename_i h2;exact absurd h h2
 split
 ·exact fun _=>a3C _ _ _ _
 split
 ·exact fun _=>a3C _ _ _ _
 split
 ·exact fun _=>a3C _ _ _ _
 split
 ·exact fun _=>a3C _ _ _ _
 split
 ·rename_i h;exact c2Y hE hl he hf hg n _ (p:=(p.1+1,0)) (o8 hE hp h).1
 split
 ·rename_i h;exact b98 hE hl he hf hg _ (p:=(p.1+1,0)) (o8 hE hp h).1
 split
 ·rename_i h;exact b97 hE hl he hf hg _ (p:=(p.1+1,0)) (o8 hE hp h).1
 ·exact fun h=>absurd h (G2 5 (by decide) p).2
theorem c5s (n:Nat) {sm:PF} (hs:B8 ts sm) (hsg:∀p:PE,p.1<ts.length→OkG (sm p)) {p:PE} (hp:p.1<ts.length):OkG (a25 ts n ex sm p):=by
 unfold a25
 split
 ·exact fun h=>by rename_i h2;exact absurd h h2
 split
 ·rename_i h;exact a8b hE hl hg n _ _ (p:=(p.1+1,0)) (o8 hE hp h).1
 split
 ·rename_i h;exact a8b hE hl hg n _ _ (p:=(p.1+1,0)) (o8 hE hp h).1
 split
 ·rename_i h
  obtain ⟨b1,_,_⟩:=A0 hE (p:=(p.1+1,0)) (o8 hE hp h).1
  have c1:=(j8 (s:=C6) hE b1).1
  have d1:=(j8 (s:=gIn) hE (hf _ c1).hi).1
  unfold c2M
  intro h2
  have h3:=a6O (c5q hE hl he hf hg h2)
  exact b6s (hg _ c1 h3) (hg _ d1 h2)
 split
 ·rename_i h
  have k1:=(o8 hE hp h).1
  have c1:=(j8 (s:=a1A) hE (hf (p.1+1,0) k1).hi).1
  have d1:=(j8 (s:=J4) hE (hf _ c1).hi).1
  unfold ifW
  intro h2
  have h3:=a6O (c5q hE hl he hf hg h2)
  have h4:=a6O (c5q hE hl he hf hg h3)
  refine c5n fun x hx=>?_
  rcases d3d.1 hx with rfl|hx
  ·exact hg _ k1 h4
  rcases d3d.1 hx with rfl|hx
  ·exact hg _ c1 h3
  ·rw [d33.1 hx];exact hg _ d1 h2
 ·have ha:=hsg p hp
  unfold b91
  split
  ·rename_i h
   exact fun h2=>b6s (ha (c5p h)) (hsg _ (o8 hE (hs p hp).hi h).1 h2)
  split
  ·rename_i h
   exact fun h2=>b6s (ha (c5p h)) (hsg _ (o8 hE (hs p hp).hi h).1 h2)
  ·exact ha
end
section
variable {ts:List Tok} (hE:o5 ts)
theorem b4X {a:Int}:∀(k:Nat) (s:PL×PE),OkG s→OkG (M5 ts a k s)
 | 0,s,h=>h
 | k+1,s,h=>by
  rw [M5]
  cases hg:n8 ts a1c s.2 with
  | none=>exact h
  | some g =>
   refine b4X k _ fun h2=>c5o (h ?_)
   by_cases h0:s.2.2=0
   ·exact h0
   ·rw [a1b h0] at hg;cases hg
include hE
theorem b3p {sg:List ByteArray} {nx:PF} (hf:B8 ts nx) (hn:∀p:PE,p.1<ts.length→OkG (nx p)) {a:Int}:∀(k:Nat) (s:PL×PE),s.2.1<ts.length→OkG s→OkG (Z3 sg nx ts a k s)
 | 0,s,hs,h=>h
 | k+1,s,hs,h=>by
  rw [Z3]
  cases hg:n8 ts sg s.2 with
  | none=>exact h
  | some g =>
   obtain ⟨g1,g2,g3⟩:=P8 hE hs hg
   exact b3p hf hn k _ (hf (s.2.1+1,0) g2).hi fun h2=>b6s (h g1) (hn (s.2.1+1,0) g2 h2)
omit hE in
theorem b7Z {pr:PF} (hf:B8 ts pr) (hn:∀p:PE,p.1<ts.length→OkG (pr p)) {a:Int}:∀(k:Nat) (s:PL×PE),s.2.1<ts.length→OkG s→OkG (a1L pr ts a k s)
 | 0,s,hs,h=>h
 | k+1,s,hs,h=>by
  rw [a1L]
  split
  ·rename_i hc
   exact b7Z hf hn k _ (hf s.2 hs).hi fun h2=>b6s (h hc.1) (hn s.2 hs h2)
  ·exact h
theorem c8m (m:Nat) {nx pr:PF} (hn:∀p:PE,p.1<ts.length→OkG (nx p)) (hr:∀p:PE,p.1<ts.length→OkG (pr p)) {p:PE} (hp:p.1<ts.length):OkG (a76 ts m nx pr p):=by
 have key:∀(op:Int),p.1+1<ts.length→OkG (a3B ts m op pr p):=fun op k1=>by
  obtain ⟨b1,b2,b3⟩:=A0 hE (p:=(p.1+1,0)) k1
  unfold a3B
  split
  ·rename_i h
   intro h2
   exfalso
   have h2:(K6 m (i9 ts (p.1+1,0)).2).2=0:=h2
   unfold K6 at h2
   split at h2
   ·exact (G2 6 (by decide) _).2 h2
   ·rename_i h3
    exact (h.resolve_left h3) h2
  ·exact fun h2=>c5o (hr _ b1 h2)
 unfold a76
 split
 ·rename_i h;exact key _ (o8 hE hp h).1
 split
 ·rename_i h;exact key _ (o8 hE hp h).1
 ·exact hn p hp
end
theorem c5Y {ts:List Tok} (hE:o5 ts) (hl:ts.length≤65537):∀n,(∀p:PE,p.1<ts.length→OkG ((lvW ts n).1 p))∧(∀p:PE,p.1<ts.length→OkG ((lvW ts n).2 p))
 | 0=>by
  have h:∀p:PE,p.1<ts.length→OkG (zPL,E7 6 p):=fun p _ h=>absurd h (G2 6 (by decide) p).2
  exact ⟨h,h⟩
 | n+1=>by
  obtain ⟨g1,g2⟩:=c5Y hE hl n
  obtain ⟨h1,h2,h3⟩:=a44 hE n
  have hat:B8 ts (a0v ts (n+1) (lvW ts n).1):=fun p hp=>b0r hE (n+1) h1 h2 hp
  have hP:B8 ts (a43 ts n (lvW ts n).1 (lvW ts n).2):=(a44 hE (n+1)).2.2
  have gP:∀p:PE,p.1<ts.length→OkG (a43 ts n (lvW ts n).1 (lvW ts n).2 p):=fun p hp=>c8m hE n (fun q hq=>b4X _ _ (c5r hE hl h2 h1 g1 (n+1) hq)) g2 hp
  have gA:∀p:PE,p.1<ts.length→OkG (a73 (a43 ts n (lvW ts n).1 (lvW ts n).2) ts p):=fun p hp=>b7Z hP gP _ _ (hP p hp).hi (gP p hp)
  have gM:∀p:PE,p.1<ts.length→OkG (a7T (a73 (a43 ts n (lvW ts n).1 (lvW ts n).2) ts) ts p):=fun p hp=>b3p hE (b9o hP) gA _ _ (b9o hP p hp).hi (gA p hp)
  have hM:=(a2u hE hP).1
  have gS:∀p:PE,p.1<ts.length→OkG (c7O ts (a43 ts n (lvW ts n).1 (lvW ts n).2) p):=fun p hp=>b3p hE hM gM _ _ (hM p hp).hi (gM p hp)
  exact ⟨fun p hp=>c5s hE hl h2 h1 g1 (n+1) (a2u hE hP).2 gS hp,gP⟩
end
end Go.Proofs.YtahpnackkmbmgaaGreat.Vm
end
section
namespace Go.Proofs.YtahpnackkmbmgaaGreat
open Go.RowKit
set_option maxRecDepth 100000
set_option maxHeartbeats 4000000
def a2J:List UInt8:=[57,50,50,51,51,55,50,48,51,54,56,53,52,55,55,53,56,48,55]
def a2K:List Int:=[57,50,50,51,51,55,50,48,51,54,56,53,52,55,55,53,56,48,55]
theorem b6v (a b:List UInt8):Op.bytesLess a b=a3E (a.map fun c=>(c.toNat:Int)) (b.map fun c=>(c.toNat:Int)):=by
 induction a generalizing b with
 | nil=>cases b <;> rfl
 | cons x a ih =>
  cases b with
  | nil=>rfl
  | cons y b =>
   simp only [Op.bytesLess,d3c,a3E]
   by_cases e:x=y
   ·subst e
    simp [ih]
   ·have e':¬((x.toNat:Int)=(y.toNat:Int)):=fun h=>e (d48.1 (by omega))
    rw [d2T e']
    have e2:(x == y)=false:=d34.2 e
    rw [e2]
    simp [d4D]
theorem c2Z {a b:List Int} (h:a.length=b.length) (h1:a3E a b=false) (h2:a3E b a=false):a=b:=by
 induction a generalizing b with
 | nil=>cases b with|nil=>rfl|cons _ _=>simp at h
 | cons x a ih =>
  cases b with
  | nil=>simp at h
  | cons y b =>
   simp only [a3E] at h1 h2
   by_cases e:x=y
   ·rw [d2S e] at h1
    rw [d2S e.symm] at h2
    rw [e,ih (by simpa using h) h1 h2]
   ·rw [d2T e,d4W] at h1
    rw [d2T (d4R e),d4W] at h2
    omega
theorem a6P:a0V a2K∧N4 a2K 0=9223372036854775807∧a2K.length=19:=by
 refine ⟨?_,by decide,rfl⟩
 intro x hx
 simp [a2K] at hx
 omega
theorem b4Y {m n:Nat} (h:m≤n):ten m≤ten n:=by
 induction n with
 | zero=>rw [Nat.le_zero.1 h];omega
 | succ n ih =>
  by_cases e:m=n+1
  ·rw [e];omega
  ·have:=ih (by omega)
   have:=a8x n
   simp only [ten];omega
theorem b0u (s:ByteArray) (h1:1≤s.size) (h0:¬(gb (l7 s) 0=48∧1<(l7 s).length)) (hd:a0V (l7 s)) :
  (19<s.size∨(s.size=19∧(!(Op.bytesLess s.toList a2J) && !(s.toList == a2J))=true))↔9223372036854775807<N4 (l7 s) 0:=by
 have hl:=G6 s
 have hlt:=a8y hd
 have he:l7 s=s.toList.map fun c=>(c.toNat:Int):=by rw [ByteArray.toList_eq];rfl
 have hlim:a2J.map (fun c=>(c.toNat:Int))=a2K:=by decide
 have e19:ten 19=10000000000000000000:=by simp [ten]
 have e18:ten 18=1000000000000000000:=by simp [ten]
 by_cases h:s.size<19
 ·constructor
  ·intro hh;omega
  ·intro hh
   have:=b4Y (show (l7 s).length≤18 by omega)
   omega
 ·by_cases h':s.size=19
  ·have hless1:Op.bytesLess s.toList a2J=a3E (l7 s) a2K:=by rw [b6v,←he,hlim]
   have hlen:(l7 s).length=a2K.length:=by rw [hl,h'];rfl
   have hv1:=b4h hd a6P.1 hlen
   have hv2:=b4h a6P.1 hd hlen.symm
   rw [a6P.2.1] at hv1 hv2
   have heq:(s.toList == a2J)=true→l7 s=a2K:=fun h=>by rw [he,d3F.1 h,hlim]
   rw [hless1]
   constructor
   ·rintro (h|⟨_,h⟩)
    ·omega
    ·simp only [d2Z,d42] at h
     apply hv2.1
     cases hc:a3E a2K (l7 s)
     ·have:=c2Z hlen h.1 hc
      have h3:s.toList=a2J:=by
       have h4:s.toList.map (fun c=>(c.toNat:Int))=a2J.map (fun c=>(c.toNat:Int)):=by rw [←he,hlim,this]
       exact (List.map_inj_right (fun x y hxy=>d48.1 (by omega))).1 h4
      rw [h3] at h
      simp at h
     ·rfl
   ·intro hgt
    right
    refine ⟨h',?_⟩
    have h2:=hv2.2 hgt
    simp only [d2Z,d42]
    constructor
    ·cases hc:a3E (l7 s) a2K
     ·rfl
     ·have:=hv1.1 hc;omega
    ·cases hc:(s.toList == a2J)
     ·rfl
     ·have:=heq hc
      rw [this,a6P.2.1] at hgt
      omega
  ·constructor
   ·intro _
    have hn:¬gb (l7 s) 0=48:=fun hh=>h0 ⟨hh,by omega⟩
    match hs:l7 s,hl with
    | [],hl=>simp at hl;omega
    | c::r,hl =>
     rw [hs] at hn hd hlt
     have hc:=hd c (by simp)
     have hg:gb (c::r) 0=c:=rfl
     rw [hg] at hn
     simp only [N4]
     rw [a6y]
     have hr:=a8y (fun x hx=>hd x (by simp [hx]):a0V r)
     have ht:=b4Y (show 19≤r.length by simp at hl;omega)
     have h1:1 * ten r.length≤(10 * 0+(c - 48)) * ten r.length:=d4o (by omega) (d5a (a8x _))
     omega
   ·intro _;left;omega
end Go.Proofs.YtahpnackkmbmgaaGreat
end
section
namespace Go.Proofs.YtahpnackkmbmgaaGreat.Vm
open Go.RowKit
set_option maxRecDepth 100000
set_option maxHeartbeats 4000000
theorem c3a {x m:Int} (h:x - 48=m) (h0:0≤m) (h1:m≤9223372036854775807):IntKind.i64.wrap (IntKind.i64.wrap x - 48)=m:=by
 rw [IntKind.wrap_i64,IntKind.wrap_i64];omega
theorem c8n (s:ByteArray) (h1:1≤s.size) (hm:s.size≤1048576):o9 85 [.one (.sc (.string s))] [.one (.sc (.int .i64 (a0x (l7 s)).1)),.one (.sc (.int .i64 (a0x (l7 s)).2))]:=by
 have hget:=fun k (h:k<(l7 s).length)=>a4M h
 have hlen:(s.size:Int)=((l7 s).length:Int):=by rw [G6]
 have hgr:=b0u s h1
 have h1':1≤(l7 s).length:=by rw [G6];exact h1
 have hm':(l7 s).length≤1048576:=by rw [G6];exact hm
 have hsz:s.size=(l7 s).length:=by rw [G6]
 rw [hsz] at hgr
 generalize l7 s=l at *
 obtain ⟨p,c,hp⟩:∃p c,p=(a0x l).1∧c=(a0x l).2:=⟨_,_,rfl,rfl⟩
 rw [←hp.1,←hp.2]
 have hv:∀ {n e:Int},a0x l=(n,e)→p=n∧c=e:=fun h=>by rw [h] at hp;exact hp
 clear hp
 obtain ⟨N,hN⟩:∃N,N=(l.length:Int):=⟨_,rfl⟩
 rw [←hN] at hlen
 have g0:=hget 0 (by omega)
 obtain ⟨c0,hc0⟩:∃c0,c0=gb l 0:=⟨_,rfl⟩
 rw [←hc0] at g0
 obtain ⟨inv,hi⟩:∃inv:Int→Prop,inv=fun z=>∃k:Nat,z=(k:Int)∧k≤l.length∧(0<k→¬(gb l 0=48∧1<l.length))∧∀i,i<k→E9 (gb l i)=true:=⟨_,rfl⟩
 have hi0:inv 0:=by rw [hi];exact ⟨0,rfl,d3t _,fun h=>by omega,fun i h=>by omega⟩
 obtain ⟨inv2,hi2⟩:∃inv2:Int×Int→Prop,inv2=fun x=>∃k:Nat,x.2=(k:Int)∧k≤l.length∧0≤x.1∧x.1≤9223372036854775807∧x.1=N4 (l.take k) 0:=⟨_,rfl⟩
 have hi20:inv2 (0,0):=by rw [hi2];exact ⟨0,rfl,d3t _,by decide,by decide,rfl⟩
 refine N2 Tryz.func85 rfl ?_;intro qa qb qc qd _ _ _ qi _ qk _ qm qo qp _ _ qu qv;intros;rename_i hA
 obtain ⟨e1,e2,e3,e4,e5,e6,e7,e8,e9⟩:=j7 hA
 obtain ⟨s1,s2,s3,s4,s5,s6,-⟩:=G1 hA
 have q0:qu s=N:=by rw [s5];exact hlen
 have q1:qv s 0=some c0:=by rw [s6];exact g0
 have q2:qu ⟨⟨[57,50,50,51,51,55,50,48,51,54,56,53,52,55,55,53,56,48,55]⟩⟩=19:=by rw [s5];rfl
 try cbv;refine gr ?_;try simp only [nc] at *
 refine j9 hA (γ:=Int) (fun z=>[(4,vi .i64 z)]) (fun _=>[]) inv (fun z=>l.length - z.toNat) 0 hi0 ?_ ?_
 ·cbv
 ·intro z hinv
  cbv;refine gn ?_;try simp only [nc] at *
  rw [hi] at hinv
  obtain ⟨k,hz,hk,hZ,hE⟩:=hinv
  replace hz:z=(k:Int):=hz
  by_cases h9:k<l.length
  ·have p0:qi z N=true:=el hA (d3a (by omega))
   have p1:qv s z=some (gb l k):=by rw [s6,hz];exact hget k h9
   have hd:=a9X (gb l k)
   have p2:qa .i64 (qb z 1)=((k+1:Nat):Int):=ew hA (by rw [IntWalk.i64_in _ (by omega)];omega)
   have hkd:=a99 (gb l k)
   have hb:=fun h=>hv (b4k (k:=k) h9 h)
   have hm:l.length - ((k+1:Nat):Int).toNat<l.length - z.toNat:=by omega
   have hf:E9 (gb l k)=true→¬(gb l 0=48∧1<l.length)→inv ((k+1:Nat):Int):=fun h h'=>by
    rw [hi]
    refine ⟨k+1,rfl,by omega,fun _=>h',fun i h'=>?_⟩
    by_cases e:i=k
    ·rw [e];exact h
    ·exact hE i (by omega)
   generalize gb l k=c1 at *
   generalize a0d c1=kc at *
   generalize ((k+1:Nat):Int)=z1 at *
   by_cases hd3:kc=3
   ·have p3:qk kc 3=true:=eb hA (by rw [hd3];rfl)
    have hdt:=hkd.1 hd3
    by_cases hzz:gb l 0=48∧1<l.length
    ·have t0:qk c0 48=true:=eb hA (by rw [hc0,hzz.1];rfl)
     have t1:qi 1 N=true:=el hA (d3a (by omega))
     obtain ⟨rfl,rfl⟩:=hv (b1w hzz.1 hzz.2)
     try cbv;exact fr
    ·have hg:=hf hdt hzz
     have key:qk c0 48=false∨(qk c0 48=true∧qi 1 N=false):=by
      by_cases h:c0=48
      ·exact .inr ⟨eb hA (by rw [h];rfl),el hA (d2U (by omega))⟩
      ·exact .inl (eb hA (d2Y h))
     rcases key with t0|⟨t0,t1⟩
     ·try cbv;refine gr ?_;try simp only [nc] at *
      refine ⟨z1,hg,hm,?_⟩
      cbv
     ·try cbv;refine gr ?_;try simp only [nc] at *
      refine ⟨z1,hg,hm,?_⟩
      cbv
   ·have p3:qk kc 3=false:=eb hA (d2Y hd3)
    obtain ⟨rfl,rfl⟩:=hb (by
     cases h:E9 c1
     ·rfl
     ·exact absurd (hkd.2 h) hd3)
    try cbv;exact fr
  ·have p0:qi z N=false:=el hA (d2U (by omega))
   have hall:=b1x (l:=l) (fun i hi=>hE i (by omega))
   have HZ:=hZ (by omega)
   replace hgr:=hgr HZ hall.2
   obtain ⟨b1,hb1⟩:∃b,b=Op.bytesLess s.toList a2J:=⟨_,rfl⟩
   obtain ⟨b2,hb2⟩:∃b,b=(s.toList == a2J):=⟨_,rfl⟩
   have q3:qo (qp s) (qp ⟨⟨[57,50,50,51,51,55,50,48,51,54,56,53,52,55,55,53,56,48,55]⟩⟩)=b1:=by rw [s2,s3,s3,ByteArray.toList_eq ⟨⟨[57,50,50,51,51,55,50,48,51,54,56,53,52,55,55,53,56,48,55]⟩⟩,hb1];rfl
   have q4:qm (qp s) (qp ⟨⟨[57,50,50,51,51,55,50,48,51,54,56,53,52,55,55,53,56,48,55]⟩⟩)=b2:=by rw [s1,s3,s3,ByteArray.toList_eq ⟨⟨[57,50,50,51,51,55,50,48,51,54,56,53,52,55,55,53,56,48,55]⟩⟩,hb2];rfl
   rw [←hb1,←hb2] at hgr
   clear hb1 hb2
   have key:(qi 19 N=true∧19<l.length)∨(qi 19 N=false∧qk N 19=false∧l.length<19)∨(qi 19 N=false∧qk N 19=true∧l.length=19):=by
    by_cases h:19<l.length
    ·exact .inl ⟨el hA (d3a (by omega)),h⟩
    ·by_cases h':l.length=19
     ·exact .inr (.inr ⟨el hA (d2U (by omega)),eb hA (by rw [d3F];omega),h'⟩)
     ·exact .inr (.inl ⟨el hA (d2U (by omega)),eb hA (d2Y (by omega)),by omega⟩)
   have hlg:=fun h=>hv (a9D HZ hall.1 (hgr.1 h))
   have hno:=fun (h:¬(19<l.length∨(l.length=19∧(!b1 && !b2)=true)))=>And.intro (show N4 l 0≤9223372036854775807 from Int.not_lt.1 fun h'=>h (hgr.2 h')) (hv (b7u HZ hall.1 (fun h'=>h (hgr.2 h'))))
   clear hgr
   rcases key with ⟨t0,hl⟩|⟨t0,t1,hl⟩|⟨t0,t1,hl⟩
   ·obtain ⟨rfl,rfl⟩:=hlg (.inl hl)
    try cbv;exact fr
   case' inr.inl =>
    have hnv:=hno (by omega)
    iterate 2 (try cbv;repeat ((first|with_reducible apply f8 hA|rw [p0]|rw [q0]|rw [q2]|rw [t0]|rw [t1]);cbv))
   case' inr.inr =>
    cases b1 <;> cases b2
   case inr.inr.false.false =>
    obtain ⟨rfl,rfl⟩:=hlg (.inr ⟨hl,rfl⟩)
    try cbv;exact fr
   case' inr.inr.false.true =>
    have hnv:=hno (by rintro (h|h);omega;cases h.2)
    iterate 2 (try cbv;repeat ((first|with_reducible apply f8 hA|rw [p0]|rw [q0]|rw [q2]|rw [t0]|rw [t1]|rw [q3]|rw [q4]);cbv))
   case' inr.inr.true.false =>
    have hnv:=hno (by rintro (h|h);omega;cases h.2)
    iterate 2 (try cbv;repeat ((first|with_reducible apply f8 hA|rw [p0]|rw [q0]|rw [q2]|rw [t0]|rw [t1]|rw [q3]|rw [q4]);cbv))
   case' inr.inr.true.true =>
    have hnv:=hno (by rintro (h|h);omega;cases h.2)
    iterate 2 (try cbv;repeat ((first|with_reducible apply f8 hA|rw [p0]|rw [q0]|rw [q2]|rw [t0]|rw [t1]|rw [q3]|rw [q4]);cbv))
   all_goals
    refine j9 hA (γ:=Int×Int) (fun x=>[(6,vi .i64 x.1),(7,vi .i64 x.2)]) (fun _=>[]) inv2 (fun x=>l.length - x.2.toNat) (0,0) hi20 ?_ ?_
    ·cbv
    ·intro x hinv2
     obtain ⟨n,i⟩:=x
     cbv;refine gn ?_;try simp only [nc] at *
     rw [hi2] at hinv2
     obtain ⟨j,hi,hj,hn0,hn1,hn⟩:=hinv2
     replace hi:i=(j:Int):=hi
     replace hn0:0≤n:=hn0
     replace hn1:n≤9223372036854775807:=hn1
     replace hn:n=N4 (l.take j) 0:=hn
     by_cases h8:j<l.length
     ·have p1:qi i N=true:=el hA (d3a (by omega))
      have p2:qv s i=some (gb l j):=by rw [s6,hi];exact hget j h8
      have hdg:=hall.2 _ (b5o (l:=l) (i:=j) h8)
      have hst:=b1t (l:=l) (k:=j) h8
      have hmo:=b1s hall.2 (j+1)
      have hmx:=hnv.1
      rw [←hn] at hst
      obtain ⟨c1,hc1⟩:∃c1,c1=gb l j:=⟨_,rfl⟩
      rw [←hc1] at p2 hdg hst
      obtain ⟨m,hm1⟩:∃m,m=10 * n:=⟨_,rfl⟩
      have p3:qa .i64 (qd 10 n)=m:=emu hA (by rw [IntWalk.i64_in _ (by omega)];exact hm1.symm)
      have p4:qa .i64 c1=c1:=ewp hA (IntWalk.i64_in _ (by omega))
      obtain ⟨m2,hm2⟩:∃m2,m2=IntKind.i64.wrap (m+c1):=⟨_,rfl⟩
      have p5:qa .i64 (qb m c1)=m2:=ew hA hm2.symm
      obtain ⟨n2,hn2⟩:∃n2,n2=m+c1 - 48:=⟨_,rfl⟩
      have p6:qa .i64 (qc m2 48)=n2:=esu hA (by rw [hm2];exact c3a hn2.symm (by omega) (by omega))
      have pa:qa .i64 (qb i 1)=((j+1:Nat):Int):=ew hA (by rw [IntWalk.i64_in _ (by omega)];omega)
      have hf:inv2 (n2,((j+1:Nat):Int)):=by rw [hi2];exact ⟨j+1,rfl,by omega,by show 0≤n2;omega,by show n2≤_;omega,by show n2=_;omega⟩
      have hm:l.length - ((j+1:Nat):Int).toNat<l.length - i.toNat:=by omega
      generalize ((j+1:Nat):Int)=z1 at *
      iterate 2 (try cbv;repeat ((first|with_reducible apply f8 hA|rw [p1]|rw [q0]|rw [p2]|rw [p3]|rw [p4]|rw [p5]|rw [p6]|rw [pa]);cbv))
      try simp (maxSteps:=4000000) only [nc] at *
      refine ⟨(n2,z1),hf,hm,?_⟩
      cbv
     ·have p1:qi i N=false:=el hA (d2U (by omega))
      rw [d31 (by omega)] at hn
      obtain ⟨rfl,rfl⟩:=hnv.2
      generalize N4 l 0=n3 at *
      subst hn
      try cbv;exact fr
def b6w (s:ByteArray) (at_:Int):Tok×Int :=
 if E9 (gb (l7 s) 0)=true then (⟨2,⟨#[]⟩,(a0x (l7 s)).1,at_⟩,(a0x (l7 s)).2) else
 if a5B s=true then (⟨3,s,0,at_⟩,0) else if a1S (l7 s)=false then (⟨0,⟨#[]⟩,0,0⟩,4) else
 if 32<(l7 s).length then (⟨0,⟨#[]⟩,0,0⟩,7) else (⟨1,s,0,at_⟩,0)
theorem c5t (s:ByteArray) (z:Int):(b6w s z).2=(a0k s z).2∧((a0k s z).2=0→(b6w s z).1=(a0k s z).1):=by
 unfold b6w a0k
 repeat' split
 all_goals first|exact ⟨rfl,fun _=>rfl⟩|exact ⟨rfl,fun h=>absurd (show (4:Int)=0 from h) (by decide)⟩|exact ⟨rfl,fun h=>absurd (show (7:Int)=0 from h) (by decide)⟩
theorem c8o (s:ByteArray) (z:Int) (h1:1≤s.size) (hm:s.size≤1048576):o9 52 [.one (.sc (.string s)),.one (.sc (.int .i64 z))] [.ag (b4l (b6w s z).1),.one (.sc (.int .i64 (b6w s z).2))]:=by
 have g0:=a4M (s:=s) (k:=0) (by rw [G6];exact h1)
 have kO:=c5J
 have k0:=c8n s h1 hm
 have k1:=d1p W9 s (by decide)
 have k2:=c1N s (by omega)
 have k3:=a9X (gb (l7 s) 0)
 have hkd:=a99 (gb (l7 s) 0)
 rw [show inB W9 s=a5B s from rfl] at k1
 rw [b1y] at k2
 have hlen:(s.size:Int)=((l7 s).length:Int):=by rw [G6]
 have h9:decide ((32:Int)<(s.size:Int))=decide (32<(l7 s).length):=d3l.2 (by omega)
 unfold b4l b6w
 generalize (a0x (l7 s)).1=n1 at *
 generalize (a0x (l7 s)).2=n2 at *
 generalize gb (l7 s) 0=c at *
 obtain ⟨N,hN⟩:∃N,N=(s.size:Int):=⟨_,rfl⟩
 rw [←hN] at h9
 clear hlen
 obtain ⟨d,hd⟩:∃d,d=E9 c:=⟨_,rfl⟩
 obtain ⟨o,ho⟩:∃o,o=a5B s:=⟨_,rfl⟩
 obtain ⟨v,hv⟩:∃v,v=a1S (l7 s):=⟨_,rfl⟩
 obtain ⟨g,hg⟩:∃g,g=decide (32<(l7 s).length):=⟨_,rfl⟩
 rw [←hd] at hkd ⊢
 rw [←ho] at k1 ⊢
 rw [←hv] at k2 ⊢
 rw [←hg] at h9
 have hgl:(32<(l7 s).length)=(g=true):=by rw [hg,d4d]
 simp only [hgl]
 clear hgl
 clear hd ho hv hg h1 hm
 generalize a0d c=kc at *
 generalize rS W9=W at *
 generalize rS H7=W2 at *
 refine N2 Tryz.func52 rfl ?_;intro _ _ _ _ _ _ _ _ _ qk _ _ _ _ _ _ qu qv;intros;rename_i hA
 obtain ⟨s1,s2,s3,s4,s5,s6,-⟩:=G1 hA
 have q0:qu s=N:=by rw [s5];exact hN.symm
 have q1:qv s 0=some c:=by rw [s6];exact g0
 have q2:=el hA h9
 cases d
 ·have q3:qk kc 3=false:=eb hA (d2Y fun h=>by cases hkd.1 h)
  cases o
  ·cases v
   ·try cbv;exact fr
   ·cases g
    ·try cbv;exact fr
    ·try cbv;exact fr
  ·try cbv;exact fr
 ·have q3:qk kc 3=true:=eb hA (by rw [hkd.2 rfl];rfl)
  try cbv;exact fr
end Go.Proofs.YtahpnackkmbmgaaGreat.Vm
end
section
namespace Go.Proofs.YtahpnackkmbmgaaGreat
open Go.RowKit
set_option maxRecDepth 100000
set_option maxHeartbeats 4000000
def b99 (l:List Int) (a:Nat) (s:ByteArray):Bool:=decide (a+s.size≤l.length) && ((strOfNums ((l.drop a).take s.size)).toList == s.toList)
def a47 (l:List Int) (a:Nat):List ByteArray→ByteArray
 | []=>⟨#[]⟩
 | s::ws=>if b99 l a s=true then s else a47 l a ws
def a48:List Int→List Int→Bool
 | [],_=>true
 | _,[]=>false
 | x::xs,y::ys=>(x == y) && a48 xs ys
theorem b1W:∀(p d:List Int),a48 p d=true↔p.length≤d.length∧d.take p.length=p
 | [],d=>by simp [a48]
 | x::xs,[]=>by simp [a48]
 | x::xs,y::ys=>by
  simp only [a48,d2Z,d3F,b1W xs ys,d2X,d5s,List.cons.injEq]
  constructor
  ·rintro ⟨rfl,h1,h2⟩;exact ⟨by omega,rfl,h2⟩
  ·rintro ⟨h1,rfl,h2⟩;exact ⟨rfl,by omega,h2⟩
theorem b4Z (s:ByteArray):strOfNums (l7 s)=s:=by
 unfold l7 strOfNums
 apply d5z
 have e:((fun n:Int=>UInt8.ofNat n.toNat) ∘ fun b:UInt8=>((b.toNat:Nat):Int))=id:=by
  funext b
  simp
 simp [e]
theorem c3b {l:List Int} {a:Nat} (hb:Byt l) (ha:a≤l.length) (s:ByteArray):b99 l a s=a48 (l7 s) (l.drop a):=by
 have h2:Byt ((l.drop a).take s.size):=fun x hx=>hb x (d4t (d4s hx))
 rw [d4w,b1W,G6,d3x]
 unfold b99
 rw [d2Z,decide_eq_true_iff,d3F]
 constructor
 ·rintro ⟨h,e⟩
  refine ⟨by omega,?_⟩
  rw [ByteArray.toList_eq,ByteArray.toList_eq] at e
  have e':strOfNums ((l.drop a).take s.size)=s:=by
   apply d5z
   exact Array.toList_inj.1 e
  rw [←c1l h2,e']
 ·rintro ⟨h,e⟩
  refine ⟨by omega,?_⟩
  rw [e,b4Z]
def a3j (d:List Int):List (List Int)→List Int
 | []=>[]
 | p::ps=>if a48 p d=true then p else a3j d ps
theorem c3c {l:List Int} {a:Nat} (hb:Byt l) (ha:a≤l.length):∀ws:List ByteArray,l7 (a47 l a ws)=a3j (l.drop a) (ws.map l7)
 | []=>rfl
 | s::ws=>by
  simp only [a47,d3c,a3j]
  rw [←c3b hb ha]
  by_cases h:b99 l a s=true
  ·rw [d2S h,d2S h]
  ·rw [d2T h,d2T h];exact c3c hb ha ws
theorem c5u:H7.map l7=a2E:=by decide +kernel
theorem c3d (x:Int) (t:List Int) (h1:∀p∈a2E.take 4,a48 p (x::t)=false):a3j (x::t) a2E=if x∈a7v then [x] else []:=by
 have e1:a3j (x::t) a2E=a3j (x::t) (a2E.drop 4):=by
  simp only [a2E,d5s,d5d,d3d,d4p,d5x,forall_eq_or_imp,forall_eq] at h1
  obtain ⟨a,b,c,d⟩:=h1
  simp only [a2E,d5q,d4g]
  rw [a3j,a,d2T (by decide),a3j,b,d2T (by decide),a3j,c,d2T (by decide),a3j,d,d2T (by decide)]
 have e2:∀L:List Int,a3j (x::t) (L.map fun c=>[c])=if x∈L then [x] else []:=by
  intro L
  induction L with
  | nil=>rfl
  | cons c L ih =>
   simp only [d3c,a3j,a48,ih,Bool.and_true,d3F,d3d]
   by_cases h:c=x
   ·rw [d2S h,d2S (.inl h.symm),h]
   ·rw [d2T h]
    by_cases h2:x∈L
    ·rw [d2S h2,d2S (.inr h2)]
    ·rw [d2T h2,d2T (by rintro (h3|h3);exact h h3.symm;exact h2 h3)]
 rw [e1,←e2 a7v]
 rfl
theorem c3e (d:List Int) (hd:d≠[]):a3j d a2E=d.take (E2 d):=by
 cases d with
 | nil=>exact absurd rfl hd
 | cons x t =>
  by_cases h:2≤(x::t).length∧b28 (gb (x::t) 0) (gb (x::t) 1)=true
  ·have hs:E2 (x::t)=2:=by unfold E2;rw [d2S h]
   rw [hs]
   obtain ⟨h1,h2⟩:=h
   cases t with
   | nil=>simp at h1
   | cons y t =>
    simp [gb,b28] at h2
    rcases h2 with ⟨rfl,rfl⟩|⟨rfl,rfl⟩|⟨rfl,rfl⟩|⟨rfl,rfl⟩ <;> rfl
  ·have hs:E2 (x::t)=if x∈a7v then 1 else 0:=by unfold E2;rw [d2T h];rfl
   rw [c3d,hs]
   ·split <;> rfl
   ·intro p hp
    cases t with
    | nil =>
     simp [a2E] at hp
     rcases hp with rfl|rfl|rfl|rfl <;> simp [a48]
    | cons y t =>
     simp [gb,b28] at h
     simp [a2E] at hp
     rcases hp with rfl|rfl|rfl|rfl <;> simp [a48] <;> omega
theorem b9A {l:List Int} {a:Nat} (hb:Byt l) (ha:a<l.length):a47 l a H7=strOfNums ((l.drop a).take (E2 (l.drop a))):=by
 rw [←b4Z (a47 l a H7),c3c hb (by omega),c5u,c3e]
 intro h
 have:=congrArg List.length h
 rw [d3x] at this
 simp at this
 omega
theorem b9B {l:List Int} {a j:Nat} {ws:List ByteArray} {x:ByteArray} (hj:j<ws.length) (hx:x=ws.getD j ByteArray.empty):a47 l a (ws.drop j)=if b99 l a x=true then x else a47 l a (ws.drop (j+1)):=by
 rw [d3r hj,a47]
 have:ws[j]=x:=by rw [hx];simp [hj]
 rw [this]
theorem b6x:∀s∈H7,1≤s.size∧s.size≤2:=by
 intro s hs
 simp only [H7,d3d,d4p,d5x] at hs
 rcases hs with rfl|rfl|rfl|rfl|rfl|rfl|rfl|rfl|rfl|rfl|rfl|rfl|rfl|rfl|rfl|rfl|rfl|rfl|rfl|rfl|rfl|rfl|rfl|rfl|rfl <;> exact ⟨by decide,by decide⟩
theorem b9C:H7.length=25:=rfl
theorem c3f {j:Nat} (hj:j<25):1≤(H7.getD j ByteArray.empty).size∧(H7.getD j ByteArray.empty).size≤2:=by
 have hj':j<H7.length:=hj
 have e:H7.getD j ByteArray.empty=H7[j]:=by simp [hj']
 rw [e]
 exact b6x _ (d5f hj')
end Go.Proofs.YtahpnackkmbmgaaGreat
end

/- Part 13 of the proof. Conditions: none. -/
import Derived.Test.YtlofmibkljoapaaDoorN4
import Derived.Test.YtlofmibkljoapaaDoorN6
import Derived.Test.YtlofmibkljoapaaDoorN7
import Derived.Test.YtlofmibkljoapaaDoorN8
import Derived.Test.YtlofmibkljoapaaDoorN12
import Derived.IntWalk
import Derived.Test.YtlofmibkljoapaaDoorN0
set_option linter.all false
set_option linter.unusedVariables false
set_option linter.unusedSimpArgs false
section
namespace Go.Proofs.YtlofmibkljoapaaDoor.Vm
open Go.RowKit
set_option maxRecDepth 100000
set_option maxHeartbeats 4000000
section
def a0D:List Nat->List O->List O
 | [],l=>l
 | j::ms,l=>a0D ms (B5 l j .dead)
theorem a5X:∀(ms:List Nat) (l:List O),(a0D ms l).length=l.length
 | [],l=>rfl
 | j::ms,l=>by rw[a0D,a5X ms,y5,c3N]
theorem a5Y:∀(ms:List Nat) (l:List O) (i:Nat) (o:O),(a0D ms l)[i]?=some o->(i∉ms/\l[i]?=some o)\/(i∈ms/\o=.dead)
 | [],l,i,o,h=>.inl ⟨by simp,h⟩
 | j::ms,l,i,o,h=>by
  rw[a0D] at h
  rcases a5Y ms _ i o h with⟨h1,h2⟩|⟨h1,h2⟩
  ·rw[y5] at h2
   by_cases e:j=i
   ·subst e;have hlt:=(c35.1 h2).1;rw[c3N] at hlt;rw[c3V hlt] at h2;exact .inr ⟨c38 ..,(Option.some.inj h2).symm⟩
   ·rw[c3O e] at h2;exact .inl ⟨by simp[h1,c4W e],h2⟩
  ·exact .inr ⟨c36 _ h1,h2⟩
def a7Y:Nat->List D->List V
 | _,[]=>[]
 | n,.sc v::l=>.d (.sc v)::a7Y n l
 | n,.sl _ _::l=>.own n::a7Y (n+1) l
def a2u (e:Nat):List D->List O
 | []=>[]
 | .sc _::l=>a2u e l
 | .sl _ r::l=>.it (m6 false e r)::a2u e l
def a1l (os:List O) (e:Nat):List V->List D->List Nat->Prop
 | [],[],[]=>True
 | .d (.sc v)::l,.sc u::ds,ms=>v=u/\a1l os e l ds ms
 | .em::l,.sl z []::ds,ms=>z=(ty e).sz/\a1l os e l ds ms
 | .own m::l,.sl z r::ds,i::ms=>m=i/\z=(ty e).sz/\(∃b,m7 os m=.it (m6 b e r))/\a1l os e l ds ms
 | _,_,_=>False
section
variable {I0:Nat->Nat->Prop} {X:Nat->Prop} {w0:W0} {I I':Nat->Nat->Prop} {g g':Nat->Value} {s:S} {a:Act} {w w':World}
theorem a1O (h:RelI I0 X w0 I g s a w) {e:Nat}:∀ {cs:List V} {us:List Value} {ds:List D} {ms:List Nat},j2 I w g us cs->a1l s.o e cs ds ms->ms.Nodup->∃F,AtTs w e F us ds/\F.Nodup/\∀b∈F,∃m∈ms,B1 s m/\P0 (g m) b
 | cs,us,ds,ms,hv,hc,hn=>by
  unfold a1l at hc
  split at hc
  ·rw[hv.unnil];exact⟨[],.nil,c5W,by simp⟩
  ·obtain⟨u,us',rfl,h1,h2⟩:=hv.uncons;obtain⟨rfl,hc⟩:=hc;obtain⟨F,a1,a2,a3⟩:=a1O h h2 hc hn;cases h1 with
   | d h1 =>
    cases h1 with
    | sc v h1=>exact⟨F,.sc _ _ _ _ h1 a1,a2,a3⟩
  ·obtain⟨u,us',rfl,h1,h2⟩:=hv.uncons;obtain⟨rfl,hc⟩:=hc;obtain⟨F,a1,a2,a3⟩:=a1O h h2 hc hn;cases h1;exact⟨F,.em _ _ _ a1,a2,a3⟩
  ·obtain⟨u,us',rfl,h1,h2⟩:=hv.uncons;obtain⟨rfl,rfl,⟨z,ho⟩,hc⟩:=hc;rename_i m l r ds ms;obtain⟨hn1,hn2⟩:=c44.1 hn;obtain⟨F,a1,a2,a3⟩:=a1O h h2 hc hn2;have hm:=j8 ho (by simp);have hlm:B1 s m:=⟨_,hm,by simp⟩;obtain⟨A,n,cap,Fm,b1,⟨b2,b3,_⟩,_⟩:=h.obj m _ hm;have hu:u=.slice A n cap:=by rw[h1.unown.1,b1];rfl
   subst hu;have hFm:∀b∈Fm,P0 (g m) b:=λb hb=>by rw[b1,B0];exact hb
   refine⟨Fm++F,b3.app a1,c51.2 ⟨b2,a2,λb hb c hc' e=>?_⟩,λb hb=>?_⟩
   ·subst e;obtain⟨m',hm',hl',hb'⟩:=a3 b hc';have:=h.dis m m' b hlm hl' (hFm b hb) hb';subst this;exact hn1 hm'
   ·rcases c4b.1 hb with hb|hb
    ·exact⟨m,c38 ..,hlm,hFm b hb⟩
    ·obtain⟨m',hm',h5⟩:=a3 b hb;exact⟨m',c36 _ hm',h5⟩
  ·exact hc.elim
termination_by cs=>cs.length
theorem b8j {e:Nat} {F:List Nat} {us:List Value} {ds:List D} (h:AtTs w e F us ds):F.Nodup->∃gs:List (Value×List Nat),gs.length=(a2u e ds).length/\(∀(i:Nat) (p:Value×List Nat),gs[i]?=some p->(∃r,(a2u e ds)[i]?=some (O.it (m6 false e r))/\m6 false e r w p.1 p.2)/\(∃A n cap,p.1=.slice A n cap)/\∀b∈p.2,b∈F) /\
  (∀(i j:Nat) (p q:Value×List Nat) (b:Nat),gs[i]?=some p->gs[j]?=some q->b∈p.2->b∈q.2->i=j)/\∀(I:Nat->Nat->Prop) (g:Nat->Value) (n:Nat),(∀(i:Nat) (p:Value×List Nat),gs[i]?=some p->g (n+i)=Z2 p.1 p.2)->j2 I w g us (a7Y n ds):=by
 induction h with
 | nil=>exact λ_=>⟨[],rfl,by simp,by simp,λI g n _=>.nil I w g⟩
 | sc v F us ds h hs ih =>
  intro hn;obtain⟨gs,h1,h2,h3,h4⟩:=ih hn;exact⟨gs,h1,h2,h3,λI g n hg=>.cons (.d (.sc v h)) (h4 I g n hg)⟩
 | em F us ds hs ih =>
  intro hn;obtain⟨gs,h1,h2,h3,h4⟩:=ih hn;refine⟨(.slice none 0 0,[])::gs,by simp[a2u,h1],λi p hp=>?_,λi j p q b hi hj hb hb'=>?_,λI g n hg=>?_⟩
  ·cases i with
   | zero =>
    simp at hp;subst hp
    exact⟨⟨[],rfl,m6.nil w false e⟩,⟨_,_,_,rfl⟩,by simp⟩
   | succ i =>
    obtain⟨⟨r,a1,a2⟩,a3,a4⟩:=h2 i p (by simpa using hp);exact⟨⟨r,by simpa [a2u] using a1,a2⟩,a3,a4⟩
  ·cases i with
   | zero=>simp at hi;subst hi;simp at hb
   | succ i =>
    cases j with
    | zero=>simp at hj;subst hj;simp at hb'
    | succ j=>exact congrArg (·+1) (h3 i j p q b (by simpa using hi) (by simpa using hj) hb hb')
  ·refine .cons ?_ (h4 I g (n+1) λi p hp=>?_)
   ·have:=hg 0 _ rfl;rw[c4F] at this;exact .own n _ _ _ (by rw[this];rfl)
   ·rw[c5w];exact hg (i+1) p (by simpa using hp)
 | sl b cap rows vs cur t F1 F us ds hne hcap hb hl hc hr h1' hs ih1 ih =>
  intro hn;obtain⟨hn1,hn2⟩:=c44.1 hn;obtain⟨hn3,hn4,hn5⟩:=c51.1 hn2;obtain⟨gs,h1,h2,h3,h4⟩:=ih hn4
  have hd:∀c,c∈b::F1->c∈F->False:=λc hc1 hc2=>by
   rcases c3F.1 hc1 with rfl|hc1
   ·exact hn1 (c4U _ hc2)
   ·exact hn5 c hc1 c hc2 rfl
  refine⟨(.slice (some ⟨b,0,none⟩) rows.length cap,b::F1)::gs,by simp[a2u,h1],λi p hp=>?_,λi j p q c hi hj hc1 hc2=>?_,λI g n hg=>?_⟩
  ·cases i with
   | zero =>
    simp at hp;subst hp
    refine⟨⟨rows,rfl,c44.2 ⟨λhm=>hn1 (c48 _ hm),hn3⟩,?_,by simp⟩,⟨_,_,_,rfl⟩,λc hc=>?_⟩
    ·have:=AtTs.sl b cap rows vs cur t F1 [] [] [] hne hcap hb hl hc hr h1' .nil
     rwa [c3X] at this
    ·rcases c3F.1 hc with rfl|hc
     ·exact c38 ..
     ·exact c36 _ (c48 _ hc)
   | succ i =>
    obtain⟨⟨r,a1,a2⟩,a3,a4⟩:=h2 i p (by simpa using hp);exact⟨⟨r,by simpa [a2u] using a1,a2⟩,a3,λc hc=>c36 _ (c4U _ (a4 c hc))⟩
  ·cases i with
   | zero =>
    cases j with
    | zero=>rfl
    | succ j =>
     simp at hi hj;subst hi
     exact(hd c hc1 ((h2 j q hj).2.2 c hc2)).elim
   | succ i =>
    cases j with
    | zero =>
     simp at hi hj;subst hj
     exact(hd c hc2 ((h2 i p hi).2.2 c hc1)).elim
    | succ j=>exact congrArg (·+1) (h3 i j p q c (by simpa using hi) (by simpa using hj) hc1 hc2)
  ·refine .cons ?_ (h4 I g (n+1) λi p hp=>?_)
   ·have:=hg 0 _ rfl;rw[c4F] at this;exact .own n _ _ _ (by rw[this];rfl)
   ·rw[c5w];exact hg (i+1) p (by simpa using hp)
theorem a7Z {k:Nat} {x:V} (hI:∀b n,I b n->I' b n) (hkp:o6 I w w') (hg:∀j,j≠k->g j≠.nilFunc->g' j=g j) (hgr:∀j,J9 (g j)=true->g' j=g j) (hx:∀v,v=gv (g k)->(∃A n cap,gv (g k)=.slice A n cap)->AtV I' w' g' v x) (hel:∀b n cap,g k=.slice (some ⟨b,0,none⟩) n cap->g' k=g k):∀v y,AtV I w g v y->AtV I' w' g' v (sw1 k x y):=by
 intro v y h;cases y with
 | own j =>
  show AtV I' w' g' v (match H5 j k with|true=>x|false=>.own j);obtain⟨h1,A,n,cap,h2⟩:=h.unown;cases e:H5 j k
  ·refine(by rw[h1,h2];exact .own j A n cap ((congrArg gv (hg j (a0V.1 e) (λe2=>by rw[e2] at h2;cases h2))).trans h2))
  ·obtain rfl:=y9.1 e;exact hx v h1 ⟨A,n,cap,h2⟩
 | ag cs=>exact .jk _
 | tu cs=>exact .jk _
 | d x=>cases h with|d h=>exact .d (h.mono hI hkp)
 | em=>cases h;exact .em
 | ptr j off=>cases h with|ptr k off b h=>exact .ptr _ off b ((hgr j (by rw[h];rfl)).trans h)
 | cl f ks =>
  cases h with
  | cl f us ks hl h =>
   exact .cl f us ks hl λi u j hu hj=>by
    obtain⟨h1,b,h2⟩:=h i u j hu hj;have h3:=hgr j (by rw[h2];rfl);exact⟨h1.trans h3.symm,b,h3.trans h2⟩
 | el j i sz off =>
  cases h with
  | el j i sz off b n cap h =>
   by_cases e:j=k
   ·subst e;exact .el j i sz off b n cap ((hel b n cap h).trans h)
   ·exact .el j i sz off b n cap ((hg j e (by rw[h];simp)).trans h)
 | ro cs off=>exact ro_mono hI hkp h
 | mp j=>cases h with|mp j b h=>exact .mp j b ((hgr j (by rw[h];rfl)).trans h)
 | bs j n=>cases h with|bs j n b cap h hn=>exact .bs j n b cap ((hgr j (by rw[h];rfl)).trans h) hn
 | jk=>exact .jk _
where
 ro_mono {I I':Nat->Nat->Prop} {w w':World} {g g':Nat->Value} (hI:∀b n,I b n->I' b n) (hkp:o6 I w w') {v:Value} {cs:List D} {off:Nat} (h:AtV I w g v (.ro cs off)):AtV I' w' g' v (.ro cs off):=by
  cases h with
  | ro b o off us cs hi hc hd =>
   refine .ro b o off us cs (hi.mono hI) (λi u hu=>?_) (hd.mono hI hkp);have hlt:i<cs.length:=by rw[<-hd.1];exact(c35.1 hu).1
   obtain⟨k,hk1,hk2⟩:=hi;exact(hkp _ _ hk2 _ (by omega)).trans (hc i u hu)
end
end
section
section
variable {I0:Nat->Nat->Prop} {X:Nat->Prop} {w0:W0} {I:Nat->Nat->Prop} {g:Nat->Value} {s:S} {a:Act} {w:World}
theorem RelI.melt (h:RelI I0 X w0 I g s a w) {k e:Nat} {z:Bool} {rows:List (List D)} (hk:s.o[k]?=some (.it (m6 z e rows))) :
  Z4 I0 X w0 ⟨fT (sw1 k (.d (.sl (ty e).sz rows))) s.t,(fO (sw1 k (.d (.sl (ty e).sz rows))) k s.o).set k .dead⟩ a w:=by
 obtain⟨A,n,cap,F,hg,⟨hn,hat,_⟩,hst,hF⟩:=h.obj k _ hk;have hlt:=(c35.1 hk).1;have hlk:B1 s k:=⟨_,hk,by simp⟩;have hgF:∀b,P0 (g k) b↔b∈F:=λb=>by rw[hg,B0]
 have hI:∀b n,I b n->(λb n=>I b n\/b∈F) b n:=λb n h=>.inl h
 refine⟨λb n=>I b n\/b∈F,g,h.trade _ (λj=>j=k) (λb=>b∈F) _ h.fr (o6.refl I w) (c3A _) hI (λb hb=>⟨k,rfl,hlk,(hgF b).2 hb⟩) (λb n h=>h) (a7Z hI (o6.refl I w) (λ_ _ _=>rfl) (λ_ _=>rfl) (λv hv _=>?_) (λ_ _ _ _=>rfl)) (λ_ _ _ _ _=>rfl) (λj hj o ho=>⟨rfl,?_⟩) (λj hj o ho=>?_) (λi j b hi hj _ _ _ _=>hi.trans hj.symm) (λ_ _=>rfl) (by rw[c3N,Y6];exact c3A _) (λj hj=>h.out j (by rw[c3N,Y6] at hj;exact hj))⟩
 ·rw[hv,hg];refine .d ?_;have h2:=hat.data (I:=λb n=>I b n\/b∈F) λb hb n=>.inr hb
  exact h2.2 0 _ _ rfl rfl
 ·rw[c3O (c4W hj)] at ho;obtain⟨o0,h1,h2⟩:=a5W _ _ _ _ _ ho;refine⟨o0,h1,h2.imp id (Or.imp (λ⟨ks,a1,a2⟩=>⟨ks,_,a1,a2,λi hi=>c36 _ hi,λi _=>.inl rfl⟩) id)⟩
 ·subst hj;rw[c3V (by rw[Y6];exact hlt)] at ho;obtain rfl:=Option.some.inj ho;exact⟨True.intro,λhd=>absurd rfl hd⟩
theorem RelI.opened (h:RelI I0 X w0 I g s a w) {k e:Nat} {z:Bool} {rows:List (List D)} (hk:s.o[k]?=some (.it (m6 z e rows))) (hne:rows≠[]) :
  Z4 I0 X w0 ⟨fT (sw1 k (.bs s.o.length rows.length)) s.t,(fO (sw1 k (.bs s.o.length rows.length)) k s.o).set k (.it (m6 true e []))++(.box (a7Y (s.o.length+1) rows.flatten)::a2u e rows.flatten)⟩ a w:=by
 obtain⟨A,n,cap,F,hg,⟨hn,hat,_⟩,hst,hF⟩:=h.obj k _ hk;have hlt:=(c35.1 hk).1;have hlk:B1 s k:=⟨_,hk,by simp⟩;have hgF:∀b,P0 (g k) b↔b∈F:=λb=>by rw[hg,B0]
 rcases hat.top with⟨h0,_⟩|⟨b,cap',vs,cur,t,F1,_,hv,hFe,hcap,hb,hl,hc,hr,hat1⟩
 ·exact absurd h0 hne
 injection hv with hA hn' hcc
 subst hA;subst hn';subst hcc;subst hFe;obtain⟨hn1,hn2⟩:=c44.1 hn;obtain⟨gs,q1,q2,q3,q4⟩:=b8j hat1 hn2;obtain⟨N,hN⟩:∃N,N=s.o.length:=⟨_,rfl⟩;rw[<-hN]
 obtain⟨g',hg'⟩:∃g':Nat->Value,g'=λj=>if j=k then Z2 (.slice none 0 0) [] else if j=N then .pointer (some ⟨b,0,none⟩) else match gs[j - (N+1)]? with
  | some p=>if N<j then Z2 p.1 p.2 else g j
  | none=>g j:=⟨_,rfl⟩
 have gk:g' k=Z2 (.slice none 0 0) []:=by rw[hg'];simp
 have gN:g' N=.pointer (some ⟨b,0,none⟩):=by rw[hg'];simp only[c3G (show ¬N=k by omega),c5O]
 have gO:∀j,j<N->j≠k->g' j=g j:=λj hj hjk=>by
  rw[hg'];simp only;rw[c3G hjk,c3G (by omega)];cases gs[j - (N+1)]? with
  | none=>rfl
  | some p=>simp only;rw[c3G (by omega)]
 have gS:∀i p,gs[i]?=some p->g' (N+1+i)=Z2 p.1 p.2:=λi p hp=>by
  rw[hg'];simp only;rw[c3G (by omega),c3G (by omega),show N+1+i - (N+1)=i by omega,hp];simp only;rw[c3E (by omega)]
 have gE:∀j,N+1+gs.length<=j->g' j=.nilFunc:=λj hj=>by
  rw[hg'];simp only;rw[c3G (by omega),c3G (by omega),c4u (by omega)];exact h.out j (by omega)
 have hsp:vs=cur.toList.take (rows.length * (ty e).sz):=hc.symm;have hbox:w.heap[b]?=some (.cells (vs++cur.toList.drop (rows.length * (ty e).sz)).toArray t (0,0)):=by rw[hb,hsp,c4D]
 have hgn:∀j,j≠k->g j≠.nilFunc->g' j=g j:=λj hj hnn=>by
  rcases c4q j N with h1|h1
  ·exact gO j h1 hj
  ·exact absurd (h.out j (by omega)) hnn
 have hgr:∀j,J9 (g j)=true->g' j=g j:=λj hr=>hgn j (λe=>by rw[e,hg] at hr;cases hr) λe=>by rw[e] at hr;cases hr
 refine⟨I,g',h.trade _ (λj=>j=k\/N<=j) (λc=>c∈b::F1) _ h.fr (o6.refl I w) (c3A _) (λ_ _ h=>h) (λc hc=>⟨k,.inl rfl,hlk,(hgF c).2 hc⟩) (λb n h=>.inl h) (a7Z (λ_ _ h=>h) (o6.refl I w) hgn hgr (λv hv _=>?_) (λb n cap e=>by rw[hg] at e;cases e)) (λ_ _ _ _ _=>rfl) (λj hj o ho=>?_) (λj hj o ho=>?_) (λi j c hi hj hli hlj hbi hbj=>?_) hgr ?_ (λj hj=>?_)⟩
 ·rw[hv,hg];exact .bs N _ b cap gN hcap
 ·have hjk:j≠k:=λe=>hj (.inl e)
  have hjN:j<N:=by rcases c4q j N with h1|h1;exact h1;exact absurd (.inr h1) hj
  refine⟨gO j hjN hjk,?_⟩;rw[c3S (by rw[c3N,Y6,<-hN];exact hjN),c3O (c4W hjk)] at ho;obtain⟨o0,h1,h2⟩:=a5W _ _ _ _ _ ho;refine⟨o0,h1,h2.imp id (Or.imp (λ⟨ks,a1,a2⟩=>⟨ks,_,a1,a2,λi hi=>c36 _ hi,λi hi=>?_⟩) id)⟩
  by_cases e:i=k
  ·exact .inr (by rw[e];exact c38 ..)
  ·exact .inl (gO i (by omega) e)
 ·rcases c4q j N with h1|h1
  ·obtain rfl:j=k:=hj.resolve_right (by omega);rw[c3S (by rw[c3N,Y6,<-hN];exact h1),c3V (by rw[Y6];exact hlt)] at ho;obtain rfl:=Option.some.inj ho;exact⟨⟨none,0,0,[],gk,m6.nil w true e,λw' _=>m6.nil w' true e,by simp⟩,λ_ c hc=>by rw[gk,B0] at hc;simp at hc⟩
  ·obtain⟨d,rfl⟩:∃d,j=N+d:=⟨j - N,by omega⟩;have hL:((fO (sw1 k (.bs N rows.length)) k s.o).set k (.it (m6 true e []))).length=N:=by rw[c3N,Y6,hN]
   rw[c3Q (by omega),hL,Nat.add_sub_cancel_left] at ho;cases d with
   | zero =>
    simp at ho
    subst ho;refine⟨⟨b,vs,(t,cur.toList.drop (rows.length * (ty e).sz)),gN,hbox,q4 I g' (N+1) gS,hat1.one,(hF b (c38 ..)).2.1,(hF b (c38 ..)).2.2⟩,λ_ c hc=>.inl ?_⟩;rw[c4F,gN] at hc;rw[show c=b from(show b=c from hc).symm];exact c38 ..
   | succ i =>
    simp at ho
    have hi:i<gs.length:=by rw[q1];exact(c35.1 ho).1
    obtain⟨⟨r,a1,a2⟩,⟨A',n',cap',a3⟩,a4⟩:=q2 i _ (c39 hi);rw[a1] at ho;obtain rfl:=Option.some.inj ho;have e1:=gS i _ (c39 hi);rw[c5w] at e1;rw[a3] at e1 a2;refine⟨⟨A',n',cap',_,e1,a2,λw' hw=>a2.keep hw,λc hc=>hF c (c36 _ (a4 c hc))⟩,λ_ c hc=>.inl ?_⟩;have e2:g' (N+(i+1))=Z2 (.slice A' n' cap') gs[i].2:=e1;rw[e2,B0] at hc;exact c36 _ (a4 c hc)
 ·-- each block is one object's
  have cls:∀j,(j=k\/N<=j)->(∃o,((fO (sw1 k (.bs N rows.length)) k s.o).set k (.it (m6 true e []))++(.box (a7Y (N+1) rows.flatten)::a2u e rows.flatten))[j]?=some o/\o≠.dead)->P0 (g' j) c->(j=N/\c=b)\/∃i p,j=N+1+i/\gs[i]?=some p/\c∈p.2:=λj hj hlj hb2=>by
   rcases hj with rfl|hj
   ·rw[gk,B0] at hb2;simp at hb2
   ·by_cases e:j=N
    ·subst e;rw[gN] at hb2;exact .inl ⟨rfl,(show b=c from hb2).symm⟩
    ·obtain⟨i,rfl⟩:∃i,j=N+1+i:=⟨j - (N+1),by omega⟩
     rcases c4q i gs.length with h1|h1
     ·have hp:=c39 h1;obtain⟨_,⟨A',n',cap',a3⟩,_⟩:=q2 i _ hp;rw[gS i _ hp,a3,B0] at hb2;exact .inr ⟨i,_,rfl,hp,hb2⟩
     ·rw[gE _ (by omega)] at hb2;exact hb2.elim
  rcases cls i hi hli hbi with⟨rfl,rfl⟩|⟨i1,p1,rfl,hp1,hc1⟩ <;> rcases cls j hj hlj hbj with⟨rfl,e2⟩|⟨i2,p2,rfl,hp2,hc2⟩
  ·rfl
  ·exact absurd ((q2 i2 p2 hp2).2.2 _ hc2) hn1
  ·subst e2;exact absurd ((q2 i1 p1 hp1).2.2 _ hc1) hn1
  ·rw[q3 i1 i2 p1 p2 c hp1 hp2 hc1 hc2]
 ·rw[c37,c3N,Y6];exact c5M _ _
 ·rw[c37,c3N,Y6,<-hN,c3C,<-q1] at hj;exact gE j (by omega)
end
end
section
theorem a0g {os:List O} {e:Nat}:∀ {cs:List V} {ds:List D} {ms:List Nat},a1l os e cs ds ms->∀m∈ms,∃b r,m7 os m=.it (m6 b e r)
 | cs,ds,ms,hc,m,hm=>by
  unfold a1l at hc
  split at hc
  ·simp at hm
  ·exact a0g hc.2 m hm
  ·exact a0g hc.2 m hm
  ·obtain⟨rfl,_,⟨b,ho⟩,hc⟩:=hc
   rcases c3F.1 hm with rfl|hm
   ·exact⟨b,_,ho⟩
   ·exact a0g hc m hm
  ·exact hc.elim
termination_by cs=>cs.length
section
variable {I0:Nat->Nat->Prop} {X:Nat->Prop} {w0:W0} {I I':Nat->Nat->Prop} {g g':Nat->Value} {s:S} {a:Act} {w w':World}
theorem RelI.closed (h:RelI I0 X w0 I g s a w) {p c j k n e:Nat} {bs cs:List V} {ds:List D} {ms:List Nat} {rows:List (List D)} {P:World->Value->List Nat->Prop} (hp:s.o[p]?=some (.box bs)) (hcell:bs[c]?=some (.bs j n)) (hj:s.o[j]?=some (.box cs)) (hk:s.o[k]?=some (.it P)) (hpj:p≠j)
  (hlen:cs.length=n * (ty e).sz) (hcl:a1l s.o e cs ds ms) (hr1:rows.flatten=ds) (hr2:rows.length=n) (hr3:∀r∈rows,r.length=(ty e).sz) (hn0:0<n) (hms:ms.Nodup) :
  Z4 I0 X w0 ⟨fT (sw1 k .jk) s.t,((a0D (j::ms) (fO (sw1 k .jk) k s.o)).set k (.it (m6 false e rows))).set p (.box ((fL (sw1 k .jk) bs).set c (.own k)))⟩ a w:=by
 obtain⟨b,us,t,hg,hb,hus,h1s,hIb,hMb⟩:=h.obj j _ hj;obtain⟨bp,usp,tp,hgp,hbp,husp,h1p,hIp,hMp⟩:=h.obj p _ hp;obtain⟨A0,n0,cap0,F0,hgk,_,_,_⟩:=h.obj k _ hk;have lj:B1 s j:=⟨_,hj,by simp⟩;have lp:B1 s p:=⟨_,hp,by simp⟩;have lk:B1 s k:=⟨_,hk,by simp⟩;have kp:k≠p:=λe=>by rw[e,hp] at hk;cases hk
 have kj:k≠j:=λe=>by rw[e,hj] at hk;cases hk
 have mit:∀m∈ms,m≠p/\m≠j:=λm hm=>by
  obtain⟨z,r,ho⟩:=a0g hcl m hm;have ho:=j8 ho (by simp);exact⟨λe=>(by rw[e,hp] at ho;cases ho),λe=>(by rw[e,hj] at ho;cases ho)⟩
 obtain⟨F2,hat,hn2,hF2⟩:=a1O h hus hcl hms;have hcl2:c<usp.length:=by rw[husp.1];exact(c35.1 hcell).1
 obtain⟨b2,cap,hgb,hu,hcap⟩:=(husp.2 c usp[c] _ (c39 hcl2) hcell).unbs;have e1:b2=b:=by rw[hg] at hgb;injection hgb with hgb;injection hgb with hgb;injection hgb with hgb;exact hgb.symm
 subst e1
 have hbF:b2∉F2:=λhm=>by
  obtain⟨m,hm',hl',hb'⟩:=hF2 b2 hm;exact(mit m hm').2 (h.dis m j b2 hl' lj hb' (by rw[hg];rfl))
 have htree:AtTs w e (b2::(F2++[])) [.slice (some ⟨b2,0,none⟩) rows.length cap] [.sl (ty e).sz rows]:=by
  refine .sl b2 cap rows us (us++t.2).toArray t.1 F2 [] [] [] (λe=>by rw[e] at hr2;simp at hr2;omega) (by omega) hb (by rw[hus.1,hlen,hr2]) ?_ hr3 (by rw[hr1];exact hat) .nil;show ((us++t.2).toArray.toList).take _=us;have:us.length=rows.length * (ty e).sz:=by rw[hus.1,hlen,hr2]
  rw[<-this]
  simp
 rw[c3X] at htree;have hP:m6 false e rows w (.slice (some ⟨b2,0,none⟩) rows.length cap) (b2::F2):=⟨c44.2 ⟨hbF,hn2⟩,htree,by simp⟩;have hgn:∀i,i≠k->g i≠.nilFunc->upd g k (Z2 (.slice (some ⟨b2,0,none⟩) rows.length cap) (b2::F2)) i=g i:=λi hi _=>n8 hi
 have hgr:∀i,J9 (g i)=true->upd g k (Z2 (.slice (some ⟨b2,0,none⟩) rows.length cap) (b2::F2)) i=g i:=λi hr=>n8 λe=>by rw[e,hgk] at hr;cases hr
 have hsw:=a7Z (I:=I) (I':=I) (w:=w) (w':=w) (k:=k) (x:=.jk) (λ_ _ h=>h) (o6.refl I w) hgn hgr (λv _ _=>.jk v) (λb n cap e=>by rw[hgk] at e;cases e);have hltk:=(c35.1 hk).1;have hltp:=(c35.1 hp).1;have dl:(a0D (j::ms) (fO (sw1 k .jk) k s.o)).length=s.o.length:=by rw[a5X,Y6]
 have look:∀i o,(((a0D (j::ms) (fO (sw1 k .jk) k s.o)).set k (.it (m6 false e rows))).set p (.box ((fL (sw1 k .jk) bs).set c (.own k))))[i]?=some o->(i=p/\o=.box ((fL (sw1 k .jk) bs).set c (.own k)))\/(i=k/\o=.it (m6 false e rows))\/(i≠p/\i≠k/\i∈j::ms/\o=.dead)\/(i≠p/\i≠k/\i∉j::ms/\(fO (sw1 k .jk) k s.o)[i]?=some o):=λi o ho=>by
  by_cases e1:p=i
  ·subst e1;rw[c3V (by rw[c3N,dl];exact hltp)] at ho;exact .inl ⟨rfl,(Option.some.inj ho).symm⟩
  ·rw[c3O e1] at ho
   by_cases e2:k=i
   ·subst e2;rw[c3V (by rw[dl];exact hltk)] at ho;exact .inr (.inl ⟨rfl,(Option.some.inj ho).symm⟩)
   ·rw[c3O e2] at ho
    rcases a5Y _ _ _ _ ho with⟨h1,h2⟩|⟨h1,h2⟩
    ·exact .inr (.inr (.inr ⟨c4W e1,c4W e2,h1,h2⟩))
    ·exact .inr (.inr (.inl ⟨c4W e1,c4W e2,h1,h2⟩))
 have inF:∀x,x∈b2::F2->∃i,(i=k\/i=p\/i∈j::ms)/\i≠p/\B1 s i/\P0 (g i) x:=λx hx=>by
  rcases c3F.1 hx with rfl|hx
  ·exact⟨j,.inr (.inr (c38 ..)),c4W hpj,lj,by rw[hg];rfl⟩
  ·obtain⟨m,h1,h2,h3⟩:=hF2 x hx;exact⟨m,.inr (.inr (c36 _ h1)),(mit m h1).1,h2,h3⟩
 refine⟨I,upd g k (Z2 (.slice (some ⟨b2,0,none⟩) rows.length cap) (b2::F2)),h.trade (sw1 k .jk) (λi=>i=k\/i=p\/i∈j::ms) (λx=>∃i,(i=k\/i=p\/i∈j::ms)/\B1 s i/\P0 (g i) x) _ h.fr (o6.refl I w) (c3A _) (λ_ _ h=>h) (λx hx=>hx) (λb n h=>.inl h) hsw (λ_ _ _ _ _=>rfl) (λi hi o ho=>?_) (λi hi o ho=>?_) (λi1 i2 x hi1 hi2 hl1 hl2 hb1 hb2=>?_) hgr (by rw[c3N,c3N,dl];exact c3A _) (λi hi=>?_)⟩
 ·refine⟨n8 λe=>hi (.inl e),?_⟩
  rcases look i o ho with⟨h1,_⟩|⟨h1,_⟩|⟨_,_,h1,_⟩|⟨_,_,_,h1⟩
  ·exact absurd (.inr (.inl h1)) hi
  ·exact absurd (.inl h1) hi
  ·exact absurd (.inr (.inr h1)) hi
  ·obtain⟨o0,h2,h3⟩:=a5W _ _ _ _ _ h1;refine⟨o0,h2,h3.imp id (Or.imp (λ⟨ks,a1,a2⟩=>⟨ks,_,a1,a2,λi hi=>c36 _ hi,λi _=>?_⟩) id)⟩
   by_cases e:i=k
   ·exact .inr (by rw[e];exact c38 ..)
   ·exact .inl (n8 e)
 ·rcases look i o ho with⟨rfl,rfl⟩|⟨rfl,rfl⟩|⟨_,_,_,rfl⟩|⟨h1,h2,h3,_⟩
  ·refine⟨⟨bp,usp,tp,by rw[n8 (c4W kp)];exact hgp,hbp,?_,h1p,hIp,hMp⟩,λ_ x hx=>?_⟩
   ·refine(b4M hsw husp).reset λv hv=>?_
    rw[c39 hcl2,hu] at hv;obtain rfl:=Option.some.inj hv;refine .own k _ _ _ ?_;rw[i7,<-hr2];rfl
   ·rw[n8 (c4W kp)] at hx;exact .inl ⟨i,.inr (.inl rfl),lp,hx⟩
  ·refine⟨⟨some ⟨b2,0,none⟩,rows.length,cap,b2::F2,i7 ..,hP,λw' hw=>hP.keep hw,λx hx=>?_⟩,λ_ x hx=>?_⟩
   ·obtain⟨cc,tt,hcc⟩:=htree.cells x hx;obtain⟨i',_,_,⟨oi,hoi,hdi⟩,hbi⟩:=inF x hx;refine⟨⟨cc,tt,hcc⟩,?_⟩
    rcases c3F.1 hx with rfl|hx
    ·exact⟨hIb,hMb⟩
    ·obtain⟨m,h1,⟨om,hom,hdm⟩,h3⟩:=hF2 x hx;obtain⟨z,r,ho⟩:=a0g hcl m h1;have ho:=j8 ho (by simp);obtain⟨A,n',cap',F,q1,_,_,q4⟩:=h.obj m _ ho;rw[q1,B0] at h3;exact(q4 x h3).2
   ·rw[i7,B0] at hx;obtain⟨i',h1,_,h3,h4⟩:=inF x hx;exact .inl ⟨i',h1,h3,h4⟩
  ·exact⟨True.intro,λhd=>absurd rfl hd⟩
  ·rcases hi with hi|hi|hi
   ·exact absurd hi h2
   ·exact absurd hi h1
   ·exact absurd hi h3
 ·have cls:∀i,(i=k\/i=p\/i∈j::ms)->(∃o,(((a0D (j::ms) (fO (sw1 k .jk) k s.o)).set k (.it (m6 false e rows))).set p (.box ((fL (sw1 k .jk) bs).set c (.own k))))[i]?=some o/\o≠.dead)->i=p\/i=k:=λi hi ⟨o,ho,hd⟩=>by
   rcases look i o ho with⟨h1,_⟩|⟨h1,_⟩|⟨_,_,_,rfl⟩|⟨h1,h2,h3,_⟩
   ·exact .inl h1
   ·exact .inr h1
   ·exact absurd rfl hd
   ·rcases hi with hi|hi|hi
    ·exact absurd hi h2
    ·exact absurd hi h1
    ·exact absurd hi h3
  have cross:P0 (upd g k (Z2 (.slice (some ⟨b2,0,none⟩) rows.length cap) (b2::F2)) p) x->P0 (upd g k (Z2 (.slice (some ⟨b2,0,none⟩) rows.length cap) (b2::F2)) k) x->False:=λh1 h2=>by
   rw[n8 (c4W kp)] at h1;rw[i7,B0] at h2;obtain⟨i',_,h3,h4,h5⟩:=inF x h2;exact h3 (h.dis i' p x h4 lp h5 h1)
  rcases cls i1 hi1 hl1 with rfl|rfl <;> rcases cls i2 hi2 hl2 with rfl|rfl
  ·rfl
  ·exact(cross hb1 hb2).elim
  ·exact(cross hb2 hb1).elim
  ·rfl
 ·rw[c3N,c3N,dl] at hi;rw[n8 (by omega)];exact h.out i hi
end
end
theorem b9J {b c:Nat} (h:Value.pointer (some ⟨b,0,none⟩)=.pointer (some ⟨c,0,none⟩)):b=c:=by
 injection h with h;injection h with h;injection h
theorem b0q {t n e:Nat} {ps:Array (Nat×Operand)} {dst:Option Nat} {s:S} {K:S->Prop} (l:List V) (he:(ty t).elem=some e) (hl:W5 s.get (places (ty e).sz (n+1) 0) ps.toList (a24 (B6 (ty e).zero) (n+1) [])=some l) (h1:a21 l=true) (hK:K ((s.obj (.box l)).put dst (.bs (j6 s.o) (n+1)))) :
  a7.ext (.buildSlice t (n+1) ps) dst s K:=by
 rintro I0 X w0 a w o Q ho hd hop ⟨I,g,h⟩
 subst hd;simp only[Z0,c3D] at hop
 have hte:d4 e=true/\(n+1) * (ty e).sz<=16777216:=by
  have h2:=hop.2;rw[he] at h2;simp only[c3D] at h2;exact⟨h2.1,c4p h2.2⟩
 obtain⟨hke,hsz⟩:=hte;have ht:=hop.1.1;have hun:=F5 ht he;obtain⟨z,hz,hzc⟩:=a43 hke w;obtain⟨_,_,_,_,_,_,hzl,_⟩:=a0G hke;have hz0:=a7e (I:=I) (w:=w) (g:=g) (H9 (ty e).zero) (n+1) (.nil I w g);rw[c3X] at hz0
 have hpl:∀(m off i:Nat) (p:Nat×Nat),(places (ty e).sz m off)[i]?=some p->p=(off+i * (ty e).sz,(ty e).sz):=by
  intro m
  induction m with
  | zero=>intro off i p hp;simp[places] at hp
  | succ m ih =>
   intro off i p hp;cases i with
   | zero=>simp[places] at hp;rw[<-hp];simp
   | succ i =>
    have:=ih (off+(ty e).sz) i p (by simpa [places] using hp);rw[this,c4R];exact Prod.ext (by simp only;omega) rfl
 obtain⟨us',h1',h2⟩:=a4F h hz0 hl
 have hfill:∀(ps:List (Nat×Value)) (cs r:Array Value),Instr.fill (λi=>(places (ty e).sz (n+1) 0)[i]?) cs ps=some r->Instr.fill (λi=>some (i * (ty e).sz,(ty e).sz)) cs ps=some r:=by
  intro ps
  induction ps with
  | nil=>intro cs r hr;exact hr
  | cons p ps ih =>
   intro cs r hr;obtain⟨i,v⟩:=p;rw[Instr.fill] at hr ⊢;cases hp:(places (ty e).sz (n+1) 0)[i]? with
   | none=>rw[hp] at hr;cases hr
   | some q =>
    rw[hp] at hr;have:=hpl _ _ _ _ hp;rw[c4z] at this;subst this;simp only at hr ⊢
    split at hr
    ·cases hr
    ·rename_i hc;rw[c3G hc];exact ih _ _ hr
 have h3:=hfill _ _ _ h1'
 have hcell:((Array.range ((n+1) * (ty e).sz)).map λi=>((if (n+1) * (ty e).sz=0 then #[] else z.cells):Array Value)[i % ((if (n+1) * (ty e).sz=0 then #[] else z.cells):Array Value).size]!)=((List.replicate (n+1) (ty e).zero).flatten).toArray:=by
  apply c4Y
  by_cases hs0:(n+1) * (ty e).sz=0
  ·have:(ty e).sz=0:=by rcases Nat.mul_eq_zero.1 hs0 with h|h <;> omega
   rw[this] at hzl;have hnil:(ty e).zero=[]:=c3P hzl;rw[hs0,hnil]
   simp
  ·rw[c3G hs0,hzc];have:=a4d (ty e).zero.toArray (n+1);simp only[c5o,hzl] at this
   simpa [hzl] using this
 have hrun:(Instr.buildSlice t (n+1) (ps.map λp=>(p.1,a.eval p.2))).run Tryd.prog w=.ok (.slice (some ⟨w.heap.size,0,none⟩) (n+1) (n+1)) (w.alloc (.cells us'.toArray e)):=by
  have hbig:¬(n+1) * (ty e).sz>16777216:=by omega
  have hsize:=I7 hke w
  by_cases hs0:(n+1) * (ty e).sz=0
  ·rw[c3E hs0] at hcell;simp only[Instr.buildSlice,Sem.run_bind,run_underlying hun,Result.andThen_ok,hsize,Sem.run_ite,Sem.run_pure];rw[c3G (by omega),c3E hs0];simp only[Result.andThen_ok,hcell,c5u,h3];rfl
  ·rw[c3G hs0] at hcell;simp only[Instr.buildSlice,Sem.run_bind,run_underlying hun,Result.andThen_ok,hsize,Sem.run_ite,Sem.run_pure];rw[c3G (by omega),c3G hs0];simp only[Sem.run_bind,hz,Result.andThen_ok,Sem.run_pure,hcell,c5u,h3];rfl
 unfold Oper.wp
 have hex:(execOp a.eval o).run Tryd.prog w=.ok (.value (.slice (some ⟨w.heap.size,0,none⟩) (n+1) (n+1))) (w.alloc (.cells us'.toArray e)):=by
  unfold execOp;rw[ho];simp only[Sem.run_bind,hrun,Result.andThen_ok,Sem.run_pure]
 rw[hex,Oper.upon_value];obtain⟨g',hg,h4⟩:=h.box h2 (a66 h2 h1) e;rw[<-l9] at hg;exact⟨_,⟨I,g',h4.put (.bs _ _ _ _ hg (c3A _)) _⟩,hK⟩
theorem b1O {t u n e j k:Nat} {x y:Operand} {dst:Option Nat} {s:S} {K:S->Prop} {cs:List V} {xs:List (List D)} (ds:List D) (ms:List Nat) (rows:List (List D)) (R:List (List D)) (he:(ty t).elem=some e) (hx:s.get x=.own k) (hk:m7 s.o k=.it (m6 true e xs)) (hy:s.get y=.bs j (n+1)) (hj:m7 s.o j=.box cs)
  (hlen:H5 (n7 cs) ((n+1) * (ty e).sz)=true) (hcl:a1l s.o e cs ds ms) (hch:a1V (ty e).sz (n+1) ds=some rows) (hms:a28 (k::ms)=true) (hroom:xs.length+(n+1)<=137438953472) (hR:xs++rows=R)
  (hK:K (S.put ⟨fT (sw1 k .jk) s.t,B5 (a0D (j::ms) (fO (sw1 k .jk) k s.o)) k (.it (m6 true e R))⟩ dst (.own k))):a7.ext (.call ⟨.builtin .append,⟨[x,y]⟩,⟨[t,u]⟩⟩) dst s K:=by
 rintro I0 X w0 a w o Q ho hd hop ⟨I,g,h⟩
 subst hd;simp only[Z0,c3D] at hop;obtain⟨⟨⟨ht,hte⟩,htu⟩,hpos⟩:=hop;obtain rfl:=y9.1 htu;rw[he] at hpos;simp only[c42] at hpos;have hke:=a1b hte e he;have hun:=F5 ht he;obtain⟨i,z,hi,his,hiz,hzc,hzl,hby⟩:=a0G hke;have hzs:z.cells.size=(ty e).sz:=by rw[hzc];simp[hzl]
 have hk:=j8 hk (by simp);have hj:=j8 hj (by simp);obtain⟨hf1,hf2,hf3⟩:=a3y hch;have hlen2:cs.length=(n+1) * (ty e).sz:=by rw[<-y8];exact y9.1 hlen
 obtain⟨hkms,hmsn⟩:=c44.1 (a0K hms);obtain⟨b,us,tt,hg,hb,hus,h1s,hIb,hMb⟩:=h.obj j _ hj;obtain⟨A,m,cap,F1,hgk,⟨nd1,hat1,hz1⟩,hst1,hF1⟩:=h.obj k _ hk;obtain⟨us0,hown⟩:=hz1 rfl;obtain⟨F2,hat2,hn2,hF2⟩:=a1O h hus hcl hmsn;have lj:B1 s j:=⟨_,hj,by simp⟩;have lk:B1 s k:=⟨_,hk,by simp⟩;have kj:k≠j:=λe=>by rw[e,hj] at hk;cases hk
 have mit:∀m∈ms,m≠j:=λm hm e=>by
  obtain⟨z,r,ho⟩:=a0g hcl m hm;have ho:=j8 ho (by simp);rw[e,hj] at ho;cases ho
 have hgF1:∀c,P0 (g k) c↔c∈F1:=λc=>by rw[hgk,B0]
 have disF:∀c,c∈F1->c∈F2->False:=λc h1 h2=>by
  obtain⟨m',hm',hl',hb'⟩:=hF2 c h2;exact hkms (h.dis k m' c lk hl' ((hgF1 c).2 h1) hb' ▸ hm')
 have ltF2:∀c∈F2,c<w.heap.size:=λc hc=>by
  obtain⟨c1,t1,hc1⟩:=hat2.cells c hc;exact(c3L.1 hc1).1
 have ltF1:∀c∈F1,c<w.heap.size:=λc hc=>by
  obtain⟨⟨c1,t1,hc1⟩,_⟩:=hF1 c hc;exact(c3L.1 hc1).1
 obtain⟨F11,hat11,hF11⟩:∃F11,AtTs w e F11 us0 xs.flatten/\((F1=F11/\(Value.slice A m cap).ownBlock=none)\/∃b1,F1=b1::F11/\(Value.slice A m cap).ownBlock=some b1):=by
  rcases hat1.top with⟨h0,hv,hF⟩|⟨b1,cap1,vs,cur,t1,F11,hne,hv,hF,hcap1,hb1,hl1,hc1,hr1,hat⟩
  ·subst h0;have:us0=[]:=c3P (by rw[hown.1];simp);subst this;exact⟨[],.nil,.inl ⟨hF,by rw[hv];rfl⟩⟩
  ·rcases hown.2 with⟨e0,hz⟩|⟨b2,cap2,cur2,e2,_,hh,_,_,_,htk⟩
   ·rw[hv] at e0;cases e0
   ·rw[hv] at e2;injection e2 with e2 _ _;injection e2 with e2;injection e2 with e2;subst e2;rw[hb1] at hh;injection hh with hh;injection hh with hh;subst hh;rw[hc1] at htk;subst htk;exact⟨F11,hat,.inr ⟨b1,hF,by rw[hv];rfl⟩⟩
 have subF:∀c∈F11,c∈F1:=λc hc=>by
  rcases hF11 with⟨e1,_⟩|⟨b1,e1,_⟩
  ·rw[e1];exact hc
  ·rw[e1];exact c36 _ hc
 have nd11:F11.Nodup:=by
  rcases hF11 with⟨e1,_⟩|⟨b1,e1,_⟩
  ·rw[<-e1];exact nd1
  ·rw[e1] at nd1;exact(c44.1 nd1).2
 have ownF:∀c,(Value.slice A m cap).ownBlock=some c->c∈F1/\c∉F11:=λc hc=>by
  rcases hF11 with⟨e1,e2⟩|⟨b1,e1,e2⟩
  ·rw[e2] at hc;cases hc
  ·rw[e2] at hc;injection hc with hc;subst hc;rw[e1] at nd1 ⊢;exact⟨c38 ..,(c44.1 nd1).1⟩
 have hxv:a.eval x=.slice A m cap:=by
  have h1:=h.get x;rw[hx] at h1;rw[h1.unown.1,hgk];rfl
 obtain⟨b',capy,hgb,hyv,hcapy⟩:∃b' c',g j=.pointer (some ⟨b',0,none⟩)/\a.eval y=.slice (some ⟨b',0,none⟩) (n+1) c'/\n+1<=c':=by
  have h1:=h.get y;rw[hy] at h1;exact h1.unbs
 have e1:b'=b:=b9J (hgb.symm.trans hg);subst e1
 have hsrc:b6F w (some ⟨b',0,none⟩) (n+1) (ty e).sz us:=⟨by rw[hus.1,hlen2],by simp,λad had q v hq=>by
  have h9:=Option.some.inj had;rw[<-h9,Addr.add_lit];rw[cell_of_row w b' (0+q) (us++tt.2).toArray tt.1 (0,0) hb];have hlt:=(c35.1 hq).1;simp only[c5m,c4z];rw[c3S hlt]
  exact hq,h1s⟩
 have hr0:xs.length+(n+1)<=maxLen/\(xs.length+(n+1)) * i.bytes<=140737488355328:=by
  refine⟨by unfold maxLen;omega,?_⟩
  have h1:(xs.length+(n+1)) * i.bytes<=137438953472 * 1024:=Nat.mul_le_mul hroom hby
  omega
 obtain⟨v',w',hrun,hown',hsp⟩:∃v' w',(Builtin.append_ #[t,t] o.type #[.slice A m cap,.slice (some ⟨b',0,none⟩) (n+1) capy]).run Tryd.prog w=.ok v' w'/\w'.ownsRow 0 e (ty e).sz v' (xs.length+(n+1)) (us0++us) /\
   ((∃g,(Value.slice A m cap).ownBlock=some g/\v'.ownBlock=some g/\w.grownBy w' (some g))\/(Below w.heap.size w w'/\(v'.ownBlock=none\/v'.ownBlock=some w.heap.size))):=by
  clear hroom;generalize n+1=nn at *;exact Z7 (P:=Tryd.prog) w 0 t o.type e i z (ty e).sz i.bytes hun hi hiz his rfl hzs hpos (.slice A m cap) xs.length us0 hown (some ⟨b',0,none⟩) nn capy us hsrc hr0.1 hr0.2 (c4e _)
 have hsz:w.heap.size<=w'.heap.size:=by
  rcases hsp with⟨_,_,_,h3⟩|⟨h3,_⟩
  ·exact h3.size
  ·exact h3.size
 have hother:∀c,c<w.heap.size->(Value.slice A m cap).ownBlock≠some c->w'.heap[c]?=w.heap[c]?:=λc hc hne=>by
  rcases hsp with⟨d,h1,_,h3⟩|⟨h3,_⟩
  ·exact h3.block c hc (λe=>hne (by rw[h1,<-e]))
  ·exact h3.block c hc
 obtain⟨bn,capn,curn,hv',_,hbn,hncn,_,hcsn,htkn⟩:∃bn capn curn,v'=.slice (some ⟨bn,0,none⟩) (xs.length+(n+1)) capn/\0<=bn/\w'.heap[bn]?=some (.cells curn e (0,0))/\xs.length+(n+1)<=capn/\capn<=maxLen/\curn.size=capn * (ty e).sz/\curn.toList.take ((xs.length+(n+1)) * (ty e).sz)=us0++us:=by
  rcases hown'.2 with⟨_,e2⟩|h1
  ·omega
  ·exact h1
 have hbn2:(Value.slice A m cap).ownBlock=some bn\/bn=w.heap.size:=by
  rcases hsp with⟨c,h1,h2,_⟩|⟨_,h2|h2⟩
  ·rw[hv'] at h2;exact .inl (by rw[h1];exact h2.symm)
  ·rw[hv'] at h2;cases h2
  ·rw[hv'] at h2;exact .inr (Option.some.inj h2)
 have same1:∀c∈F11,w'.heap[c]?=w.heap[c]?:=λc hc=>hother c (ltF1 c (subF c hc)) λe=>(ownF c e).2 hc
 have same2:∀c∈F2,w'.heap[c]?=w.heap[c]?:=λc hc=>hother c (ltF2 c hc) λe=>disF c (ownF c e).1 hc
 have hRl:(xs++rows).length=xs.length+(n+1):=by rw[c37,hf2]
 have htree:AtTs w' e (bn::((F11++F2)++[])) [.slice (some ⟨bn,0,none⟩) (xs++rows).length capn] [.sl (ty e).sz (xs++rows)]:=by
  refine .sl bn capn (xs++rows) (us0++us) curn e (F11++F2) [] [] [] (λe=>by rw[e] at hRl;simp at hRl) (by omega) hbn ?_ (by rw[hRl];exact htkn) (λr hr=>?_) ?_ .nil
  ·rw[hRl,hown'.1]
  ·rcases c4b.1 hr with hr|hr
   ·rcases hat1.top with⟨h0,_⟩|⟨_,_,_,_,_,_,_,_,_,_,_,_,_,hr1,_⟩
    ·rw[h0] at hr;simp at hr
    ·exact hr1 r hr
   ·exact hf3 r hr
  ·rw[c5s,hf1];exact(hat11.keep same1).app (hat2.keep same2)
 rw[c3X,hRl,hR] at htree
 have hndn:(bn::(F11++F2)).Nodup:=by
  refine c44.2 ⟨λhm=>?_,c51.2 ⟨nd11,hn2,λc hc c' hc' e=>disF c (subF c hc) (e ▸ hc')⟩⟩
  rcases hbn2 with h1|h1
  ·rcases c4b.1 hm with hm|hm
   ·exact(ownF bn h1).2 hm
   ·exact disF bn (ownF bn h1).1 hm
  ·rcases c4b.1 hm with hm|hm
   ·have:=ltF1 bn (subF bn hm);omega
   ·have:=ltF2 bn hm;omega
 have hRl2:R.length=xs.length+(n+1):=by rw[<-hR,hRl]
 have hP:m6 true e R w' (.slice (some ⟨bn,0,none⟩) (xs.length+(n+1)) capn) (bn::(F11++F2)):=⟨hndn,htree,λ_=>⟨us0++us,by rw[hRl2,<-hv'];exact hown'⟩⟩;obtain⟨gn,hgn0⟩:∃gn,gn=Z2 (.slice (some ⟨bn,0,none⟩) (xs.length+(n+1)) capn) (bn::(F11++F2)):=⟨_,rfl⟩;have hgn:∀q,q≠k->g q≠.nilFunc->upd g k gn q=g q:=λq hq _=>n8 hq
 have hgr:∀q,J9 (g q)=true->upd g k gn q=g q:=λq hr=>n8 λe=>by rw[e,hgk] at hr;cases hr
 have hkp:o6 I w w':=λc h' hi q hq=>by
  have hc:=(h.lt c h' hi).1;exact a2C (hother c hc λe=>(hF1 c (ownF c e).1).2.1 h' hi) q
 have hfr:Fr X w0.w w':=by
  have hos:w'.os=w.os/\w'.tape=w.tape/\w'.output=w.output:=by
   rcases hsp with⟨_,_,_,h3⟩|⟨h3,_⟩
   ·exact⟨h3.os,h3.tape,h3.output⟩
   ·exact⟨h3.os,h3.tape,h3.output⟩
  refine⟨hos.1.trans h.fr.os,hos.2.1.trans h.fr.tape,hos.2.2.trans h.fr.output,c4E h.fr.size hsz,λc hc hX=>?_⟩;rw[hother c (c4y hc h.fr.size) λe=>?_]
  ·exact h.fr.block c hc hX
  ·rcases (hF1 c (ownF c e).1).2.2 with h1|h1
   ·omega
   ·exact hX h1
 have hltk:=(c35.1 hk).1;have dl:(a0D (j::ms) (fO (sw1 k .jk) k s.o)).length=s.o.length:=by rw[a5X,Y6]
 have look:∀q ob,((a0D (j::ms) (fO (sw1 k .jk) k s.o)).set k (.it (m6 true e R)))[q]?=some ob->(q=k/\ob=.it (m6 true e R))\/(q≠k/\q∈j::ms/\ob=.dead)\/(q≠k/\q∉j::ms/\(fO (sw1 k .jk) k s.o)[q]?=some ob):=λq ob ho=>by
  by_cases e2:k=q
  ·subst e2;rw[c3V (by rw[dl];exact hltk)] at ho;exact .inl ⟨rfl,(Option.some.inj ho).symm⟩
  ·rw[c3O e2] at ho
   rcases a5Y _ _ _ _ ho with⟨h1,h2⟩|⟨h1,h2⟩
   ·exact .inr (.inr ⟨c4W e2,h1,h2⟩)
   ·exact .inr (.inl ⟨c4W e2,h1,h2⟩)
 have inF:∀c,c∈bn::(F11++F2)->(∃q,(q=k\/q∈j::ms)/\B1 s q/\P0 (g q) c)\/w.heap.size<=c:=λc hc=>by
  have key:c∈F1->∃q,(q=k\/q∈j::ms)/\B1 s q/\P0 (g q) c:=λhc=>⟨k,.inl rfl,lk,(hgF1 c).2 hc⟩
  rcases c3F.1 hc with rfl|hc
  ·rcases hbn2 with h1|h1
   ·exact .inl (key (ownF _ h1).1)
   ·exact .inr (by omega)
  ·rcases c4b.1 hc with hc|hc
   ·exact .inl (key (subF c hc))
   ·obtain⟨m',h1,h2,h3⟩:=hF2 c hc;exact .inl ⟨m',.inr (c36 _ h1),h2,h3⟩
 have hrel:RelI I0 X w0 I (upd g k gn) ⟨fT (sw1 k .jk) s.t,(a0D (j::ms) (fO (sw1 k .jk) k s.o)).set k (.it (m6 true e R))⟩ a w':=by
  refine h.trade (sw1 k .jk) (λq=>q=k\/q∈j::ms) (λc=>∃q,(q=k\/q∈j::ms)/\B1 s q/\P0 (g q) c) _ hfr hkp hsz (λ_ _ h=>h) (λc hc=>hc) (λb n h=>.inl h) (a7Z (λ_ _ h=>h) hkp hgn hgr (λv _ _=>.jk v) (λb n cap e=>by rw[hgk] at e;cases e)) (λq hq hl c hc=>?_) (λq hq ob ho=>?_) (λq hq ob ho=>?_) (λi1 i2 c hi1 hi2 hl1 hl2 hb1 hb2=>?_) hgr (by rw[c3N,dl];exact c3A _) (λq hq=>?_)
  ·refine hother c (h.blk_lt hl hc) λe=>hq (.inl ?_)
   exact h.dis q k c hl lk hc ((hgF1 c).2 (ownF c e).1)
  ·refine⟨n8 λe=>hq (.inl e),?_⟩
   rcases look q ob ho with⟨h1,_⟩|⟨_,h1,_⟩|⟨_,_,h1⟩
   ·exact absurd (.inl h1) hq
   ·exact absurd (.inr h1) hq
   ·obtain⟨o0,h2,h3⟩:=a5W _ _ _ _ _ h1;refine⟨o0,h2,h3.imp id (Or.imp (λ⟨ks,a1,a2⟩=>⟨ks,_,a1,a2,λi hi=>c36 _ hi,λi _=>?_⟩) id)⟩
    by_cases e:i=k
    ·exact .inr (by rw[e];exact c38 ..)
    ·exact .inl (n8 e)
  ·rcases look q ob ho with⟨rfl,rfl⟩|⟨_,_,rfl⟩|⟨h1,h2,_⟩
   ·refine⟨⟨some ⟨bn,0,none⟩,xs.length+(n+1),capn,bn::(F11++F2),by rw[i7,hgn0],hP,λw2 hw=>hP.keep hw,λc hc=>?_⟩,λ_ c hc=>?_⟩
    ·obtain⟨cc,t1,hcc⟩:=htree.cells c hc;refine⟨⟨cc,t1,hcc⟩,?_⟩;have key:c∈F1->(∀h',¬I c h')/\a19 X w0 c:=λhc=>(hF1 c hc).2
     rcases c3F.1 hc with rfl|hc
     ·rcases hbn2 with h1|h1
      ·exact key (ownF _ h1).1
      ·exact⟨λh' hi=>by have:=(h.lt _ h' hi).1;omega,.inl (by have:=h.fr.size;omega)⟩
     ·rcases c4b.1 hc with hc|hc
      ·exact key (subF c hc)
      ·obtain⟨m',h1,h2,h3⟩:=hF2 c hc;obtain⟨zz,r,ho⟩:=a0g hcl m' h1;have ho:=j8 ho (by simp);obtain⟨A',n',cap',F,q1,_,_,q4⟩:=h.obj m' _ ho;rw[q1,B0] at h3;exact(q4 c h3).2
    ·rw[i7,hgn0,B0] at hc;exact inF c hc
   ·exact⟨True.intro,λhd=>absurd rfl hd⟩
   ·rcases hq with hq|hq
    ·exact absurd hq h1
    ·exact absurd hq h2
  ·have cls:∀q,(q=k\/q∈j::ms)->(∃ob,((a0D (j::ms) (fO (sw1 k .jk) k s.o)).set k (.it (m6 true e R)))[q]?=some ob/\ob≠.dead)->q=k:=λq hq ⟨ob,ho,hd⟩=>by
    rcases look q ob ho with⟨h1,_⟩|⟨_,_,rfl⟩|⟨h1,h2,_⟩
    ·exact h1
    ·exact absurd rfl hd
    ·rcases hq with hq|hq
     ·exact hq
     ·exact absurd hq h2
   rw[cls i1 hi1 hl1,cls i2 hi2 hl2]
  ·rw[c3N,dl] at hq;rw[n8 (by omega)];exact h.out q hq
 unfold Oper.wp
 have hexec:(execOp a.eval o).run Tryd.prog w=.ok (.value v') w':=by
  unfold execOp;rw[ho];simp only[resolve,invoke,builtin,Sem.run_bind,Sem.run_pure,Result.andThen_ok,List.map_toArray,c3Y,c5f,hxv,hyv,hrun]
 rw[hexec,Oper.upon_value];rw[y5] at hK;refine⟨_,⟨_,_,hrel.put (x:=.own k) ?_ _⟩,hK⟩;rw[hv'];exact .own _ _ _ _ (by rw[i7,hgn0];rfl)
section
def b0r:List (List D)->List D
 | []=>[]
 | r::l=>catD r (b0r l)
where
 catD:List D->List D->List D
  | [],m=>m
  | x::l,m=>x::catD l m
theorem b4N:∀l:List (List D),b0r l=l.flatten
 | []=>rfl
 | r::l=>by
  have h:∀r m:List D,b0r.catD r m=r++m:=by
   intro r m
   induction r with
   | nil=>rfl
   | cons x r ih=>rw[b0r.catD,ih];rfl
  rw[b0r,h,b4N l];simp
theorem v7.melt {s:S} {k e:Nat} {z:Bool} {rows:List (List D)} (hk:m7 s.o k=.it (m6 z e rows)):v7 s ⟨fT (sw1 k (.d (.sl (ty e).sz rows))) s.t,B5 (fO (sw1 k (.d (.sl (ty e).sz rows))) k s.o) k .dead⟩:=by
 rintro I0 X w0 a w ⟨I,g,h⟩
 rw[y5];exact h.melt (j8 hk (by simp))
theorem v7.openT {s:S} {k e:Nat} {z:Bool} {rows:List (List D)} (hk:m7 s.o k=.it (m6 z e rows)) (hne:rows≠[]):v7 s ⟨fT (sw1 k (.bs (j6 s.o) (n7 rows))) s.t,b0N (B5 (fO (sw1 k (.bs (j6 s.o) (n7 rows))) k s.o) k (.it (m6 true e []))) (.box (a7Y (j6 s.o+1) (b0r rows))::a2u e (b0r rows))⟩:=by
 rintro I0 X w0 a w ⟨I,g,h⟩
 rw[y5,a3t,l9,y8,b4N];exact h.opened (j8 hk (by simp)) hne
theorem v7.closeT {s:S} {p c j k n e:Nat} {bs cs:List V} {ds:List D} {ms:List Nat} {rows:List (List D)} {P:World->Value->List Nat->Prop} (hp:m7 s.o p=.box bs) (hcell:m5 bs c=.bs j (n+1)) (hj:m7 s.o j=.box cs) (hk:m7 s.o k=.it P) (hpj:H5 p j=false) (hlen:H5 (n7 cs) ((n+1) * (ty e).sz)=true) (hcl:a1l s.o e cs ds ms) (hch:a1V (ty e).sz (n+1) ds=some rows) (hms:a28 ms=true) :
  v7 s ⟨fT (sw1 k .jk) s.t,B5 (B5 (a0D (j::ms) (fO (sw1 k .jk) k s.o)) k (.it (m6 false e rows))) p (.box (G5 (fL (sw1 k .jk) bs) c (.own k)))⟩:=by
 rintro I0 X w0 a w ⟨I,g,h⟩
 rw[y5,y5,Q5];obtain⟨h1,h2,h3⟩:=a3y hch;exact h.closed (j8 hp (by simp)) (K6 hcell (by simp)) (j8 hj (by simp)) (j8 hk (by simp)) (a0V.1 hpj) (by rw[<-y8];exact y9.1 hlen) hcl h1 h2 h3 (Nat.succ_pos _) (a0K hms)
theorem v7.newT (s:S) (i e:Nat) (hi:m5 s.t i=.em):v7 s ⟨G5 s.t i (.own (j6 s.o)),o9 s.o (.it (m6 true e []))⟩:=by
 rintro I0 X w0 a w ⟨I,g,h⟩
 have h2:=h.newObj (.it (m6 true e [])) (Z2 (.slice none 0 0) []) ⟨none,0,0,[],by rw[i7],m6.nil w true e,λw' _=>m6.nil w' true e,by simp⟩ (λj b _ _ hb=>by rw[B0] at hb;simp at hb);refine⟨I,upd g s.o.length (Z2 (.slice none 0 0) []),?_⟩;have h3:RelI I0 X w0 I (upd g s.o.length (Z2 (.slice none 0 0) [])) ⟨s.t,o9 s.o (.it (m6 true e []))⟩ a w:=h2;refine h3.reread λv hv=>?_
 have hs:=K6 hi (by simp);have h4:=h.tmp.2 i v _ hv hs;rw[h4.unem];exact .own _ _ _ _ (by rw[l9,i7];rfl)
section
variable {I0:Nat->Nat->Prop} {X:Nat->Prop} {w0:W0} {I:Nat->Nat->Prop} {g:Nat->Value} {s:S} {a:Act} {w:World}
theorem RelI.emV (h:RelI I0 X w0 I g s a w) {k e:Nat} {z:Bool} (hk:s.o[k]?=some (.it (m6 z e []))):gv (g k)=.slice none 0 0:=by
 obtain⟨A,n,cap,F,hg,⟨_,hat,_⟩,_⟩:=h.obj k _ hk;rw[hg]
 rcases hat.top with⟨_,hv,_⟩|⟨_,_,_,_,_,_,h0,_⟩
 ·exact hv
 ·exact absurd rfl h0
theorem RelI.weakT (h:RelI I0 X w0 I g s a w) {k:Nat} {P P':World->Value->List Nat->Prop} (hk:s.o[k]?=some (.it P)) (hP:∀w v F,P w v F->P' w v F):RelI I0 X w0 I g ⟨s.t,s.o.set k (.it P')⟩ a w:=by
 have hlt:=(c35.1 hk).1;refine⟨h.im,h.lt,h.fr,h.kp,by simp only[c3N];exact h.lo,h.st,λi o ho=>?_,λi j b hi hj=>h.dis i j b (P3 hk (by simp) hi) (P3 hk (by simp) hj),λi hi=>h.out i (by simpa using hi),h.tmp,h.dfr⟩
 by_cases hik:k=i
 ·subst hik;simp only[c3V hlt] at ho;cases ho;obtain⟨A,n,cap,F,h1,h2,h3,h4⟩:=h.obj k _ hk;exact⟨A,n,cap,F,h1,hP _ _ _ h2,λw' hw=>hP _ _ _ (h3 w' hw),h4⟩
 ·simp only[c3O hik] at ho;exact h.obj i o ho
end
theorem v7.weakT {s:S} {k e:Nat} {z:Bool} {rows:List (List D)} (hk:m7 s.o k=.it (m6 z e rows)):v7 s ⟨s.t,B5 s.o k (.it (m6 false e rows))⟩:=by
 rintro I0 X w0 a w ⟨I,g,h⟩
 rw[y5];exact⟨I,g,h.weakT (j8 hk (by simp)) λw v F ⟨h1,h2,_⟩=>⟨h1,h2,by simp⟩⟩
theorem v7.emT {s:S} {k e:Nat} {z:Bool} (hk:m7 s.o k=.it (m6 z e [])):v7 s ⟨fT (sw1 k .em) s.t,fO (sw1 k .em) k s.o⟩:=by
 rintro I0 X w0 a w ⟨I,g,h⟩
 have hv:=h.emV (j8 hk (by simp));refine⟨I,g,h.trade (sw1 k .em) (λ_=>False) (λ_=>False) _ h.fr (o6.refl I w) (c3A _) (λ_ _ h=>h) (λ_ hb=>hb.elim) (λb n h=>.inl h) (a7Z (λ_ _ h=>h) (o6.refl I w) (λ_ _ _=>rfl) (λ_ _=>rfl) (λv hv2 _=>by rw[hv2,hv];exact .em) (λ_ _ _ _=>rfl)) (λ_ _ _ _ _=>rfl) (λj hj o ho=>⟨rfl,?_⟩) (λj hj=>hj.elim) (λi j b hi=>hi.elim) (λ_ _=>rfl) (by rw[Y6];exact c3A _) (λj hj=>h.out j (by rw[Y6] at hj;exact hj))⟩;obtain⟨o0,h1,h2⟩:=a5W _ _ _ _ _ ho;exact⟨o0,h1,h2.imp id (Or.imp (λ⟨ks,a1,a2⟩=>⟨ks,_,a1,a2,λi hi=>c36 _ hi,λi _=>.inl rfl⟩) id)⟩
theorem v7.cellT {s:S} {p c k e:Nat} {z:Bool} {bs:List V} (hp:m7 s.o p=.box bs) (hc:m5 bs c=.em) (hk:m7 s.o k=.it (m6 z e [])):v7 s ⟨s.t,B5 s.o p (.box (G5 bs c (.own k)))⟩:=by
 rintro I0 X w0 a w ⟨I,g,h⟩
 have hv:=h.emV (j8 hk (by simp));rw[y5,Q5];refine⟨I,g,h.rebox (j8 hp (by simp)) λus hus=>hus.reset λv hv2=>?_⟩;rw[(hus.2 c v _ hv2 (K6 hc (by simp))).unem];exact .own k _ _ _ hv
section
variable {qa:_} {qb:_} {qc:_} {qd:_} {qe:_} {qf:_} {qg:_} {qh:_} {qi:_} {qj:_} {qk:_} {ql:_} {qm:_} {qo:_} {qp:_} {qq:_} {qs:_} {qt:_} {qu:_} {qv:_} {qw:_} {qx:_} {qy:_} {qz:_} {vc:_} {vd:_} {ve:_} {vf:_} {vg:_} {vh:_} {vj:_} {vk:_} {vl:_} {vp:_} {vq:_} {vr:_} {vt:_} {vu:_} {vv:_} {vw:_} {vx:_} {vy:_} {vz:_} (hA:Ar.mk qa qb qc qd qe qf qg qh qi qj qk ql qm qo qp qq qs qt qu qv qw qx qy qz vc vd ve vf vg vh vj vk vl vp vq vr vt vu vv vw vx vy vz=a7)
include hA
theorem b9K {N:S->Prop} {s:S} (k:Nat) {e:Nat} {z:Bool} {rows:List (List D)} (hk:m7 s.o k=.it (m6 z e rows)) (h:N ⟨fT (sw1 k (.d (.sl (ty e).sz rows))) s.t,B5 (fO (sw1 k (.d (.sl (ty e).sz rows))) k s.o) k .dead⟩):vw N s:=E3 hA _ (v7.melt hk) h
theorem b4O {N:S->Prop} {s:S} (k:Nat) {e:Nat} {z:Bool} {rows:List (List D)} (hk:m7 s.o k=.it (m6 z e rows)) (hne:rows≠[]) (h:N ⟨fT (sw1 k (.bs (j6 s.o) (n7 rows))) s.t,b0N (B5 (fO (sw1 k (.bs (j6 s.o) (n7 rows))) k s.o) k (.it (m6 true e []))) (.box (a7Y (j6 s.o+1) (b0r rows))::a2u e (b0r rows))⟩):vw N s:=E3 hA _ (v7.openT hk hne) h
theorem a8a {N:S->Prop} {s:S} (p c j k:Nat) {n e:Nat} {bs cs:List V} (ds:List D) (ms:List Nat) (rows:List (List D)) {P:World->Value->List Nat->Prop} (hp:m7 s.o p=.box bs) (hcell:m5 bs c=.bs j (n+1)) (hj:m7 s.o j=.box cs) (hk:m7 s.o k=.it P) (hpj:H5 p j=false) (hlen:H5 (n7 cs) ((n+1) * (ty e).sz)=true) (hcl:a1l s.o e cs ds ms) (hch:a1V (ty e).sz (n+1) ds=some rows) (hms:a28 ms=true)
  (h:N ⟨fT (sw1 k .jk) s.t,B5 (B5 (a0D (j::ms) (fO (sw1 k .jk) k s.o)) k (.it (m6 false e rows))) p (.box (G5 (fL (sw1 k .jk) bs) c (.own k)))⟩):vw N s:=E3 hA _ (v7.closeT hp hcell hj hk hpj hlen hcl hch hms) h
theorem b4P {N:S->Prop} {s:S} (i e:Nat) (hi:m5 s.t i=.em) (h:N ⟨G5 s.t i (.own (j6 s.o)),o9 s.o (.it (m6 true e []))⟩):vw N s:=E3 hA _ (v7.newT s i e hi) h
theorem a5g {N:S->Prop} {s:S} (k:Nat) {e:Nat} {z:Bool} {rows:List (List D)} (hk:m7 s.o k=.it (m6 z e rows)) (h:N ⟨s.t,B5 s.o k (.it (m6 false e rows))⟩):vw N s:=E3 hA _ (v7.weakT hk) h
theorem b3i {N:S->Prop} {s:S} (k:Nat) {e:Nat} {z:Bool} (hk:m7 s.o k=.it (m6 z e [])) (h:N ⟨fT (sw1 k .em) s.t,fO (sw1 k .em) k s.o⟩):vw N s:=E3 hA _ (v7.emT hk) h
theorem a8b {N:S->Prop} {s:S} (p c k:Nat) {e:Nat} {z:Bool} {bs:List V} (hp:m7 s.o p=.box bs) (hc:m5 bs c=.em) (hk:m7 s.o k=.it (m6 z e [])) (h:N ⟨s.t,B5 s.o p (.box (G5 bs c (.own k)))⟩):vw N s:=E3 hA _ (v7.cellT hp hc hk) h
end
end
def oT (op nm n:Value) (k:Nat):V:=.ag [.d (.sc op),.d (.sc nm),.d (.sc n),.own k]
def a5Z (op nm n:Value) (K:List (List D)) (res:List V) (os:List O):Prop:=res=[oT op nm n 0]/\∃z,os=[.it (m6 z 25 K)]
def b8k (t:Ty):List V->List O->Prop:=a5Z (.int .u8 t.op) (.string t.name) (.int .i64 t.n) (rT t.kids)
theorem a9l:∀(m:Nat) (t:Ty),t.parts.length<=m->m<=1048576->o5 69 [.ag (ofD (cT t))] [] (b8k t):=by
 intro m
 induction m with
 | zero=>intro t h;have:=j5 t;omega
 | succ m ih =>
  intro t hm hm2;have hkl:=m9 t;obtain⟨op,nm,n,ks⟩:=t;simp only[Ty.kids] at hkl ih;rw[cT];show o5 _ _ _ (a5Z (.int .u8 op) (.string nm) (.int .i64 n) (rT ks));obtain⟨K,hK⟩:∃K,K=rT ks:=⟨_,rfl⟩;rw[<-hK];refine so9 Tryd.func69 rfl ?_;intro qa qb _ _ _ _ _ qh _ _ _ _ _ _ _ _ _ _ _ _ _ _ qy qz _ vd;intros;rename_i hA;cbv
  with_reducible apply b6 hA
  cbv;refine b4P hA 3 25 rfl ?_;cbv
  repeat ((with_reducible apply b6 hA);cbv)
  obtain⟨e1,e2,e3,e4,e5,e6,e7,e8,e9⟩:=j3 hA;obtain⟨r1,r2,r3,r4⟩:=m8 hA;refine l7 hA (γ:=Int×List (List D)) (λx=>[(9,vi .i64 x.1),(3,.own 2),(13,.jk),(14,.jk),(15,.jk),(16,.jk),(17,.jk)]) (λx=>[(2,.it (m6 true 25 x.2))]) (λx=>∃k:Nat,x.1=(k:Int)/\k<=ks.length/\x.2=rT (ks.take k)) (λx=>ks.length - x.1.toNat) (0,[]) ?_ ?_ ?_
  ·exact⟨0,rfl,c4e _,rfl⟩
  ·cbv
  ·intro x hinv;obtain⟨z,L⟩:=x;cbv
   repeat ((with_reducible apply b6 hA);cbv)
   obtain⟨k,hz,hk,hE⟩:=hinv;have hz:z=(k:Int):=hz;replace hE:L=rT (ks.take k):=hE;have hlen:qy K=(ks.length:Int):=by rw[r1,hK,B7]
   have hlt:qh z (qy K)=decide (k<ks.length):=by rw[e7,hlen,hz];exact c3M.2 (by omega)
   by_cases h9:k<ks.length
   ·rw[c3K h9] at hlt;obtain⟨x,hx⟩:∃x,ks[k]?=some x:=⟨_,c39 h9⟩;have g1:qz K z=some (cT x):=by rw[r2,hz,c3E (by omega),hK];exact T3 hx
    have hsp:=ih x (by have:=hkl.2 x (c3J hx);omega) (by omega);have hsn:=a3A hx;obtain⟨o1,m1,n1,l1⟩:=x;rw[cT] at g1 hsp hsn;replace hsp:o5 69 _ _ (a5Z (.int .u8 o1) (.string m1) (.int .i64 n1) (rT l1)):=hsp;generalize rT l1=L1 at *;rw[hlt];cbv
    repeat ((with_reducible apply b6 hA);cbv)
    rw[g1];cbv
    repeat ((with_reducible apply b6 hA);cbv)
    refine d7 hA [] hsp ⟨rfl,rfl,rfl,rfl,rfl,rfl,rfl⟩ ?_
    rintro res os2 ⟨rfl,zz,rfl⟩
    cbv;refine a79 hA (b0q [.d (.sc (.int .u8 o1)),.d (.sc (.string m1)),.d (.sc (.int .i64 n1)),.own 4] rfl rfl rfl ?_);cbv;refine a79 hA (b1O [.sc (.int .u8 o1),.sc (.string m1),.sc (.int .i64 n1),.sl 4 L1] [4] [[.sc (.int .u8 o1),.sc (.string m1),.sc (.int .i64 n1),.sl 4 L1]] (vd L [[.sc (.int .u8 o1),.sc (.string m1),.sc (.int .i64 n1),.sl 4 L1]]) rfl rfl rfl rfl rfl rfl ⟨rfl,rfl,rfl,rfl,rfl,⟨_,rfl⟩,trivial⟩ rfl rfl ?_ (r4 _ _).symm ?_)
    ·rw[hE,B7];simp;omega
    cbv
    repeat ((with_reducible apply b6 hA);cbv)
    replace hz:z=(k:Int):=hz;have hz1:qa .i64 (qb z 1)=((k+1:Nat):Int):=by rw[e1,e2,hz,IntWalk.i64_in _ (by omega)];omega
    refine⟨(qa .i64 (qb z 1),vd L [[.sc (.int .u8 o1),.sc (.string m1),.sc (.int .i64 n1),.sl 4 L1]]),⟨k+1,hz1,h9,by show vd L _=_;rw[r4,hE,hsn]⟩,by show ks.length - (qa .i64 (qb z 1)).toNat<ks.length - z.toNat;rw[hz1,hz];omega,?_⟩;cbv
   ·rw[c3I h9] at hlt;rw[hlt];cbv
    repeat ((with_reducible apply b6 hA);cbv)
    have hE2:L=K:=by rw[hE,hK,c4i (by omega)]
    rw[hE2];exact i6 hA [2] ⟨rfl,rfl,rfl,rfl,rfl,rfl,rfl,rfl⟩ ⟨rfl,true,rfl⟩
def jT2 (rows:List (List D)) (d0 d1 d2 d3:D) (x:V):List V:=[.d (.sl 5 rows),.ag [.d d0,.d d1,.d d2,.d d3],.tu [],.ptr 0 0,.ptr 1 0,.ptr 3 0,.tu [],.tu [],.ag [.d d0,.d d1,.d d2,.d d3],x,.d (.sl 5 rows),
 .cl 82 [5],.tu [],.tu [],.tu [],.tu [],.tu [],.tu [],.tu [],.tu [],.tu [],.tu [],.tu []]
def jO2 (d0 d1 d2 d3:D) (op nm n:Value) (R:List (List D)) (b:O):List O:=[.box [.d d0,.d d1,.d d2,.d d3],.box [.d (.sc (.int .u8 0)),.d (.sc (.string ⟨#[]⟩)),.d (.sc (.int .i64 0)),.em],.it (m6 false 25 R),.box [.d (.sc op),.d (.sc nm),.d (.sc n),.own 2],.dead,b]
theorem b6e (rows:List (List D)) (d0 d1 d2 d3:D) (op nm n:Value) (R:List (List D)) (hcp:o5 69 [.ag [.d d0,.d d1,.d d2,.d d3]] [] (a5Z op nm n R)) (P:S->Prop) (hP:P ⟨jT2 rows d0 d1 d2 d3 (oT op nm n 2),jO2 d0 d1 d2 d3 op nm n R (.box [.d (.sl 5 rows)])⟩):∀qa qb qc qd qe qf qg qh qi qj qk ql qm qo qp qq qs qt qu qv qw qx qy qz vc vd ve vf vg vh vj vk vl vp vq vr vt vu vv vw vx vy vz,Ar.mk qa qb qc qd qe qf qg qh qi qj qk ql qm qo qp qq qs qt qu qv qw qx qy qz vc vd ve vf vg vh vj vk vl vp vq vr vt vu vv vw vx vy vz=a7->x5 (Ar.mk qa qb qc qd qe qf qg qh qi qj qk ql qm qo qp qq qs qt qu qv qw qx qy qz vc vd ve vf vg vh vj vk vl vp vq vr vt vu vv vw vx vy vz) (.seq (Q0 (Tryd.f45.body.getD .skip)) (.seq (Q0 (C0 (Tryd.f45.body.getD .skip))) (Q0 (Q0 (C0 (C0 (Tryd.f45.body.getD .skip)))))))
  (a2S [.d (.sl 5 rows),.ag [.d d0,.d d1,.d d2,.d d3]] [] (Tryd.f45.ntmps - n7 [V.d (.sl 5 rows),.ag [.d d0,.d d1,.d d2,.d d3]])) (λx s=>x=.normal/\P s):=by
 intro _ _ _ _ _ _ _ _ _ _ _ _ _ _ _ _ _ _ _ _ _ _ _ _ _ _ _ _ _ _ _ _ _ _ _ _ _ _ _ _ _ vy _ hA;cbv
 repeat ((with_reducible apply b6 hA);cbv)
 refine d7 hA [] hcp ⟨rfl,rfl,rfl,rfl,rfl,rfl,rfl⟩ ?_
 rintro res os2 ⟨rfl,zz,rfl⟩
 cbv;refine a5g hA 2 (z:=zz) rfl ?_;cbv
 repeat ((with_reducible apply b6 hA);cbv)
 refine b7x hA Tryd.func70 rfl (by kernel_rfl) (by kernel_rfl) (by kernel_rfl) ?_;cbv
 repeat ((with_reducible apply b6 hA);cbv)
 exact hP
theorem b1P (rows:List (List D)) (d0 d1 d2 d3:D) (op nm n nv o1 m1 n1:Value) (R L1:List (List D)) (i:Int) (hcp:o5 69 [.ag [.d (.sc o1),.d (.sc m1),.d (.sc n1),.d (.sl 4 L1)]] [] (a5Z o1 m1 n1 L1)):∀qa qb qc qd qe qf qg qh qi qj qk ql qm qo qp qq qs qt qu qv qw qx qy qz vc vd ve vf vg vh vj vk vl vp vq vr vt vu vv vw vx vy vz,Ar.mk qa qb qc qd qe qf qg qh qi qj qk ql qm qo qp qq qs qt qu qv qw qx qy qz vc vd ve vf vg vh vj vk vl vp vq vr vt vu vv vw vx vy vz=a7 ->
  x5 (Ar.mk qa qb qc qd qe qf qg qh qi qj qk ql qm qo qp qq qs qt qu qv qw qx qy qz vc vd ve vf vg vh vj vk vl vp vq vr vt vu vv vw vx vy vz) (b0m (C0 (Q0 (C0 (C0 (Tryd.f45.body.getD .skip)))))) ⟨G5 (G5 (jT2 rows d0 d1 d2 d3 .jk) 12 (vi .i64 i)) 13 (.ag [.d (.sc nv),.d (.sc o1),.d (.sc m1),.d (.sc n1),.d (.sl 4 L1)]),o9 (jO2 d0 d1 d2 d3 op nm n R .dead) (.kl [])⟩
   (λx s1=>x=.normal/\a1M (jO2 d0 d1 d2 d3 op nm n R .dead) s1.o=true/\x5 (Ar.mk qa qb qc qd qe qf qg qh qi qj qk ql qm qo qp qq qs qt qu qv qw qx qy qz vc vd ve vf vg vh vj vk vl vp vq vr vt vu vv vw vx vy vz) (b0n (C0 (Q0 (C0 (C0 (Tryd.f45.body.getD .skip)))))) ⟨s1.t,o9 s1.o (.kl [])⟩ (λx s2=>x=.normal /\
    b8b [2] [2] 6 (jO2 d0 d1 d2 d3 op nm n R .dead) (jO2 d0 d1 d2 d3 (.int .u8 11) nv (.int .i64 0) [[.sc o1,.sc m1,.sc n1,.sl 4 L1],[.sc op,.sc nm,.sc n,.sl 4 R]] .dead) (j6 s1.o) s2)):=by
 intro _ _ _ _ _ _ _ _ _ _ _ _ _ _ _ _ _ _ _ _ _ _ _ _ _ _ _ _ _ _ _ _ _ _ _ _ _ _ _ _ _ vy _ hA;cbv
 repeat ((with_reducible apply b6 hA);cbv)
 refine b0p hA [2,3] (by kernel_rfl) ?_;cbv
 repeat' (first
  | (with_reducible apply And.intro)
  | (refine d7 hA [] hcp ⟨rfl,rfl,rfl,rfl,rfl,rfl,rfl⟩ ?_;rintro _ _ ⟨rfl,zz,rfl⟩;cbv)
  | (refine a79 hA (b0q [.d (.sc o1),.d (.sc m1),.d (.sc n1),.own 9,.d (.sc op),.d (.sc nm),.d (.sc n),.own 2] rfl rfl rfl ?_);cbv)
  | (refine a8a hA 3 3 10 2 (n:=1) (e:=25) [.sc o1,.sc m1,.sc n1,.sl 4 L1,.sc op,.sc nm,.sc n,.sl 4 R] [9,2] [[.sc o1,.sc m1,.sc n1,.sl 4 L1],[.sc op,.sc nm,.sc n,.sl 4 R]] rfl rfl rfl rfl rfl rfl ⟨rfl,rfl,rfl,rfl,rfl,⟨_,rfl⟩,rfl,rfl,rfl,rfl,rfl,⟨_,rfl⟩,trivial⟩ rfl rfl ?_;cbv))
theorem b6f (rows:List (List D)) (d0 d1 d2 d3:D) (op nm n:Value) (R:List (List D)):∀qa qb qc qd qe qf qg qh qi qj qk ql qm qo qp qq qs qt qu qv qw qx qy qz vc vd ve vf vg vh vj vk vl vp vq vr vt vu vv vw vx vy vz,Ar.mk qa qb qc qd qe qf qg qh qi qj qk ql qm qo qp qq qs qt qu qv qw qx qy qz vc vd ve vf vg vh vj vk vl vp vq vr vt vu vv vw vx vy vz=a7->x5 (Ar.mk qa qb qc qd qe qf qg qh qi qj qk ql qm qo qp qq qs qt qu qv qw qx qy qz vc vd ve vf vg vh vj vk vl vp vq vr vt vu vv vw vx vy vz) (C0 (C0 (C0 (Tryd.f45.body.getD .skip)))) ⟨jT2 rows d0 d1 d2 d3 .jk,o9 (jO2 d0 d1 d2 d3 op nm n R .dead) (.kl [])⟩
  (λx s=>c06 Tryd.f45.results.toList (a5Z op nm n R) 6 [] x s):=by
 intro _ _ _ _ _ _ _ _ _ _ _ _ _ _ _ _ _ _ _ _ _ _ _ _ _ _ _ _ _ _ _ _ _ _ _ _ _ _ _ _ _ vy _ hA;cbv
 repeat ((with_reducible apply b6 hA);cbv)
 exact⟨[2],[oT op nm n 0],[.it (m6 false 25 R)],⟨rfl,rfl,rfl,rfl,rfl,rfl,rfl,rfl⟩,rfl,false,rfl⟩
theorem b3j (rows:List (List D)) (d0 d1 d2 d3:D) (op nm n:Value) (R:List (List D)) (hcp:o5 69 [.ag [.d d0,.d d1,.d d2,.d d3]] [] (a5Z op nm n R)) (P:S->Prop) (hP:P ⟨jT2 rows d0 d1 d2 d3 (oT op nm n 2),jO2 d0 d1 d2 d3 op nm n R (.box [.d (.sl 5 rows)])⟩):x5 a7 (.seq (Q0 (Tryd.f45.body.getD .skip)) (.seq (Q0 (C0 (Tryd.f45.body.getD .skip))) (Q0 (Q0 (C0 (C0 (Tryd.f45.body.getD .skip)))))))
  (a2S [.d (.sl 5 rows),.ag [.d d0,.d d1,.d d2,.d d3]] [] (Tryd.f45.ntmps - n7 [V.d (.sl 5 rows),.ag [.d d0,.d d1,.d d2,.d d3]])) (λx s=>x=.normal/\P s) :=
 b6e rows d0 d1 d2 d3 op nm n R hcp P hP _ _ _ _ _ _ _ _ _ _ _ _ _ _ _ _ _ _ _ _ _ _ _ _ _ _ _ _ _ _ _ _ _ _ _ _ _ _ _ _ _ _ _ rfl
theorem b9M (L:List (ByteArray×Ty)) (tl:Ty) (hlen:L.length * 80<=140737488351232) (htl:tl.parts.length<=1048576) (hL:∀f∈L,f.2.parts.length<=1048576):o5 45 [.d (.sl 5 (rF L)),.ag (ofD (cT tl))] [] (b8k (A4 L tl)):=by
 have hct:=a9l 1048576 tl htl (c3A _);obtain⟨a,ha⟩:∃a:Nat->Ty,a=λk=>A4 (L.drop (L.length - k)) tl:=⟨_,rfl⟩
 have ha0:a 0=tl:=by rw[ha];simp only;rw[c4m (by omega)];rfl
 have haN:a L.length=A4 L tl:=by rw[ha];simp only;rw[c5g];rfl
 have haS:∀k f,k<L.length->L[L.length - 1 - k]?=some f->a (k+1)=.mk 11 f.1 0 [f.2,a k]:=λk f hk hf=>by
  rw[ha];simp only;have h1:L.length - (k+1)<L.length:=by omega
  have h2:=c3U h1;have e1:L.length - 1 - k=L.length - (k+1):=by omega
  rw[e1,c39 h1] at hf;rw[h2,Option.some.inj hf,show L.length - (k+1)+1=L.length - k by omega,H6]
 obtain⟨rows,hrows⟩:∃rows,rows=rF L:=⟨_,rfl⟩;have hrl:rows.length=L.length:=by rw[hrows,G1]
 rw[<-hrows];have etl:ofD (cT tl)=[.d (.sc (.int .u8 tl.op)),.d (.sc (.string tl.name)),.d (.sc (.int .i64 tl.n)),.d (.sl 4 (rT tl.kids))]:=by cases tl;rw[cT];rfl
 rw[etl] at hct ⊢;replace hct:o5 69 _ _ (a5Z (.int .u8 tl.op) (.string tl.name) (.int .i64 tl.n) (rT tl.kids)):=hct;obtain⟨d0,hd0⟩:∃d,d=D.sc (.int .u8 tl.op):=⟨_,rfl⟩;obtain⟨d1,hd1⟩:∃d,d=D.sc (.string tl.name):=⟨_,rfl⟩;obtain⟨d2,hd2⟩:∃d,d=D.sc (.int .i64 tl.n):=⟨_,rfl⟩;obtain⟨d3,hd3⟩:∃d,d=D.sl 4 (rT tl.kids):=⟨_,rfl⟩;rw[<-hd0,<-hd1,<-hd2,<-hd3] at hct ⊢;refine b1J (Pre:=λs=>s=⟨jT2 rows d0 d1 d2 d3 (oT (.int .u8 tl.op) (.string tl.name) (.int .i64 tl.n) 2),jO2 d0 d1 d2 d3 (.int .u8 tl.op) (.string tl.name) (.int .i64 tl.n) (rT tl.kids) (.box [.d (.sl 5 rows)])⟩) Tryd.func45 b46 b47 b48 b49 b4A ?_ ?_
 ·exact b3j rows d0 d1 d2 d3 _ _ _ _ hct _ rfl
 intro I I' g w W s act hs h0;subst hs;have h:RelI I (λ_=>False) ⟨w,λ_=>.nilFunc,0,[]⟩ I' g ⟨jT2 rows d0 d1 d2 d3 .jk,jO2 d0 d1 d2 d3 (.int .u8 tl.op) (.string tl.name) (.int .i64 tl.n) (rT tl.kids) (.box [.d (.sl 5 rows)])⟩ act W:=h0.reread (i:=9) (x:=.jk) λv _=>.jk v
 obtain⟨b,us,ty,h1,h2,h3,h4⟩:=h.frzBox (k:=5) rfl;obtain⟨v,us',rfl,hv,hn⟩:=h3.uncons;obtain rfl:=hn.unnil;have hvD:AtD I' W v (.sl 5 rows):=by cases hv with|d h=>exact h
 have hBs:W.cell? ⟨b,0,none⟩=some v:=a7U h2;have hbl:b<W.heap.size:=(c3L.1 h2).1;obtain⟨bb,off,vs,hl,hup,hds,hr5,hseq⟩:=a9g (λb k hb=>(h.lt b k hb).1) hvD hbl hBs (by rw[hrl];exact hlen)
 have hcl:act.eval (.tmp 11)=.func (.func 82) #[] #[.pointer (some ⟨b,0,none⟩)]:=by
  have h5:=h4.get (.tmp 11);have h5:AtV _ W g (act.eval (.tmp 11)) (.cl 82 [5]):=h5;generalize act.eval (.tmp 11)=ax at h5 ⊢;cases h5 with
  | cl f us ks hl hh =>
   match us,hl with
   | [u],_=>rw[(hh 0 u 5 rfl rfl).1,h1]
 obtain⟨st,hst⟩:∃st:Nat->List O,st=λk=>jO2 d0 d1 d2 d3 (.int .u8 (a k).op) (.string (a k).name) (.int .i64 (a k).n) (rT (a k).kids) .dead:=⟨_,rfl⟩
 have hst0:RelI I (λ_=>False) ⟨w,λ_=>.nilFunc,0,[]⟩ (λb' n=>I' b' n\/(b'=b/\n<=1)) g ⟨jT2 rows d0 d1 d2 d3 .jk,st 0⟩ act W:=by
  rw[hst];simp only;rw[ha0];exact h4
 have hdec:rows.length=L.length:=hrl
 refine b1I (ks1:=[2]) (ks2:=[2]) (t:=jT2 rows d0 d1 d2 d3 .jk) (p1:=12) (p2:=13) (gf:=82) (N:=rows.length) (lb:=#[.pointer (some ⟨b,0,none⟩)])
  (u1:=λk=>.int .i64 ((rows.length - 1 - k:Nat):Int)) (u2:=λk=>.agg (((vs.drop ((rows.length - 1 - k) * 5)).take 5).toArray)) (Kp:=KpB b bb off (rows.length * 5)) (st:=st)
  (tk:=λk=>G5 (G5 (jT2 rows d0 d1 d2 d3 .jk) 12 (vi .i64 ((rows.length - 1 - k:Nat):Int))) 13 (.ag (ofD (rows.getD (rows.length - 1 - k) []))))
  b4D b4E hst0 (by decide) hcl (enters_of Tryd.func82 (by kernel_rfl) rfl) (hseq (FW none) 2 trivial rfl (by decide)) KpB.trans (λW l o o' _ hl ho _=>KpB.turn W l o o' hl ho) ?_ ?_ rfl ?_ ?_
 ·intro W1 W2 hk;refine⟨λv hv=>?_,λi hi v hv=>?_⟩
  ·rw[hk b 1 (.inr ⟨rfl,c3A _⟩) 0 (by decide)];exact hv
  ·obtain⟨n,hn1,hn2⟩:=hup (λe=>by rw[e] at hi;simp at hi);rw[hk bb n (.inl hn2) (off+i) (by omega)];exact hv
 ·intro k W1 I1 g1 hk hI1 hk1 hvs;have hlt:rows.length - 1 - k<rows.length:=by omega
  have e1:∀(ts:Array Value) (i:Nat) (u:Value),(ts.setIfInBounds i u).toList=ts.toList.set i u:=λts i u=>by simp
  rw[e1,e1,Q5,Q5];refine(hvs.set (.d (.sc _ rfl)) 12).set (a07 ?_) 13;refine s9.toV g1 ?_;have h5:=(hds.drop ((rows.length - 1 - k) * 5)).take 5
  have e2:(rows.flatten.drop ((rows.length - 1 - k) * 5)).take 5=rows.getD (rows.length - 1 - k) []:=by
   have hg:rows[rows.length - 1 - k]?=some (rows.getD (rows.length - 1 - k) []):=by rw[c3T,c39 hlt];rfl
   apply c5h
   intro i;rw[c4l];have h6:(rows.getD (rows.length - 1 - k) []).length=5:=hr5 _ (c3J hg)
   split
   ·rename_i hi;rw[c4k,L6 hr5 hg hi]
   ·rename_i hi;rw[c4u (by omega)]
  rw[e2] at h5;exact h5.mono (λb j hb=>hI1 b j (.inl hb)) (λb j hb=>hk1 b j (.inl hb))
 ·intro k hk;have hlt:L.length - 1 - k<L.length:=by omega
  obtain⟨f,hf⟩:∃f,L[L.length - 1 - k]?=some f:=⟨_,c39 hlt⟩;have hg:rows.getD (rows.length - 1 - k) []=.sc (.string f.1)::cT f.2:=by rw[c3T,hdec,hrows,a1d hf];rfl
  have ea:=haS k f (by omega) hf;have hsp:=a9l 1048576 f.2 (hL f (c3J hf)) (c3A _);rw[hst]
  try dsimp only
  rw[ea,hg];obtain⟨fn,o1,m1,n1,l1⟩:=f;rw[cT] at hsp ⊢
  have e7:rT [Ty.mk o1 m1 n1 l1,a k]=[[.sc (.int .u8 o1),.sc (.string m1),.sc (.int .i64 n1),.sl 4 (rT l1)],[.sc (.int .u8 (a k).op),.sc (.string (a k).name),.sc (.int .i64 (a k).n),.sl 4 (rT (a k).kids)]]:=by
   rw[(a k).eta];simp only[rT,cT];rfl
  simp only[Ty.op,Ty.name,Ty.n,Ty.kids];rw[e7];exact b1P rows d0 d1 d2 d3 _ _ _ _ _ _ _ _ _ _ hsp _ _ _ _ _ _ _ _ _ _ _ _ _ _ _ _ _ _ _ _ _ _ _ _ _ _ _ _ _ _ _ _ _ _ _ _ _ _ _ _ _ _ _ rfl
 ·rintro D W1 hD ⟨I1,g1,q1,q2,q3,q4⟩ hd
  have hID:∀k,¬I1 D k:=λk=>by rw[hD];exact(q2 k).2
  have hD0:w.heap.size<=D:=by rw[hD];exact h.fr.size
  rw[hst] at q3
  try dsimp only at q3
  rw[hdec,haN] at q3;refine b3c (kl:=[]) b4B b4C q3 hID hD0 hd ?_;exact b6f rows d0 d1 d2 d3 _ _ _ _ _ _ _ _ _ _ _ _ _ _ _ _ _ _ _ _ _ _ _ _ _ _ _ _ _ _ _ _ _ _ _ _ _ _ _ _ _ _ _ _ _ _ _ rfl
theorem b8l:∀(m:Nat) (t:Ty),t.parts.length<=m->m<=1048576->(∀x∈t.parts,G2 x)->o5 35 [.ag (ofD (cT t))] [] (b8k (b9 t)):=by
 intro m
 induction m with
 | zero=>intro t h;have:=j5 t;omega
 | succ m ih =>
  intro t hm hm2 hsp;have hself:t∈t.parts:=by rw[r7];exact c38 ..
  have hkl:=m9 t;obtain⟨op,nm,n,ks⟩:=t;generalize ht:Ty.mk op nm n ks=t at *;have hc:cT t=[.sc (.int .u8 op),.sc (.string nm),.sc (.int .i64 n),.sl 4 (rT ks)]:=by rw[<-ht,cT]
  have hks:t.kids=ks:=by rw[<-ht];rfl
  rw[hks] at hkl
  by_cases hop:op=11
  ·have hF:=b2Z t (hsp t hself) (by omega);have hcr:=G9 (t:=t) (by rw[<-ht];exact hop)
   have hfs:∀f∈d5 x8 (c6 t),f.2.parts.length<=m/\Y4 f.2:=λf hf=>by
    have h1:=B8 hf;have h2:=A1 _ t (c3A _) f h1;have h3:=M5 _ t (c3A _) f h1;exact⟨by omega,λx hx=>hsp x (A2 hx h3)⟩
   have hih:∀f∈d5 x8 (c6 t),l6 35 [.ag (cT f.2)] [.ag (cT (b9 f.2))]:=λf hf=>a3k m f.2 (hfs f hf).1 (by omega) (hfs f hf).2
   have hlen:(d5 x8 (c6 t)).length<=1048576:=by
    rw[K8];have:=U5 _ t (c3A _);omega
   have htl:(f7 t).parts.length<=1048576:=by
    have h1:=a0y _ t (c3A _) (hsp t hself);omega
   rw[hc] at hF ⊢;obtain⟨K0,hK0⟩:∃K,K=rT ks:=⟨_,rfl⟩;rw[<-hK0] at hF ⊢;generalize d5 x8 (c6 t)=L at *
   have hJ:=b9M (L.map cfS) (f7 t) (by rw[c4h];omega) htl (λf hf=>by
    obtain⟨f0,hf0,rfl⟩:=c4o.1 hf;have h1:=hfs f0 hf0;have h2:=E9 _ f0.2 (c3A _) h1.2;show (b9 f0.2).parts.length<=_
    omega)
   rw[show A4 (L.map cfS) (f7 t)=b9 t from hcr.symm] at hJ;replace hJ:o5 _ _ _ (a5Z (.int .u8 (b9 t).op) (.string (b9 t).name) (.int .i64 (b9 t).n) (rT (b9 t).kids)):=hJ;show o5 _ _ _ (a5Z (.int .u8 (b9 t).op) (.string (b9 t).name) (.int .i64 (b9 t).n) (rT (b9 t).kids));generalize (b9 t).op=yop at *;generalize (b9 t).name=ynm at *;generalize (b9 t).n=yn at *;generalize rT (b9 t).kids=yK at *;obtain⟨q0,q1,q2,q3,hq⟩:=c9 (f7 t);rw[hq] at hF hJ;obtain⟨M0,hM0⟩:∃M,M=rF L:=⟨_,rfl⟩;rw[<-hM0] at hF;refine so9 Tryd.func35 rfl λqa qb qc qd qe qf qg qh qi qj qk ql qm qo qp qq qs qt qu qv qw qx qy qz vc vd ve vf vg vh vj vk vl vp vq vr vt vu vv vw vx vy vz hA=>?_
   cbv
   repeat ((with_reducible apply b6 hA);cbv)
   have h11:qj op 11=decide (op=11):=by have e:=j3 hA;exact e.2.2.2.2.2.2.2.2 _ _
   rw[c3K hop] at h11;rw[h11];cbv
   repeat ((with_reducible apply b6 hA);cbv)
   refine d7 hA [] hF ⟨rfl,rfl,rfl,rfl,rfl,rfl,rfl⟩ ?_
   rintro res os2 ⟨rfl,rfl⟩
   cbv
   repeat ((with_reducible apply b6 hA);cbv)
   obtain⟨e1,e2,e3,e4,e5,e6,e7,e8,e9⟩:=j3 hA;obtain⟨r1,r2,r3,r4⟩:=m8 hA;obtain⟨m1,m2,m3,m4⟩:=N6 hA;refine l7 hA (γ:=Int×List (List D)) (λx=>[(19,vi .i64 x.1),(12,.jk),(14,.jk)]) (λx=>[(2,.row false 73 x.2)]) (λx=>∃k:Nat,x.1=(k:Int)/\k<=L.length/\x.2=rF ((L.take k).map cfS++L.drop k)) (λx=>L.length - x.1.toNat) (0,M0) ?_ ?_ ?_
   ·exact⟨0,rfl,c4e _,hM0⟩
   ·cbv
   ·intro x hinv;obtain⟨z,M⟩:=x;cbv
    repeat ((with_reducible apply b6 hA);cbv)
    try simp (maxSteps:=4000000) only [nc] at *
    obtain⟨k,hz,hk,hM⟩:=hinv;have hll:qy M0=((L.length:Nat):Int):=by rw[r1,hM0,G1]
    have hlt:qh z (qy M0)=decide (k<L.length):=by rw[e7,hll,hz];exact c3M.2 (by omega)
    by_cases h9:k<L.length
    ·rw[c3K h9] at hlt;obtain⟨x,hx⟩:∃x,L[k]?=some x:=⟨_,c39 h9⟩;have hspx:=hih x (c3J hx)
     have hxe:((L.take k).map cfS++L.drop k)[k]?=some x:=by
      rw[c3Q (by simp;omega)]
      simp
      rw[c57 (by omega),c5g,c4F];exact hx
     have hset:((L.take k).map cfS++L.drop k).set k (cfS x)=(L.take (k+1)).map cfS++L.drop (k+1):=by
      obtain⟨hi,e⟩:=c35.1 hx;have e0:k - ((L.take k).map cfS).length=0:=by rw[c4h,c3Z];omega
      rw[c4V _ _ (by rw[c4h,c3Z];omega),c5a,hx,c4J,c4c,c3U hi,e0];rfl
     obtain⟨xn,xt⟩:=x;obtain⟨x0,x1,x2,x3,hxx⟩:=c9 xt;obtain⟨v0,v1,v2,v3,hvv⟩:=c9 (b9 xt);simp only at hspx;rw[hxx,hvv] at hspx;have gx:qz M z=some [.sc (.string xn),x0,x1,x2,x3]:=by rw[r2,hz,c3E (by omega),hM,show ((k:Int)).toNat=k by omega,a1d hxe,hxx]
     have hz1:qa .i64 (qb z 1)=((k+1:Nat):Int):=by rw[e1,e2,hz,IntWalk.i64_in _ (by omega)];omega
     have hmu:L.length - (qa .i64 (qb z 1)).toNat<L.length - z.toNat:=by rw[hz1,hz];omega
     have hnew:ve M z [.sc (.string xn),v0,v1,v2,v3]=rF ((L.take (k+1)).map cfS++L.drop (k+1)):=by
      rw[m4,<-hset,hM,hz,show ((k:Int)).toNat=k by omega];unfold rF;rw[List.map_set];show _=List.set _ k (.sc (.string xn)::cT (b9 xt));rw[hvv]
     rw[hlt]
     iterate 2 (try cbv;repeat ((first|with_reducible apply b6 hA|rw[gx]|refine c5 hA _ hspx rfl ?_);cbv))
     try simp (maxSteps:=4000000) only [nc] at *
     refine⟨(qa .i64 (qb z 1),ve M z [.sc (.string xn),v0,v1,v2,v3]),⟨k+1,hz1,h9,hnew⟩,hmu,?_⟩;cbv
    ·rw[c3I h9] at hlt;have hM2:M=rF (L.map cfS):=by rw[hM,c4i (by omega),c5j (by omega),c3X]
     rw[<-hM2] at hJ;rw[hlt];cbv;refine E3 hA _ ((v7.frz _ [2]).trans (v7.read _ 3 (.sl 5 M) rfl)) ?_;cbv;refine d7 hA [] hJ ⟨rfl,rfl,rfl,rfl,rfl,rfl,rfl⟩ ?_
     rintro _ _ ⟨rfl,zz,rfl⟩
     cbv
     repeat ((with_reducible apply b6 hA);cbv)
     exact i6 hA [4] ⟨rfl,rfl,rfl,rfl,rfl,rfl,rfl,rfl⟩ ⟨rfl,zz,rfl⟩
  ·have hcn:=x9 (t:=t) (by rw[<-ht];exact hop);rw[hks,show t.op=op by rw[<-ht];rfl,show t.name=nm by rw[<-ht];rfl,show t.n=n by rw[<-ht];rfl] at hcn
   have hih:∀x∈ks,o5 35 [.ag (ofD (cT x))] [] (b8k (b9 x)):=λx hx=>by
    have h2:=hkl.2 x hx;exact ih x (by omega) (by omega) λy hy=>hsp y (by rw[d9,hks];exact c36 _ (c4a.2 ⟨x,hx,hy⟩))
   rw[hcn,hc];show o5 _ _ _ (a5Z (.int .u8 op) (.string nm) (.int .i64 n) (rT (ks.map b9)));obtain⟨K,hK⟩:∃K,K=rT ks:=⟨_,rfl⟩;obtain⟨Q,hQ⟩:∃Q,Q=rT (ks.map b9):=⟨_,rfl⟩;rw[<-hK,<-hQ];refine so9 Tryd.func35 rfl λqa qb qc qd qe qf qg qh qi qj qk ql qm qo qp qq qs qt qu qv qw qx qy qz vc vd ve vf vg vh vj vk vl vp vq vr vt vu vv vw vx vy vz hA=>?_
   cbv
   repeat ((with_reducible apply b6 hA);cbv)
   obtain⟨e1,e2,e3,e4,e5,e6,e7,e8,e9⟩:=j3 hA;obtain⟨r1,r2,r3,r4⟩:=m8 hA;have h11:qj op 11=decide (op=11):=e9 _ _;rw[c3I hop] at h11;rw[h11];cbv
   repeat (first|(refine b4P hA 6 25 rfl ?_;cbv)|(with_reducible apply b6 hA;cbv))
   refine l7 hA (γ:=Int×List (List D)) (λx=>[(39,vi .i64 x.1),(6,.own 2)]) (λx=>[(2,.it (m6 true 25 x.2))]) (λx=>∃k:Nat,x.1=(k:Int)/\k<=ks.length/\x.2=rT ((ks.map b9).take k)) (λx=>ks.length - x.1.toNat) (0,[]) ?_ ?_ ?_
   ·exact⟨0,rfl,c4e _,rfl⟩
   ·cbv
   ·intro x hinv;obtain⟨z,M⟩:=x;cbv
    repeat ((with_reducible apply b6 hA);cbv)
    try simp (maxSteps:=4000000) only [nc] at *
    obtain⟨k,hz,hk,hM⟩:=hinv;have hll:qy K=((ks.length:Nat):Int):=by rw[r1,hK,B7]
    have hlt:qh z (qy K)=decide (k<ks.length):=by rw[e7,hll,hz];exact c3M.2 (by omega)
    by_cases h9:k<ks.length
    ·rw[c3K h9] at hlt;obtain⟨x,hx⟩:∃x,ks[k]?=some x:=⟨_,c39 h9⟩;have hspx:=hih x (c3J hx);have hx2:(ks.map b9)[k]?=some (b9 x):=by rw[c4j,hx];rfl
     have hsn:=a3A hx2;obtain⟨x0,x1,x2,x3,hxx⟩:=c9 x
     obtain⟨vo,vm,vn,vK,hvv,hvs⟩:∃vo vm vn vK,cT (b9 x)=[.sc vo,.sc vm,.sc vn,.sl 4 vK]/\b8k (b9 x)=a5Z vo vm vn vK:=by
      cases b9 x with
      | mk a b c d=>exact⟨_,_,_,_,by rw[cT];rfl,rfl⟩
     rw[hvs,hxx] at hspx;rw[hvv] at hsn;have gx:qz K z=some [x0,x1,x2,x3]:=by rw[r2,hz,c3E (by omega),hK,show ((k:Int)).toNat=k by omega,T3 hx,hxx]
     have hz1:qa .i64 (qb z 1)=((k+1:Nat):Int):=by rw[e1,e2,hz,IntWalk.i64_in _ (by omega)];omega
     have hmu:ks.length - (qa .i64 (qb z 1)).toNat<ks.length - z.toNat:=by rw[hz1,hz];omega
     have hnew:vd M [[.sc vo,.sc vm,.sc vn,.sl 4 vK]]=rT ((ks.map b9).take (k+1)):=by rw[r4,hsn,hM]
     have hMl:M.length<=1048576:=by rw[hM,B7,c3Z];omega
     rw[hlt];cbv
     repeat (first|(with_reducible apply b6 hA;cbv)|(rw[gx];cbv))
     refine d7 hA [] hspx ⟨rfl,rfl,rfl,rfl,rfl,rfl,rfl⟩ ?_
     rintro _ _ ⟨rfl,zz,rfl⟩
     cbv;refine a79 hA (b0q [.d (.sc vo),.d (.sc vm),.d (.sc vn),.own 4] rfl rfl rfl ?_);cbv;refine a79 hA (b1O [.sc vo,.sc vm,.sc vn,.sl 4 vK] [4] [[.sc vo,.sc vm,.sc vn,.sl 4 vK]] (vd M [[.sc vo,.sc vm,.sc vn,.sl 4 vK]]) rfl rfl rfl rfl rfl rfl ⟨rfl,rfl,rfl,rfl,rfl,⟨_,rfl⟩,trivial⟩ rfl rfl ?_ (r4 _ _).symm ?_)
     ·omega
     cbv
     repeat ((with_reducible apply b6 hA);cbv)
     refine⟨(qa .i64 (qb z 1),vd M [[.sc vo,.sc vm,.sc vn,.sl 4 vK]]),⟨k+1,hz1,h9,hnew⟩,hmu,?_⟩;cbv
    ·rw[c3I h9] at hlt;have hM2:M=Q:=by rw[hM,hQ,c4i (by rw[c4h];omega)]
     rw[hlt];cbv
     repeat ((with_reducible apply b6 hA);cbv)
     rw[hM2];exact i6 hA [2] ⟨rfl,rfl,rfl,rfl,rfl,rfl,rfl,rfl⟩ ⟨rfl,true,rfl⟩
theorem b6g {op:Int} (h:a9X op=none):y6 op=none:=by
 unfold a9X at h;unfold y6
 repeat' split at h
 all_goals first|(cases h;done)|skip
 rename_i h1 h2 h3 h4 h5 h6 h7;rw[c3G (by omega),c3G h2,c3G h3,c3G h7]
theorem b6h {op:Int} {kn:Int} {a b:Bool} (h:a9X op=some (kn,a,b)) (nm:ByteArray) (n:Int) (ks:List Ty) (row:Bool) :
  a2V f8 (.mk op nm n ks) (sI row)=hd2 row (decide (8<=op)) (decide ((ks.length:Int)=kn)) a (f8 nm) (decide (nm.toList=[])) (decide (n<0)) b (n == 0)/\(∃kk,y6 op=some kk/\(kk.length:Int)=kn/\∀(k:Nat) (c:Int),kk[k]?=some c->sI (orB (op == 5) (orB (op == 6) (nmF (op == 11) (k == 1) false)))=c) /\
   (b=true/\(vbl (.mk op nm n ks)=some (n,decide (op=10)))/\(op=10\/op=7)\/b=false/\vbl (.mk op nm n ks)=none):=by
 have key:∀(i:Int) (kk:List Int),op=i->y6 i=some kk->(kk.length:Int)=kn->(∀(k:Nat) (c:Int),kk[k]?=some c->sI (orB (i == 5) (orB (i == 6) (nmF (i == 11) (k == 1) false)))=c)->a=(i == 11)->b=((i == 7) || (i == 10)) ->
   a2V f8 (.mk op nm n ks) (sI row)=hd2 row (decide (8<=op)) (decide ((ks.length:Int)=kn)) a (f8 nm) (decide (nm.toList=[])) (decide (n<0)) b (n == 0)/\(∃kk,y6 op=some kk/\(kk.length:Int)=kn/\∀(k:Nat) (c:Int),kk[k]?=some c->sI (orB (op == 5) (orB (op == 6) (nmF (op == 11) (k == 1) false)))=c):=by
  rintro i kk rfl h1 h2 h3 rfl rfl
  refine⟨?_,kk,h1,h2,h3⟩;rw[b4v,h1];have hk:=a5N h1
  have e1:decide (ks.length=(a0c op).size)=decide ((ks.length:Int)=kn):=by
   have:kk.length=(a0c op).size:=by rw[hk,c4h,B3]
   exact c3M.2 (by omega)
  have e2:(decide (8<=op) == (sI row == 114))=(row == decide (8<=op)):=by cases row <;> cases decide (8<=op) <;> rfl
  unfold hdF hd2;rw[e1,e2];simp only[c5A,c4O,Bool.or_assoc];cases (op == 11) <;> rfl
 have two:∀ {l:List Int} {P:Nat->Int->Prop} {x y:Int},l=[x,y]->P 0 x->P 1 y->∀(k:Nat) (c:Int),l[k]?=some c->P k c:=by
  rintro l P x y rfl h0 h1 k c h
  match k,h with
  | 0,h=>cases h;exact h0
  | 1,h=>cases h;exact h1
  | k+2,h=>simp at h
 have one:∀ {l:List Int} {P:Nat->Int->Prop} {x:Int},l=[x]->P 0 x->∀(k:Nat) (c:Int),l[k]?=some c->P k c:=by
  rintro l P x rfl h0 k c h
  match k,h with
  | 0,h=>cases h;exact h0
  | k+1,h=>simp at h
 have zero:∀ {P:Nat->Int->Prop},∀(k:Nat) (c:Int),([]:List Int)[k]?=some c->P k c:=λk c h=>by simp at h
 unfold a9X at h
 repeat' split at h
 all_goals first|(cases h;done)|skip
 all_goals
  cases h;rename_i h
  first
  | (rcases h with h|h|h <;> subst h <;> exact⟨(key _ _ rfl rfl rfl zero rfl rfl).1,(key _ _ rfl rfl rfl zero rfl rfl).2,.inr ⟨rfl,rfl⟩⟩)
  | (rcases h with h|h <;> subst h <;> first|exact⟨(key _ _ rfl rfl rfl zero rfl rfl).1,(key _ _ rfl rfl rfl zero rfl rfl).2,.inr ⟨rfl,rfl⟩⟩|exact⟨(key _ _ rfl rfl rfl (one rfl rfl) rfl rfl).1,(key _ _ rfl rfl rfl (one rfl rfl) rfl rfl).2,.inr ⟨rfl,rfl⟩⟩)
  | (subst h;exact⟨(key _ _ rfl rfl rfl zero rfl rfl).1,(key _ _ rfl rfl rfl zero rfl rfl).2,.inl ⟨rfl,rfl,by decide⟩⟩)
  | (subst h;exact⟨(key _ _ rfl rfl rfl (two rfl rfl rfl) rfl rfl).1,(key _ _ rfl rfl rfl (two rfl rfl rfl) rfl rfl).2,.inr ⟨rfl,rfl⟩⟩)
theorem b4Q:∀(t:Ty),t.parts.length<=1048576->(∀x∈t.parts,x.name.size<=1048576)->∀(row:Bool) (es:List (R×R)) (s:Int->Option Bool),SAt es s ->
  o5 30 [.mp 0,.ag (ofD (cT t)),vb row] [.mp 3 es] (a5Q (c8 f8 t (sI row) && (F9 t.parts s).isSome) (F9 t.parts s)):=by
 intro t
 induction t using Ty.ind with
 | h t ih =>
  intro hN hnm row es s hes;have hkl:=m9 t;have hself:=hnm t (by rw[r7];exact c38 ..);have hkn:∀x∈t.kids,∀y∈x.parts,y.name.size<=1048576:=λx hx y hy=>hnm y (by rw[d9];exact c36 _ (c4a.2 ⟨x,hx,hy⟩))
  have ih2:∀x∈t.kids,∀(row:Bool) (es:List (R×R)) (s:Int->Option Bool),SAt es s->o5 30 [.mp 0,.ag (ofD (cT x)),vb row] [.mp 3 es] (a5Q (c8 f8 x (sI row) && (F9 x.parts s).isSome) (F9 x.parts s)):=λx hx=>ih x hx (by have:=hkl.2 x hx;omega) (hkn x hx)
  have hsh:=a2W f8 t (sI row)
  have hpm:F9 t.parts s=match vbl t with|none=>F9 (o8 t.kids) s|some p=>if s p.1=some (!p.2) then none else F9 (o8 t.kids) (a7D s p.1 p.2):=by
   rw[r7,F9];cases vbl t <;> rfl
  obtain⟨op,nm,n,ks⟩:=t;simp only[Ty.kids,Ty.op] at hkl ih2 hsh hpm;have hself:nm.size<=1048576:=hself;generalize hbb:(c8 f8 (.mk op nm n ks) (sI row) && (F9 (Ty.mk op nm n ks).parts s).isSome)=b;generalize hFF:F9 (Ty.mk op nm n ks).parts s=F at *;rw[cT];have hb:Tryd.f30.body=some (.seq (I6 (Tryd.f30.body.getD .skip)) (.seq (I6 (j0 (Tryd.f30.body.getD .skip))) (.seq (I6 (j0 (j0 (Tryd.f30.body.getD .skip)))) (.seq (I6 (j0 (j0 (j0 (Tryd.f30.body.getD .skip))))) (j0 (j0 (j0 (j0 (Tryd.f30.body.getD .skip))))))))):=by kernel_rfl
  refine b1o Tryd.func30 hb (by kernel_rfl) (by kernel_rfl) (by kernel_rfl) ?_;intro qa qb qc qd qe qf qg qh qi qj qk ql qm qo qp qq qs qt qu qv qw qx qy qz vc vd ve vf vg vh vj vk vl vp vq vr vt vu vv vw vx vy vz;intros;rename_i hA;refine b5L op nm n (rT ks) row es _ _ ?_ ?_ qa qb qc qd qe qf qg qh qi qj qk ql qm qo qp qq qs qt qu qv qw qx qy qz vc vd ve vf vg vh vj vk vl vp vq vr vt vu vv vw vx vy vz hA
  ·intro kn a c hask j12 j13 j14 j15 j16 j17 j18 j19 j20 j21 j22 j23 j24 j25 j26 j27 j28 j29 j30 j31;obtain⟨hh,⟨kk,hkk1,hkk2,hkk3⟩,hv⟩:=b6h hask nm n ks row;rw[hkk1] at hsh;have hsh:c8 f8 (.mk op nm n ks) (sI row)=(a2V f8 (.mk op nm n ks) (sI row) && n6 f8 ks kk):=hsh;rw[hh] at hsh;have hbody:=b2O op nm n ks row es s kn a c j12 j13 j14 j15 j16 j17 j18 j19 j20 j21 j22 j23 j24 j25 j26 j27 j28 j29 j30 j31 kk b F hes hself (by omega) (λh=>by omega) hkk3 (λh=>by rw[<-hbb,hsh,h,c4O]) (λh=>by rw[<-hbb,hsh,h,Bool.false_and,Bool.false_and]) (λh=>?_) ih2 qa qb qc qd qe qf qg qh qi qj qk ql qm qo qp qq qs qt qu qv qw qx qy qz vc vd ve vf vg vh vj vk vl vp vq vr vt vu vv vw vx vy vz hA
   ·rw[hA] at hbody ⊢;exact hbody
   ·rw[hpm]
    rcases hv with⟨rfl,hv,ho⟩|⟨rfl,hv⟩
    ·rw[hv]
     have hr:decide (op=10)=row:=by
      unfold hd2 at h;have h1:(row == decide (8<=op))=true:=by revert h;cases (row == decide (8<=op)) <;> simp
      rw[c4v] at h1;rw[h1]
      rcases ho with rfl|rfl <;> rfl
     rw[hr];rfl
    ·rw[hv];rfl
  ·intro hn st ho h6;have hk:=b6g hn
   have hbf:b=false:=by
    rw[<-hbb,hsh];unfold a2V;rw[show (Ty.mk op nm n ks).op=op from rfl,hk];rfl
   show vv 1 (a5Q b F) [m5 st.t 6] st;rw[h6];exact i6 hA [0] ⟨rfl,rfl,rfl,rfl,by rw[ho];rfl,rfl,rfl,rfl⟩ ⟨es,rfl,hes.1,by rw[hbf],λh=>by rw[hbf] at h;cases h⟩
theorem b1Q (t:Ty) (row:Bool):(c8 f8 t (sI row) && (F9 t.parts λ_=>none).isSome)=j1 t (sI row):=by rw[b5J];rfl
theorem a1P (t:Ty) (hN:t.parts.length<=1048576) (hnm:∀x∈t.parts,x.name.size<=1048576):l6 18 [.ag (cT t)] [.one (.sc (.bool (j1 t 116)))]:=by
 have h1:=b4Q t hN hnm false [] (λ_=>none) SAt.nil;rw[b1Q] at h1;have e:j1 t (sI false)=j1 t 116:=rfl;rw[e] at h1;generalize j1 t 116=b at *;generalize F9 t.parts (λ_=>none)=F at *;obtain⟨c0,c1,c2,c3,hc⟩:∃c0 c1 c2 c3,cT t=[c0,c1,c2,c3]:=by obtain⟨op,nm,n,ks⟩:=t;exact⟨_,_,_,_,by rw[cT]⟩
 rw[hc] at h1 ⊢;refine K7 Tryd.func18 rfl ?_;intros;rename_i hA;cbv
 repeat ((with_reducible apply b6 hA);cbv)
 refine d7 hA [1] h1 ⟨rfl,rfl,rfl,rfl,rfl,rfl,rfl⟩ ?_
 rintro res os2 ⟨es',rfl,hk',rfl,hm'⟩
 cbv
 repeat ((with_reducible apply b6 hA);cbv)
theorem b8m (t:Ty) (hN:t.parts.length<=1048576) (hnm:∀x∈t.parts,x.name.size<=1048576):l6 46 [.ag (cT t)] [.one (.sc (.bool (j1 t 114)))]:=by
 have h1:=b4Q t hN hnm true [] (λ_=>none) SAt.nil;rw[b1Q] at h1;have e:j1 t (sI true)=j1 t 114:=rfl;rw[e] at h1;generalize j1 t 114=b at *;generalize F9 t.parts (λ_=>none)=F at *;obtain⟨c0,c1,c2,c3,hc⟩:∃c0 c1 c2 c3,cT t=[c0,c1,c2,c3]:=by obtain⟨op,nm,n,ks⟩:=t;exact⟨_,_,_,_,by rw[cT]⟩
 rw[hc] at h1 ⊢;refine K7 Tryd.func46 rfl ?_;intros;rename_i hA;cbv
 repeat ((with_reducible apply b6 hA);cbv)
 refine d7 hA [1] h1 ⟨rfl,rfl,rfl,rfl,rfl,rfl,rfl⟩ ?_
 rintro res os2 ⟨es',rfl,hk',rfl,hm'⟩
 cbv
 repeat ((with_reducible apply b6 hA);cbv)
theorem a3l (t:Ty) (hN:t.parts.length<=1048576) (hnm:∀x∈t.parts,x.name.size<=1048576):l6 33 [.ag (cT t)] [.one (.sc (.bool (j1 t 116 || j1 t 114)))]:=by
 have h1:=a1P t hN hnm;have h2:=b8m t hN hnm;generalize j1 t 116=q1 at *;generalize j1 t 114=q2 at *;obtain⟨c0,c1,c2,c3,hc⟩:∃c0 c1 c2 c3,cT t=[c0,c1,c2,c3]:=by obtain⟨op,nm,n,ks⟩:=t;exact⟨_,_,_,_,by rw[cT]⟩
 rw[hc] at h1 h2 ⊢;refine K7 Tryd.func33 rfl ?_;intros;rename_i hA;cbv;refine gn ?_;refine c5 hA _ h1 ?_ ?_
 ·rfl
 cases q1
 ·cbv
  repeat ((with_reducible apply b6 hA);cbv)
  refine c5 hA _ h2 ?_ ?_
  ·rfl
  cbv
  repeat ((with_reducible apply b6 hA);cbv)
 ·cbv
  repeat ((with_reducible apply b6 hA);cbv)
theorem a6v:∀ {a b:List Ty},a.length≠b.length->C5 a b=false
 | [],[],h=>absurd rfl h
 | [],_::_,_=>by simp[C5]
 | _::_,[],_=>by simp[C5]
 | x::a,y::b,h=>by rw[C5,a6v (a:=a) (b:=b) (by simpa using h),Bool.and_false]
theorem b0s {a b:List Ty} {k:Nat} {x y:Ty} (hx:a[k]?=some x) (hy:b[k]?=some y):C5 (a.drop k) (b.drop k)=(L4 x y && C5 (a.drop (k+1)) (b.drop (k+1))):=by
 obtain⟨h1,e1⟩:=c35.1 hx;obtain⟨h2,e2⟩:=c35.1 hy;rw[c3U h1,c3U h2,e1,e2,C5]
def fnD (f:Nat):D:=.sc (.func (.func f) #[] #[])
theorem c24 (f:Nat) (ks ks2:List Ty) (hN:ks.length<=1048576) (ih:∀x∈ks,∀y,l6 f [.ag (cT x),.ag (cT y)] [.one (.sc (.bool (L4 x y)))]) :
  l6 90 [.one (.sl 4 (rT ks)),.one (.sl 4 (rT ks2)),.one (fnD f)] [.one (.sc (.bool (C5 ks ks2)))]:=by
 generalize hb:C5 ks ks2=b;obtain⟨K,hK⟩:∃K,K=rT ks:=⟨_,rfl⟩;obtain⟨K2,hK2⟩:∃K,K=rT ks2:=⟨_,rfl⟩;rw[<-hK,<-hK2];refine K7 Tryd.func90 rfl ?_;intro qa qb _ _ _ _ _ qh _ qj _ _ _ _ _ _ _ _ _ _ _ _ qy qz;intros;rename_i hA;cbv;refine gn ?_;try simp only[nc] at *
 obtain⟨e1,e2,e3,e4,e5,e6,e7,e8,e9⟩:=j3 hA;obtain⟨r1,r2,-⟩:=m8 hA;cases h4:qj (qy K) (qy K2)
 ·have h5:ks.length≠ks2.length:=by
   rw[e9,r1,r1,hK,hK2,B7,B7] at h4;intro h;rw[h] at h4
   simp at h4
  rw[<-hb,a6v h5]
  try cbv;exact fr
 ·have h5:ks.length=ks2.length:=by
   rw[e9,r1,r1,hK,hK2,B7,B7] at h4;rw[c4v] at h4;exact Int.ofNat.inj h4
  cbv;refine gn ?_;try simp only[nc] at *
  refine l7 hA (γ:=Int) (λz=>[(17,vi .i64 z)]) (λ_=>[]) (λz=>∃k:Nat,z=(k:Int)/\k<=ks.length/\C5 (ks.drop k) (ks2.drop k)=b) (λz=>ks.length - z.toNat) 0 ?_ ?_ ?_
  ·exact⟨0,rfl,c4e _,hb⟩
  ·cbv
  ·intro z hinv;cbv;refine gn ?_;try simp only[nc] at *
   obtain⟨k,hz,hk,hE⟩:=hinv;have hlen:qy K=(ks.length:Int):=by rw[r1,hK,B7]
   have hlt:qh z (qy K)=decide (k<ks.length):=by rw[e7,hlen,hz];exact c3M.2 (by omega)
   by_cases h9:k<ks.length
   ·rw[c3K h9] at hlt;obtain⟨x,hx⟩:∃x,ks[k]?=some x:=⟨_,c39 h9⟩;obtain⟨y,hy⟩:∃y,ks2[k]?=some y:=⟨_,c39 (by omega)⟩;have hsp:=ih x (c3J hx) y;have hst:=b0s hx hy;obtain⟨x0,x1,x2,x3,hxx⟩:=c9 x;obtain⟨y0,y1,y2,y3,hyy⟩:=c9 y;have g1:qz K z=some [x0,x1,x2,x3]:=by rw[r2,hz,c3E (by omega),hK,c3W,T3 hx,hxx]
    have g2:qz K2 z=some [y0,y1,y2,y3]:=by rw[r2,hz,c3E (by omega),hK2,c3W,T3 hy,hyy]
    rw[hxx,hyy] at hsp;generalize L4 x y=c at *;have hz1:qa .i64 (qb z 1)=((k+1:Nat):Int):=by rw[e1,e2,hz,IntWalk.i64_in _ (by omega)];omega
    have hmu:ks.length - (qa .i64 (qb z 1)).toNat<ks.length - z.toNat:=by rw[hz1,hz];omega
    rw[hlt];cases c
    ·iterate 2 (try cbv;repeat ((first|with_reducible apply b6 hA|rw[g1]|rw[g2]|refine c5 hA _ hsp rfl ?_);cbv))
     try simp (maxSteps:=4000000) only [nc] at *
     rw[<-hE,hst];exact⟨rfl,trivial⟩
    ·iterate 2 (try cbv;repeat ((first|with_reducible apply b6 hA|rw[g1]|rw[g2]|refine c5 hA _ hsp rfl ?_);cbv))
     try simp (maxSteps:=4000000) only [nc] at *
     refine⟨qa .i64 (qb z 1),⟨k+1,hz1,h9,by rw[<-hE,hst];rfl⟩,hmu,?_⟩;cbv
   ·rw[c3I h9] at hlt;rw[hlt];cbv;refine gn ?_;rw[<-hE,c4m (by omega),c4m (by omega),C5];exact⟨rfl,trivial⟩
theorem b8n:∀t u:Ty,t.parts.length<=1048576->l6 83 [.ag (cT t),.ag (cT u)] [.one (.sc (.bool (L4 t u)))]:=by
 intro t
 induction t using Ty.ind with
 | h t ih =>
  intro u hN;have hkl:=m9 t;obtain⟨op,nm,n,ks⟩:=t;obtain⟨op2,nm2,n2,ks2⟩:=u;simp only[Ty.kids] at hkl ih;have hE:=c24 83 ks ks2 (by omega) (λx hx y=>ih x hx y (by have:=hkl.2 x hx;omega));rw[cT,cT];have hb:L4 (.mk op nm n ks) (.mk op2 nm2 n2 ks2)=((op == op2) && ((nm.toList == nm2.toList) && ((n == n2) && C5 ks ks2))):=by rw[L4]
  generalize hbb:L4 (.mk op nm n ks) (.mk op2 nm2 n2 ks2)=b at *;generalize C5 ks ks2=b4 at *;generalize rT ks=K at *;generalize rT ks2=K2 at *;refine K7 Tryd.func83 rfl ?_;intro _ _ _ _ _ _ _ _ _ qj _ ql _ qo;intros;rename_i hA;cbv;refine gn ?_;obtain⟨e1,e2,e3,e4,e5,e6,e7,e8,e9⟩:=j3 hA;obtain⟨s1,s2,s3,-⟩:=w7 hA;have t1:qj op op2=(op == op2):=e9 _ _;have t2:ql (qo nm) (qo nm2)=(nm.toList == nm2.toList):=by rw[s1,s3,s3]
  have t3:qj n n2=(n == n2):=e9 _ _;generalize (op == op2)=b1 at *;generalize (nm.toList == nm2.toList)=b2 at *;generalize (n == n2)=b3 at *;unfold fnD at hE;subst hb;cases b1
  ·rw[t1]
   try cbv;exact fr
  ·rw[t1];cases b2
   ·try cbv;exact fr
   ·cases b3
    ·try cbv;exact fr
    ·iterate 2 (try cbv;repeat ((first|with_reducible apply b6 hA|rw[t1]|rw[t2]|rw[t3]|refine c5 hA _ hE rfl ?_);cbv))
def w6 (t:Ty):Bool:=j1 t 116 || j1 t 114
def Sm (t:Ty):Prop:=t.parts.length<=1048576/\∀x∈t.parts,x.name.size<=1048576
theorem j4 {t:Ty} {s:Int} (h:j1 t s=true):c8 f8 t s=true/\P6 t=true:=by
 unfold j1 at h
 rwa [c3D] at h
theorem b0t {t:Ty} (h:w6 t=true):∃s,c8 f8 t s=true:=by
 unfold w6 at h;rw[c45] at h
 rcases h with h|h
 ·exact⟨_,(j4 h).1⟩
 ·exact⟨_,(j4 h).1⟩
theorem N2 {t:Ty} (h:w6 t=true):Y4 t:=by
 obtain⟨s,h⟩:=b0t h;exact j7 h
theorem l6.mono {f:Nat} {rs q q':List R} (h:l6 f rs q) (hq:∀I w v,a2E I w v q->a2E I w v q'):l6 f rs q' :=
 ⟨h.1,λI w args h1 h2=>(h.2 I w args h1 h2).mono λe w' ⟨v,e1,e2,e3⟩=>⟨v,e1,hq _ _ _ e2,e3⟩⟩
theorem AtD.empty {I:Nat->Nat->Prop} {w:World} {v:Value} {n:Nat} (m:Nat) (h:AtD I w v (.sl n [])):AtD I w v (.sl m []):=by
 generalize hr:([]:List (List D))=rows at h;cases h with
 | nil A cap sz=>exact .nil _ _ _
 | sl b off cap sz rows us=>subst hr;exact .nil _ _ _
theorem s9.last {I:Nat->Nat->Prop} {w:World} {us:List Value} {xs:List D} {x y:D} (h:s9 I w us (xs++[x])) (hx:∀u,AtD I w u x->AtD I w u y):s9 I w us (xs++[y]):=by
 refine⟨by have:=h.1;simpa using this,λi u d hu hd=>?_⟩
 rcases c4q i xs.length with hlt|hge
 ·rw[c3S hlt] at hd;exact h.2 i u d hu (by rw[c3S hlt];exact hd)
 ·rw[c3Q hge] at hd
  obtain e:i - xs.length=0:=by
   have:=(c35.1 hd).1
   simp at this
   omega
  rw[e] at hd
  simp at hd
  subst hd;exact hx u (h.2 i u x hu (by rw[c3Q hge,e];rfl))
theorem l6.sl0 {f:Nat} {rs:List R} {a b c:D} {n:Nat} (m:Nat) (h:l6 f rs [.ag [a,b,c,.sl n []]]):l6 f rs [.ag [a,b,c,.sl m []]]:=h.mono λI w v hv=>by
 obtain⟨us,rfl,h2⟩:=hv;exact⟨us,rfl,s9.last (xs:=[a,b,c]) h2 λu hu=>hu.empty m⟩
theorem a6E (t:Ty) (ht:Sm t):l6 27 [.ag (cT t)] [.ag (cT (if w6 t=true then b9 t else a9T))]:=by
 have h1:=a3l t ht.1 ht.2;have hb:(j1 t 116 || j1 t 114)=w6 t:=rfl;rw[hb] at h1
 by_cases he:w6 t=true
 ·rw[c3E he];have h2:=a3k _ t (c3A _) ht.1 (N2 he);rw[he] at h1;obtain⟨a0,a1,a2,a3,ha⟩:=c9 t;obtain⟨c0,c1,c2,c3,hc⟩:=c9 (b9 t);rw[ha] at h1 h2;rw[hc] at h2;rw[ha,hc];refine K7 Tryd.func27 rfl λqa qb qc qd qe qf qg qh qi qj qk ql qm qo qp qq qs qt qu qv qw qx qy qz vc vd ve vf vg vh vj vk vl vp vq vr vt vu vv vw vx vy vz hA=>?_
  iterate 2 (try cbv;repeat ((first|with_reducible apply b6 hA|refine c5 hA _ h1 rfl ?_|refine c5 hA _ h2 rfl ?_);cbv))
 ·have he:w6 t=false:=by simpa using he
  rw[he,c3G (by simp)];rw[he] at h1;obtain⟨a0,a1,a2,a3,ha⟩:=c9 t;rw[ha] at h1 ⊢;unfold a9T;rw[cT,rT];refine l6.sl0 (n:=0) 4 ?_;refine K7 Tryd.func27 rfl λqa qb qc qd qe qf qg qh qi qj qk ql qm qo qp qq qs qt qu qv qw qx qy qz vc vd ve vf vg vh vj vk vl vp vq vr vt vu vv vw vx vy vz hA=>?_
  iterate 2 (try cbv;repeat ((first|with_reducible apply b6 hA|refine c5 hA _ h1 rfl ?_);cbv))
def b4R (a b:Ty):Bool:=w6 a && (w6 b && L4 (b9 a) (b9 b))
theorem c1A (t u:Ty) (ht:Sm t) (hu:Sm u):l6 71 [.ag (cT t),.ag (cT u)] [.one (.sc (.bool (b4R t u)))]:=by
 have h1:=a3l t ht.1 ht.2;have h2:=a3l u hu.1 hu.2;have hb1:(j1 t 116 || j1 t 114)=w6 t:=rfl;have hb2:(j1 u 116 || j1 u 114)=w6 u:=rfl;rw[hb1] at h1;rw[hb2] at h2;have h3:=λh=>a3k _ t (c3A _) ht.1 (N2 h)
 have h4:=λh=>a3k _ u (c3A _) hu.1 (N2 h)
 have h5:=λh=>b8n (b9 t) (b9 u) (by rw[E9 _ t (c3A _) (N2 h)];exact ht.1)
 unfold b4R;generalize L4 (b9 t) (b9 u)=c at *;generalize w6 t=b1 at *;generalize w6 u=b2 at *;obtain⟨a0,a1,a2,a3,ha⟩:=c9 t;obtain⟨d0,d1,d2,d3,hd⟩:=c9 u;obtain⟨x0,x1,x2,x3,hx⟩:=c9 (b9 t);obtain⟨y0,y1,y2,y3,hy⟩:=c9 (b9 u);rw[ha] at h1 h3;rw[hd] at h2 h4;rw[hx] at h3 h5;rw[hy] at h4 h5;rw[ha,hd];cases b1
 ·refine K7 Tryd.func71 rfl λqa qb qc qd qe qf qg qh qi qj qk ql qm qo qp qq qs qt qu qv qw qx qy qz vc vd ve vf vg vh vj vk vl vp vq vr vt vu vv vw vx vy vz hA=>?_
  iterate 2 (try cbv;repeat ((first|with_reducible apply b6 hA|refine c7 hA _ h1 ?_);cbv))
 ·cases b2
  ·refine K7 Tryd.func71 rfl λqa qb qc qd qe qf qg qh qi qj qk ql qm qo qp qq qs qt qu qv qw qx qy qz vc vd ve vf vg vh vj vk vl vp vq vr vt vu vv vw vx vy vz hA=>?_
   iterate 2 (try cbv;repeat ((first|with_reducible apply b6 hA|refine c7 hA _ h1 ?_|refine c7 hA _ h2 ?_);cbv))
  ·replace h3:=h3 rfl;replace h4:=h4 rfl;replace h5:=h5 rfl;refine K7 Tryd.func71 rfl λqa qb qc qd qe qf qg qh qi qj qk ql qm qo qp qq qs qt qu qv qw qx qy qz vc vd ve vf vg vh vj vk vl vp vq vr vt vu vv vw vx vy vz hA=>?_
   iterate 2 (try cbv;repeat ((first|with_reducible apply b6 hA|refine c7 hA _ h1 ?_|refine c7 hA _ h2 ?_|refine c7 hA _ h3 ?_|refine c7 hA _ h4 ?_|refine c7 hA _ h5 ?_);cbv))
theorem b8o (t:Ty) (ht:Sm t) (hr:j1 t 114=true):o5 72 [.ag (ofD (cT t))] [] (λres os'=>res=[.own 0,.ag (ofD (cT (f7 t)))]/\os'=[.row false 73 (rF (d5 x8 (c6 t)))]):=by
 have h1:=b8m t ht.1 ht.2;rw[hr] at h1;have h2:=a3h t ht.1;have h3:=b2Z t (j7 (j4 hr).1).self ht.1;obtain⟨Q,hQ⟩:∃Q,Q=rF (d5 x8 (c6 t)):=⟨_,rfl⟩;rw[<-hQ] at h3 ⊢;obtain⟨a0,a1,a2,a3,ha⟩:=c9 t;obtain⟨q0,q1,q2,q3,hq⟩:=c9 (f7 t);rw[ha] at h1 h2 h3 ⊢;rw[hq] at h3 ⊢;refine so9 Tryd.func72 rfl ?_;intros;rename_i hA
 iterate 2 (try cbv;repeat ((first|with_reducible apply b6 hA|refine c5 hA _ h1 rfl ?_|refine c5 hA _ h2 rfl ?_|(refine d7 hA [] h3 ⟨rfl,rfl,rfl,rfl,rfl,rfl,rfl⟩ ?_;rintro res os2 ⟨rfl,rfl⟩));cbv))
 try simp (maxSteps:=4000000) only [nc] at *
 exact i6 hA [2] ⟨rfl,rfl,rfl,rfl,rfl,rfl,rfl,rfl⟩ ⟨rfl,rfl⟩
def rB (l:List (Int×Ty)):List (List D):=l.map λp=>.sc (.int .i64 p.1)::cT p.2
theorem c1B (l:List (Int×Ty)):(rB l).length=l.length:=by rw[rB,c4h]
theorem b9N (l:List (Int×Ty)) (p:Int×Ty):rB (l++[p])=rB l++[.sc (.int .i64 p.1)::cT p.2]:=by unfold rB;rw[c4J];rfl



def a5h (row:Bool) (t:Ty):Bool:=match row with|true=>j1 t 114|false=>j1 t 116
def ofS (l:List (Int×Ty)) (n:Int) (row:Bool):Option (Int×Ty):=l.find? λp=>(p.1 == n) && a5h row p.2
end Go.Proofs.YtlofmibkljoapaaDoor.Vm
end
section
namespace Go.Proofs.YtlofmibkljoapaaDoor.Vm
open Go.RowKit
set_option maxRecDepth 100000
set_option maxHeartbeats 8000000
mutual
def b0u (l:List (Int×Ty)):Ty->Ty
 | .mk op nm n ks=>if op=7\/op=10 then (match ofS l n (op == 10) with|some p=>p.2|none=>.mk op nm n ks) else .mk op nm n (b4S l ks)
def b4S (l:List (Int×Ty)):List Ty->List Ty
 | []=>[]
 | t::ts=>b0u l t::b4S l ts
end
theorem a9m (l:List (Int×Ty)):∀ts:List Ty,b4S l ts=ts.map (b0u l)
 | []=>rfl
 | t::ts=>by rw[b4S,a9m l ts];rfl
end Go.Proofs.YtlofmibkljoapaaDoor.Vm
end
section
namespace Go.Proofs.YtlofmibkljoapaaDoor.Vm
open Go.RowKit
set_option maxRecDepth 100000
set_option maxHeartbeats 4000000
section
section
variable {qa:IntKind->Int->Int} {qb:Int->Int->Int} {qc:Int->Int->Int} {qd:Int->Int->Int} {qe:Int->Int->Int} {qf:Int->Int->Int} {qg:BinOp->IntKind->Int->IntKind->Int->Option Int} {qh:Int->Int->Bool} {qi:Int->Int->Bool} {qj:Int->Int->Bool} {qk:Int->Prop->Prop} {ql:List UInt8->List UInt8->Bool} {qm:List UInt8->List UInt8->Bool} {qo:ByteArray->List UInt8} {qp:ByteArray->ByteArray->ByteArray} {qq:ByteArray->ByteArray->Prop->Prop} {qs:ByteArray->Int} {qt:ByteArray->Int->Option Int} {qu:ByteArray->Int->Int->Option ByteArray} {qv:List (List D)->Option ByteArray} {qw:ByteArray->List (List D)} {qx:Int->Nat->Option Nat} {qy:List (List D)->Int} {qz:List (List D)->Int->Option (List D)} {vc:List (List D)->Int->Int->Option (List (List D))} {vd:List (List D)->List (List D)->List (List D)} {ve:List (List D)->Int->List D->List (List D)} {vf:List (List D)->List (List D)->Prop->Prop} {vg:List (R×R)->R->Option R} {vh:List (R×R)->R->R->List (R×R)} {vj:List D->List D->Bool} {vk:Int->List D->(List (List D)->Prop)->Prop} {vl:Nat->List R->(List R->Prop)->Prop} {vp:Nat->List V->List O->(V->Prop)->Prop} {vq:Nat->List V->S->(V->S->Prop)->Prop} {vr:Nat->List V->List Nat->S->(V->S->Prop)->Prop} {vt:Nat->(Bool->Prop)->Prop} {vu:Nat->(Bool->Prop)->Prop} {vv:Nat->(List V->List O->Prop)->List V->S->Prop} {vw:(S->Prop)->S->Prop} {vx:Op->Option Nat->S->(S->Prop)->Prop} {vy:Array Oper->S->(S->Prop)->Prop} {vz:Code->(S->(X->S->Prop)->Prop)->S->(X->S->Prop)->Prop}
end
end
def B2 (l:List (Int×Ty)):Ty->Ty
 | .mk op nm n ks=>if op=7\/op=10 then (match ofS l n (op == 10) with|some p=>b9 p.2|none=>.mk op nm n ks) else .mk op nm n (putPs l ks)
where putPs (l:List (Int×Ty)):List Ty->List Ty
 | []=>[]
 | t::ts=>B2 l t::putPs l ts
def c25 (t:Ty):Prop:=∀x∈t.parts,x.kids.length<=2
section
variable {W:ByteArray->Bool}
def o7 (f:Int->Int):Ty->Ty
 | .mk op nm n ks=>.mk op nm (if op=7\/op=10 then f n else n) (renL f ks)
where renL (f:Int->Int):List Ty->List Ty
 | []=>[]
 | t::ts=>o7 f t::renL f ts
theorem a5i (f:Int->Int):∀ks:List Ty,o7.renL f ks=ks.map (o7 f)
 | []=>rfl
 | k::ks=>by rw[o7.renL,a5i f ks];rfl
theorem Y7 (f:Int->Int) (t:Ty):o7 f t=.mk t.op t.name (if t.op=7\/t.op=10 then f t.n else t.n) (t.kids.map (o7 f)):=by
 obtain⟨op,nm,n,ks⟩:=t;rw[o7,a5i];rfl
theorem T7 (f:Int->Int) (t:Ty):(o7 f t).op=t.op:=by rw[Y7];rfl
theorem a5j (f:Int->Int) (t:Ty):(o7 f t).name=t.name:=by rw[Y7];rfl
theorem a3m (f:Int->Int) (t:Ty):(o7 f t).n=if t.op=7\/t.op=10 then f t.n else t.n:=by rw[Y7];rfl
theorem a1Q (f:Int->Int) (t:Ty):(o7 f t).kids=t.kids.map (o7 f):=by rw[Y7];rfl
theorem a6a (f:Int->Int) (t:Ty):r9 (o7 f t)=r9 t:=by unfold r9;rw[T7]
theorem a0P (t:Ty):t∈t.parts:=by rw[r7];exact c38 ..
theorem a0Q {t x v:Ty} (h:x∈t.kids) (hv:v∈x.parts):v∈t.parts:=by rw[d9];exact c36 _ (c4a.2 ⟨x,h,hv⟩)
theorem a8c {α β:Type} {f g:α->List β}:∀ {l:List α},(∀x∈l,f x=g x)->l.flatMap f=l.flatMap g
 | [],_=>rfl
 | x::l,h=>by rw[c4H,c4H,h x (c38 ..),a8c λy hy=>h y (c36 _ hy)]
theorem U7 (f:Int->Int) (t:Ty):(o7 f t).parts=t.parts.map (o7 f):=by
 induction t using Ty.ind with
 | h t ih =>
  rw[d9,d9 t,c3Y,a1Q,List.flatMap_map,List.map_flatMap]
  congr 1
  exact a8c λx hx=>ih x hx
theorem b9O (f:Int->Int) (t:Ty):(o7 f t).parts.length=t.parts.length:=by rw[U7,c4h]
theorem b6i (f:Int->Int) (t:Ty):∀s,c8 W t s=true->(∀v∈t.parts,r9 v=true->0<=f v.n)->c8 W (o7 f t) s=true:=by
 induction t using Ty.ind with
 | h t ih =>
  intro s h hf;obtain⟨k,h0,h1,h2,h3,h4,h5,h6⟩:=f9 h;rw[Y7];refine a1g h0 h1 (by rw[c4h];exact h2) h3 ?_ ?_ (a1i h6 λx hx k hk=>ih x hx k hk λv hv=>hf v (a0Q hx hv))
  ·by_cases hv:t.op=7\/t.op=10
   ·rw[c3E hv];exact hf t (a0P t) (l5.2 hv)
   ·rw[c3G hv];exact h4
  ·by_cases hv:t.op=7\/t.op=10
   ·rcases hv with h|h
    ·exact .inl h
    ·exact .inr (.inl h)
   ·rw[c3G hv];exact h5
theorem b0v (f:Int->Int) (u:Ty):∀fs:List (ByteArray×Ty),o7 f (A4 fs u)=A4 (fs.map λp=>(p.1,o7 f p.2)) (o7 f u)
 | []=>rfl
 | p::fs=>by
  have hv:¬((Ty.mk 11 p.1 0 [p.2,A4 fs u]).op=7\/(Ty.mk 11 p.1 0 [p.2,A4 fs u]).op=10):=by show ¬((11:Int)=7\/(11:Int)=10);decide
  rw[c3Y,H6,H6,Y7,c3G hv];simp only[Ty.op,Ty.name,Ty.n,Ty.kids,c3Y,c5f];rw[b0v f u fs]
theorem a9n (f:Int->Int):∀(m:Nat) (t:Ty) (s:Int),t.parts.length<=m->c8 W t s=true->b9 (o7 f t)=o7 f (b9 t):=by
 intro m
 induction m with
 | zero=>intro t s h;have:=j5 t;omega
 | succ m ih =>
  intro t s hm h
  by_cases h11:t.op=11
  ·obtain⟨rfl,-⟩:=K9 h h11;have ht:=P9 h;have hF:=y7 h
   have e:o7 f t=A4 ((c6 t).map λp=>(p.1,o7 f p.2)) (o7 f (f7 t)):=by
    conv=>lhs;rw[a2m h,b0v]
   have hu:(o7 f (f7 t)).op≠11:=by rw[T7];exact ht.1
   have hf:=E7 hu ((c6 t).map λp=>(p.1,o7 f p.2));rw[G9 (by rw[T7];exact h11),e,hf.1,hf.2,G9 h11,b0v,a8Y (lt:=x8) (lt2:=x8) (f:=λp:ByteArray×Ty=>(p.1,o7 f p.2)) (λ_ _=>rfl),c4X,c4X]
   congr 1
   refine c4s λp hp=>?_
   have hp:=B8 hp;have:=A1 _ t (c3A _) p hp;exact congrArg (Prod.mk p.1) (ih p.2 116 (by omega) (hF.1 p hp).2)
  ·obtain⟨k,h0,h1,h2,h3,h4,h5,h6⟩:=f9 h;rw[x9 (by rw[T7];exact h11),x9 h11,T7,a5j,a1Q,a3m,Y7];simp only[Ty.op,Ty.name,Ty.n,Ty.kids];rw[c4X,c4X]
   congr 1
   refine c4s λx hx=>?_
   obtain⟨c,hc⟩:=J0 W _ _ h6 x hx;have:=(m9 t).2 x hx;exact ih x c (by omega) hc
theorem b1R (f g:Int->Int) (t:Ty):o7 g (o7 f t)=o7 (λn=>g (f n)) t:=by
 induction t using Ty.ind with
 | h t ih =>
  rw[Y7 g,T7,a5j,a3m,a1Q,c4X,Y7 (λn=>g (f n))]
  congr 1
  ·by_cases hv:t.op=7\/t.op=10
   ·rw[c3E hv,c3E hv,c3E hv]
   ·rw[c3G hv,c3G hv,c3G hv]
  ·exact c4s λx hx=>ih x hx
theorem a9o {f g:Int->Int} (t:Ty):(∀v∈t.parts,r9 v=true->f v.n=g v.n)->o7 f t=o7 g t:=by
 induction t using Ty.ind with
 | h t ih =>
  intro h;rw[Y7 f,Y7 g]
  congr 1
  ·by_cases hv:t.op=7\/t.op=10
   ·rw[c3E hv,c3E hv];exact h t (a0P t) (l5.2 hv)
   ·rw[c3G hv,c3G hv]
  ·exact c4s λx hx=>ih x hx λv hv=>h v (a0Q hx hv)
theorem b8p {t u:Ty} (h1:t.op=u.op) (h2:t.name=u.name) (h3:t.n=u.n) (h4:t.kids=u.kids):t=u:=by rw[t.eta,u.eta,h1,h2,h3,h4]
theorem b1S {α β:Type} {f:α->β}:∀ {l m:List α},(∀x∈l,∀y∈m,f x=f y->x=y)->l.map f=m.map f->l=m
 | [],[],_,_=>rfl
 | [],y::m,_,h=>by cases h
 | x::l,[],_,h=>by cases h
 | x::l,y::m,hi,h=>by
  rw[c3Y,c3Y] at h;injection h with h1 h2;rw[hi x (c38 ..) y (c38 ..) h1,b1S (λa ha b hb=>hi a (c36 _ ha) b (c36 _ hb)) h2]
theorem b9P {f:Int->Int} (x:Ty):∀y:Ty,(∀v∈x.parts,∀w∈y.parts,r9 v=true->r9 w=true->f v.n=f w.n->v.n=w.n)->o7 f x=o7 f y->x=y:=by
 induction x using Ty.ind with
 | h x ih =>
  intro y h e;have e1:=congrArg Ty.op e;have e2:=congrArg Ty.name e;have e3:=congrArg Ty.n e;have e4:=congrArg Ty.kids e;rw[T7,T7] at e1;rw[a5j,a5j] at e2;rw[a3m,a3m,e1] at e3;rw[a1Q,a1Q] at e4;refine b8p e1 e2 ?_ (b1S (λa ha b hb he=>ih a ha b (λv hv w hw=>h v (a0Q ha hv) w (a0Q hb hw)) he) e4)
  by_cases hv:y.op=7\/y.op=10
  ·rw[c3E hv,c3E hv] at e3;exact h x (a0P x) y (a0P y) (l5.2 (by rw[e1];exact hv)) (l5.2 hv) e3
  ·rw[c3G hv,c3G hv] at e3;exact e3
theorem a9p (f:Int->Int):∀(ts:List Ty) (acc:List Int),(∀a∈acc,∀v∈ts,r9 v=true->f a=f v.n->a=v.n)->(∀v∈ts,∀w∈ts,r9 v=true->r9 w=true->f v.n=f w.n->v.n=w.n)->v8 (ts.map (o7 f)) (acc.map f)=(v8 ts acc).map f
 | [],acc,_,_=>rfl
 | t::ts,acc,h1,h2=>by
  have key:(if r9 (o7 f t)=true/\(o7 f t).n∉acc.map f then acc.map f++[(o7 f t).n] else acc.map f)=(if r9 t=true/\t.n∉acc then acc++[t.n] else acc).map f:=by
   rw[a6a]
   by_cases hv:r9 t=true
   ·have hn:(o7 f t).n=f t.n:=by rw[a3m,c3E (l5.1 hv)]
    rw[hn]
    by_cases hm:t.n∈acc
    ·rw[c3G (λh=>h.2 (c4o.2 ⟨_,hm,rfl⟩)),c3G (λh=>h.2 hm)]
    ·have hm2:f t.n∉acc.map f:=λh=>by
      obtain⟨a,ha,e⟩:=c4o.1 h;have e2:=h1 a ha t (c38 ..) hv e;rw[e2] at ha;exact hm ha
     rw[c3E ⟨hv,hm2⟩,c3E ⟨hv,hm⟩,c4J];rfl
   ·rw[c3G (λh=>hv h.1),c3G (λh=>hv h.1)]
  rw[c3Y,v8,v8,key];refine a9p f ts _ (λa ha v hv iv e=>?_) λv hv w hw=>h2 v (c36 _ hv) w (c36 _ hw)
  split at ha
  ·rename_i hc
   rcases c4b.1 ha with ha|ha
   ·exact h1 a ha v (c36 _ hv) iv e
   ·rw[c5x] at ha;subst ha;exact h2 t (c38 ..) v (c36 _ hv) hc.1 iv e
  ·exact h1 a ha v (c36 _ hv) iv e
theorem b4T (f:Int->Int) (x:Int):∀(l:List Int) (k:Nat),(∀a∈l,f a=f x->a=x)->atS (l.map f) (f x) k=atS l x k
 | [],_,_=>rfl
 | y::l,k,h=>by
  rw[c3Y,atS,atS]
  by_cases hy:y=x
  ·rw[c3E (by rw[hy]),c3E hy]
  ·rw[c3G (λe=>hy (h y (c38 ..) e)),c3G hy,b4T f x l (k+1) λa ha=>h a (c36 _ ha)]
theorem a1R:∀(l:List Int) (x:Int) (k:Nat),x∈l->∃i:Nat,atS l x k=((k+i:Nat):Int)/\l[i]?=some x
 | [],_,_,h=>by cases h
 | y::l,x,k,h=>by
  rw[atS]
  by_cases hy:y=x
  ·rw[c3E hy];exact⟨0,rfl,by rw[hy];rfl⟩
  ·rw[c3G hy];obtain⟨i,h1,h2⟩:=a1R l x (k+1) ((c3F.1 h).resolve_left λe=>hy e.symm);exact⟨i+1,by rw[h1];congr 1;omega,h2⟩
theorem b4U {l:List Int} {x y:Int} (hx:x∈l) (hy:y∈l) (h:atS l x 0=atS l y 0):x=y:=by
 obtain⟨i,h1,h2⟩:=a1R l x 0 hx;obtain⟨j,h3,h4⟩:=a1R l y 0 hy;have e:i=j:=by rw[h1,h3] at h;omega
 subst e;rw[h2] at h4;injection h4
theorem c1C {l:List Int} {x:Int} (hx:x∈l):atS l x 0<(l.length:Int):=by
 obtain⟨i,h1,h2⟩:=a1R l x 0 hx;have:=(c35.1 h2).1;rw[h1];omega
def C3 (t:Ty):Ty:=o7 (λn=>atS (w5 t) n 0) (b9 t)
theorem a8d:∀(ts:List Ty) (acc:List Int),(∀a∈acc,a∈v8 ts acc)/\∀v∈ts,r9 v=true->v.n∈v8 ts acc
 | [],acc=>⟨λa h=>h,λv h=>by cases h⟩
 | t::ts,acc=>by
  rw[v8];obtain⟨h1,h2⟩:=a8d ts (if r9 t=true/\t.n∉acc then acc++[t.n] else acc);refine⟨λa ha=>h1 a ?_,λv hv iv=>?_⟩
  ·split
   ·exact c48 _ ha
   ·exact ha
  ·rcases c3F.1 hv with rfl|hv
   ·refine h1 v.n ?_
    by_cases hm:v.n∈acc
    ·rw[c3G (λh=>h.2 hm)];exact hm
    ·rw[c3E ⟨iv,hm⟩];simp
   ·exact h2 v hv iv
theorem a5k (t:Ty):∀v∈(b9 t).parts,r9 v=true->v.n∈w5 t:=(a8d _ _).2
theorem b9Q {f:Int->Int} {g:Ty} {s:Int} (h:c8 W g s=true) (hc:b9 g=g) (hf:∀v∈g.parts,∀w∈g.parts,r9 v=true->r9 w=true->f v.n=f w.n->v.n=w.n) (hv:∀n∈w5 g,∃v∈g.parts,r9 v=true/\v.n=n):C3 (o7 f g)=C3 g:=by
 have e:b9 (o7 f g)=o7 f g:=by rw[a9n f _ g s (c3A _) h,hc]
 have ev:w5 (o7 f g)=(w5 g).map f:=by
  unfold w5;rw[e,U7,hc];exact a9p f g.parts [] (λa ha=>by cases ha) hf
 unfold C3;rw[e,ev,b1R,hc];refine a9o g λv hm iv=>b4T f v.n _ 0 λa ha ea=>?_
 obtain⟨w,hw,iw,rfl⟩:=hv a ha;exact hf w hw v hm iw iv ea
end
end Go.Proofs.YtlofmibkljoapaaDoor.Vm
end

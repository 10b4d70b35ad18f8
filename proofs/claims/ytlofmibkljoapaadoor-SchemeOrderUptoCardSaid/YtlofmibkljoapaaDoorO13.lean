/- Part 13 of the proof. Conditions: none. -/
import Derived.Test.YtlofmibkljoapaaDoorO4
import Derived.Test.YtlofmibkljoapaaDoorO6
import Derived.Test.YtlofmibkljoapaaDoorO7
import Derived.Test.YtlofmibkljoapaaDoorO8
import Derived.Test.YtlofmibkljoapaaDoorO12
import Derived.IntWalk
import Derived.Test.YtlofmibkljoapaaDoorO0
set_option linter.all false
set_option linter.unusedVariables false
set_option linter.unusedSimpArgs false
section
namespace Go.Proofs.YtlofmibkljoapaaDoor.Vm
open Go.RowKit
set_option maxRecDepth 100000
set_option maxHeartbeats 4000000
section
section
variable {I0:Nat->Nat->Prop} {X:Nat->Prop} {w0:W0} {I:Nat->Nat->Prop} {g:Nat->Value} {s:S} {a:Act} {w:World}
theorem RelI.melt (h:RelI I0 X w0 I g s a w) {k e:Nat} {z:Bool} {rows:List (List D)} (hk:s.o[k]?=some (.it (i7 z e rows))) :
  U8 I0 X w0 ⟨fT (sw1 k (.d (.sl (ty e).sz rows))) s.t,(fO (sw1 k (.d (.sl (ty e).sz rows))) k s.o).set k .dead⟩ a w:=by
 obtain⟨A,n,cap,F,hg,⟨hn,hat,_⟩,hst,hF⟩:=h.obj k _ hk;have hlt:=(c25.1 hk).1;have hlk:A1 s k:=⟨_,hk,by simp⟩;have hgF:∀b,M9 (g k) b↔b∈F:=λb=>by rw[hg,z8]
 have hI:∀b n,I b n->(λb n=>I b n\/b∈F) b n:=λb n h=>.inl h
 refine⟨λb n=>I b n\/b∈F,g,h.trade _ (λj=>j=k) (λb=>b∈F) _ h.fr (n7.refl I w) (c2A _) hI (λb hb=>⟨k,rfl,hlk,(hgF b).2 hb⟩) (λb n h=>h) (a5H hI (n7.refl I w) (λ_ _ _=>rfl) (λ_ _=>rfl) (λv hv _=>?_) (λ_ _ _ _=>rfl)) (λ_ _ _ _ _=>rfl) (λj hj o ho=>⟨rfl,?_⟩) (λj hj o ho=>?_) (λi j b hi hj _ _ _ _=>hi.trans hj.symm) (λ_ _=>rfl) (by rw[c2K,G5];exact c2A _) (λj hj=>h.out j (by rw[c2K,G5] at hj;exact hj))⟩
 ·rw[hv,hg];refine .d ?_;have h2:=hat.data (I:=λb n=>I b n\/b∈F) λb hb n=>.inr hb
  exact h2.2 0 _ _ rfl rfl
 ·rw[c2L (c3P hj)] at ho;obtain⟨o0,h1,h2⟩:=a3d _ _ _ _ _ ho;refine⟨o0,h1,h2.imp id (Or.imp (λ⟨ks,a1,a2⟩=>⟨ks,_,a1,a2,λi hi=>c26 _ hi,λi _=>.inl rfl⟩) id)⟩
 ·subst hj;rw[c2S (by rw[G5];exact hlt)] at ho;obtain rfl:=Option.some.inj ho;exact⟨True.intro,λhd=>absurd rfl hd⟩
theorem RelI.opened (h:RelI I0 X w0 I g s a w) {k e:Nat} {z:Bool} {rows:List (List D)} (hk:s.o[k]?=some (.it (i7 z e rows))) (hne:rows≠[]) :
  U8 I0 X w0 ⟨fT (sw1 k (.bs s.o.length rows.length)) s.t,(fO (sw1 k (.bs s.o.length rows.length)) k s.o).set k (.it (i7 true e []))++(.box (a7E (s.o.length+1) rows.flatten)::a2l e rows.flatten)⟩ a w:=by
 obtain⟨A,n,cap,F,hg,⟨hn,hat,_⟩,hst,hF⟩:=h.obj k _ hk;have hlt:=(c25.1 hk).1;have hlk:A1 s k:=⟨_,hk,by simp⟩;have hgF:∀b,M9 (g k) b↔b∈F:=λb=>by rw[hg,z8]
 rcases hat.top with⟨h0,_⟩|⟨b,cap',vs,cur,t,F1,_,hv,hFe,hcap,hb,hl,hc,hr,hat1⟩
 ·exact absurd h0 hne
 injection hv with hA hn' hcc
 subst hA;subst hn';subst hcc;subst hFe;obtain⟨hn1,hn2⟩:=c34.1 hn;obtain⟨gs,q1,q2,q3,q4⟩:=b75 hat1 hn2;obtain⟨N,hN⟩:∃N,N=s.o.length:=⟨_,rfl⟩;rw[<-hN]
 obtain⟨g',hg'⟩:∃g':Nat->Value,g'=λj=>if j=k then W6 (.slice none 0 0) [] else if j=N then .pointer (some ⟨b,0,none⟩) else match gs[j - (N+1)]? with
  | some p=>if N<j then W6 p.1 p.2 else g j
  | none=>g j:=⟨_,rfl⟩
 have gk:g' k=W6 (.slice none 0 0) []:=by rw[hg'];simp
 have gN:g' N=.pointer (some ⟨b,0,none⟩):=by rw[hg'];simp only[c2H (show ¬N=k by omega),c4I]
 have gO:∀j,j<N->j≠k->g' j=g j:=λj hj hjk=>by
  rw[hg'];simp only;rw[c2H hjk,c2H (by omega)];cases gs[j - (N+1)]? with
  | none=>rfl
  | some p=>simp only;rw[c2H (by omega)]
 have gS:∀i p,gs[i]?=some p->g' (N+1+i)=W6 p.1 p.2:=λi p hp=>by
  rw[hg'];simp only;rw[c2H (by omega),c2H (by omega),show N+1+i - (N+1)=i by omega,hp];simp only;rw[c2E (by omega)]
 have gE:∀j,N+1+gs.length<=j->g' j=.nilFunc:=λj hj=>by
  rw[hg'];simp only;rw[c2H (by omega),c2H (by omega),c3p (by omega)];exact h.out j (by omega)
 have hsp:vs=cur.toList.take (rows.length * (ty e).sz):=hc.symm;have hbox:w.heap[b]?=some (.cells (vs++cur.toList.drop (rows.length * (ty e).sz)).toArray t (0,0)):=by rw[hb,hsp,c3D]
 have hgn:∀j,j≠k->g j≠.nilFunc->g' j=g j:=λj hj hnn=>by
  rcases c3o j N with h1|h1
  ·exact gO j h1 hj
  ·exact absurd (h.out j (by omega)) hnn
 have hgr:∀j,H6 (g j)=true->g' j=g j:=λj hr=>hgn j (λe=>by rw[e,hg] at hr;cases hr) λe=>by rw[e] at hr;cases hr
 refine⟨I,g',h.trade _ (λj=>j=k\/N<=j) (λc=>c∈b::F1) _ h.fr (n7.refl I w) (c2A _) (λ_ _ h=>h) (λc hc=>⟨k,.inl rfl,hlk,(hgF c).2 hc⟩) (λb n h=>.inl h) (a5H (λ_ _ h=>h) (n7.refl I w) hgn hgr (λv hv _=>?_) (λb n cap e=>by rw[hg] at e;cases e)) (λ_ _ _ _ _=>rfl) (λj hj o ho=>?_) (λj hj o ho=>?_) (λi j c hi hj hli hlj hbi hbj=>?_) hgr ?_ (λj hj=>?_)⟩
 ·rw[hv,hg];exact .bs N _ b cap gN hcap
 ·have hjk:j≠k:=λe=>hj (.inl e)
  have hjN:j<N:=by rcases c3o j N with h1|h1;exact h1;exact absurd (.inr h1) hj
  refine⟨gO j hjN hjk,?_⟩;rw[c2R (by rw[c2K,G5,<-hN];exact hjN),c2L (c3P hjk)] at ho;obtain⟨o0,h1,h2⟩:=a3d _ _ _ _ _ ho;refine⟨o0,h1,h2.imp id (Or.imp (λ⟨ks,a1,a2⟩=>⟨ks,_,a1,a2,λi hi=>c26 _ hi,λi hi=>?_⟩) id)⟩
  by_cases e:i=k
  ·exact .inr (by rw[e];exact c27 ..)
  ·exact .inl (gO i (by omega) e)
 ·rcases c3o j N with h1|h1
  ·obtain rfl:j=k:=hj.resolve_right (by omega);rw[c2R (by rw[c2K,G5,<-hN];exact h1),c2S (by rw[G5];exact hlt)] at ho;obtain rfl:=Option.some.inj ho;exact⟨⟨none,0,0,[],gk,i7.nil w true e,λw' _=>i7.nil w' true e,by simp⟩,λ_ c hc=>by rw[gk,z8] at hc;simp at hc⟩
  ·obtain⟨d,rfl⟩:∃d,j=N+d:=⟨j - N,by omega⟩;have hL:((fO (sw1 k (.bs N rows.length)) k s.o).set k (.it (i7 true e []))).length=N:=by rw[c2K,G5,hN]
   rw[c2P (by omega),hL,Nat.add_sub_cancel_left] at ho;cases d with
   | zero =>
    simp at ho
    subst ho;refine⟨⟨b,vs,(t,cur.toList.drop (rows.length * (ty e).sz)),gN,hbox,q4 I g' (N+1) gS,hat1.one,(hF b (c27 ..)).2.1,(hF b (c27 ..)).2.2⟩,λ_ c hc=>.inl ?_⟩;rw[c3I,gN] at hc;rw[show c=b from(show b=c from hc).symm];exact c27 ..
   | succ i =>
    simp at ho
    have hi:i<gs.length:=by rw[q1];exact(c25.1 ho).1
    obtain⟨⟨r,a1,a2⟩,⟨A',n',cap',a3⟩,a4⟩:=q2 i _ (c28 hi);rw[a1] at ho;obtain rfl:=Option.some.inj ho;have e1:=gS i _ (c28 hi);rw[c4o] at e1;rw[a3] at e1 a2;refine⟨⟨A',n',cap',_,e1,a2,λw' hw=>a2.keep hw,λc hc=>hF c (c26 _ (a4 c hc))⟩,λ_ c hc=>.inl ?_⟩;have e2:g' (N+(i+1))=W6 (.slice A' n' cap') gs[i].2:=e1;rw[e2,z8] at hc;exact c26 _ (a4 c hc)
 ·-- each block is one object's
  have cls:∀j,(j=k\/N<=j)->(∃o,((fO (sw1 k (.bs N rows.length)) k s.o).set k (.it (i7 true e []))++(.box (a7E (N+1) rows.flatten)::a2l e rows.flatten))[j]?=some o/\o≠.dead)->M9 (g' j) c->(j=N/\c=b)\/∃i p,j=N+1+i/\gs[i]?=some p/\c∈p.2:=λj hj hlj hb2=>by
   rcases hj with rfl|hj
   ·rw[gk,z8] at hb2;simp at hb2
   ·by_cases e:j=N
    ·subst e;rw[gN] at hb2;exact .inl ⟨rfl,(show b=c from hb2).symm⟩
    ·obtain⟨i,rfl⟩:∃i,j=N+1+i:=⟨j - (N+1),by omega⟩
     rcases c3o i gs.length with h1|h1
     ·have hp:=c28 h1;obtain⟨_,⟨A',n',cap',a3⟩,_⟩:=q2 i _ hp;rw[gS i _ hp,a3,z8] at hb2;exact .inr ⟨i,_,rfl,hp,hb2⟩
     ·rw[gE _ (by omega)] at hb2;exact hb2.elim
  rcases cls i hi hli hbi with⟨rfl,rfl⟩|⟨i1,p1,rfl,hp1,hc1⟩ <;> rcases cls j hj hlj hbj with⟨rfl,e2⟩|⟨i2,p2,rfl,hp2,hc2⟩
  ·rfl
  ·exact absurd ((q2 i2 p2 hp2).2.2 _ hc2) hn1
  ·subst e2;exact absurd ((q2 i1 p1 hp1).2.2 _ hc1) hn1
  ·rw[q3 i1 i2 p1 p2 c hp1 hp2 hc1 hc2]
 ·rw[c29,c2K,G5];exact Nat.le_add_right _ _
 ·rw[c29,c2K,G5,<-hN,c2D,<-q1] at hj;exact gE j (by omega)
end
end
section
theorem Z7 {os:List O} {e:Nat}:∀ {cs:List V} {ds:List D} {ms:List Nat},a1i os e cs ds ms->∀m∈ms,∃b r,m5 os m=.it (i7 b e r)
 | cs,ds,ms,hc,m,hm=>by
  unfold a1i at hc
  split at hc
  ·simp at hm
  ·exact Z7 hc.2 m hm
  ·exact Z7 hc.2 m hm
  ·obtain⟨rfl,_,⟨b,ho⟩,hc⟩:=hc
   rcases c2C.1 hm with rfl|hm
   ·exact⟨b,_,ho⟩
   ·exact Z7 hc m hm
  ·exact hc.elim
termination_by cs=>cs.length
section
variable {I0:Nat->Nat->Prop} {X:Nat->Prop} {w0:W0} {I I':Nat->Nat->Prop} {g g':Nat->Value} {s:S} {a:Act} {w w':World}
theorem RelI.closed (h:RelI I0 X w0 I g s a w) {p c j k n e:Nat} {bs cs:List V} {ds:List D} {ms:List Nat} {rows:List (List D)} {P:World->Value->List Nat->Prop} (hp:s.o[p]?=some (.box bs)) (hcell:bs[c]?=some (.bs j n)) (hj:s.o[j]?=some (.box cs)) (hk:s.o[k]?=some (.it P)) (hpj:p≠j)
  (hlen:cs.length=n * (ty e).sz) (hcl:a1i s.o e cs ds ms) (hr1:rows.flatten=ds) (hr2:rows.length=n) (hr3:∀r∈rows,r.length=(ty e).sz) (hn0:0<n) (hms:ms.Nodup) :
  U8 I0 X w0 ⟨fT (sw1 k .jk) s.t,((a09 (j::ms) (fO (sw1 k .jk) k s.o)).set k (.it (i7 false e rows))).set p (.box ((fL (sw1 k .jk) bs).set c (.own k)))⟩ a w:=by
 obtain⟨b,us,t,hg,hb,hus,h1s,hIb,hMb⟩:=h.obj j _ hj;obtain⟨bp,usp,tp,hgp,hbp,husp,h1p,hIp,hMp⟩:=h.obj p _ hp;obtain⟨A0,n0,cap0,F0,hgk,_,_,_⟩:=h.obj k _ hk;have lj:A1 s j:=⟨_,hj,by simp⟩;have lp:A1 s p:=⟨_,hp,by simp⟩;have lk:A1 s k:=⟨_,hk,by simp⟩;have kp:k≠p:=λe=>by rw[e,hp] at hk;cases hk
 have kj:k≠j:=λe=>by rw[e,hj] at hk;cases hk
 have mit:∀m∈ms,m≠p/\m≠j:=λm hm=>by
  obtain⟨z,r,ho⟩:=Z7 hcl m hm;have ho:=j1 ho (by simp);exact⟨λe=>(by rw[e,hp] at ho;cases ho),λe=>(by rw[e,hj] at ho;cases ho)⟩
 obtain⟨F2,hat,hn2,hF2⟩:=a1J h hus hcl hms;have hcl2:c<usp.length:=by rw[husp.1];exact(c25.1 hcell).1
 obtain⟨b2,cap,hgb,hu,hcap⟩:=(husp.2 c usp[c] _ (c28 hcl2) hcell).unbs;have e1:b2=b:=by rw[hg] at hgb;injection hgb with hgb;injection hgb with hgb;injection hgb with hgb;exact hgb.symm
 subst e1
 have hbF:b2∉F2:=λhm=>by
  obtain⟨m,hm',hl',hb'⟩:=hF2 b2 hm;exact(mit m hm').2 (h.dis m j b2 hl' lj hb' (by rw[hg];rfl))
 have htree:AtTs w e (b2::(F2++[])) [.slice (some ⟨b2,0,none⟩) rows.length cap] [.sl (ty e).sz rows]:=by
  refine .sl b2 cap rows us (us++t.2).toArray t.1 F2 [] [] [] (λe=>by rw[e] at hr2;simp at hr2;omega) (by omega) hb (by rw[hus.1,hlen,hr2]) ?_ hr3 (by rw[hr1];exact hat) .nil;show ((us++t.2).toArray.toList).take _=us;have:us.length=rows.length * (ty e).sz:=by rw[hus.1,hlen,hr2]
  rw[<-this]
  simp
 rw[c3b] at htree;have hP:i7 false e rows w (.slice (some ⟨b2,0,none⟩) rows.length cap) (b2::F2):=⟨c34.2 ⟨hbF,hn2⟩,htree,by simp⟩;have hgn:∀i,i≠k->g i≠.nilFunc->upd g k (W6 (.slice (some ⟨b2,0,none⟩) rows.length cap) (b2::F2)) i=g i:=λi hi _=>r8 hi
 have hgr:∀i,H6 (g i)=true->upd g k (W6 (.slice (some ⟨b2,0,none⟩) rows.length cap) (b2::F2)) i=g i:=λi hr=>r8 λe=>by rw[e,hgk] at hr;cases hr
 have hsw:=a5H (I:=I) (I':=I) (w:=w) (w':=w) (k:=k) (x:=.jk) (λ_ _ h=>h) (n7.refl I w) hgn hgr (λv _ _=>.jk v) (λb n cap e=>by rw[hgk] at e;cases e);have hltk:=(c25.1 hk).1;have hltp:=(c25.1 hp).1;have dl:(a09 (j::ms) (fO (sw1 k .jk) k s.o)).length=s.o.length:=by rw[a5F,G5]
 have look:∀i o,(((a09 (j::ms) (fO (sw1 k .jk) k s.o)).set k (.it (i7 false e rows))).set p (.box ((fL (sw1 k .jk) bs).set c (.own k))))[i]?=some o->(i=p/\o=.box ((fL (sw1 k .jk) bs).set c (.own k)))\/(i=k/\o=.it (i7 false e rows))\/(i≠p/\i≠k/\i∈j::ms/\o=.dead)\/(i≠p/\i≠k/\i∉j::ms/\(fO (sw1 k .jk) k s.o)[i]?=some o):=λi o ho=>by
  by_cases e1:p=i
  ·subst e1;rw[c2S (by rw[c2K,dl];exact hltp)] at ho;exact .inl ⟨rfl,(Option.some.inj ho).symm⟩
  ·rw[c2L e1] at ho
   by_cases e2:k=i
   ·subst e2;rw[c2S (by rw[dl];exact hltk)] at ho;exact .inr (.inl ⟨rfl,(Option.some.inj ho).symm⟩)
   ·rw[c2L e2] at ho
    rcases a5G _ _ _ _ ho with⟨h1,h2⟩|⟨h1,h2⟩
    ·exact .inr (.inr (.inr ⟨c3P e1,c3P e2,h1,h2⟩))
    ·exact .inr (.inr (.inl ⟨c3P e1,c3P e2,h1,h2⟩))
 have inF:∀x,x∈b2::F2->∃i,(i=k\/i=p\/i∈j::ms)/\i≠p/\A1 s i/\M9 (g i) x:=λx hx=>by
  rcases c2C.1 hx with rfl|hx
  ·exact⟨j,.inr (.inr (c27 ..)),c3P hpj,lj,by rw[hg];rfl⟩
  ·obtain⟨m,h1,h2,h3⟩:=hF2 x hx;exact⟨m,.inr (.inr (c26 _ h1)),(mit m h1).1,h2,h3⟩
 refine⟨I,upd g k (W6 (.slice (some ⟨b2,0,none⟩) rows.length cap) (b2::F2)),h.trade (sw1 k .jk) (λi=>i=k\/i=p\/i∈j::ms) (λx=>∃i,(i=k\/i=p\/i∈j::ms)/\A1 s i/\M9 (g i) x) _ h.fr (n7.refl I w) (c2A _) (λ_ _ h=>h) (λx hx=>hx) (λb n h=>.inl h) hsw (λ_ _ _ _ _=>rfl) (λi hi o ho=>?_) (λi hi o ho=>?_) (λi1 i2 x hi1 hi2 hl1 hl2 hb1 hb2=>?_) hgr (by rw[c2K,c2K,dl];exact c2A _) (λi hi=>?_)⟩
 ·refine⟨r8 λe=>hi (.inl e),?_⟩
  rcases look i o ho with⟨h1,_⟩|⟨h1,_⟩|⟨_,_,h1,_⟩|⟨_,_,_,h1⟩
  ·exact absurd (.inr (.inl h1)) hi
  ·exact absurd (.inl h1) hi
  ·exact absurd (.inr (.inr h1)) hi
  ·obtain⟨o0,h2,h3⟩:=a3d _ _ _ _ _ h1;refine⟨o0,h2,h3.imp id (Or.imp (λ⟨ks,a1,a2⟩=>⟨ks,_,a1,a2,λi hi=>c26 _ hi,λi _=>?_⟩) id)⟩
   by_cases e:i=k
   ·exact .inr (by rw[e];exact c27 ..)
   ·exact .inl (r8 e)
 ·rcases look i o ho with⟨rfl,rfl⟩|⟨rfl,rfl⟩|⟨_,_,_,rfl⟩|⟨h1,h2,h3,_⟩
  ·refine⟨⟨bp,usp,tp,by rw[r8 (c3P kp)];exact hgp,hbp,?_,h1p,hIp,hMp⟩,λ_ x hx=>?_⟩
   ·refine(b4v hsw husp).reset λv hv=>?_
    rw[c28 hcl2,hu] at hv;obtain rfl:=Option.some.inj hv;refine .own k _ _ _ ?_;rw[d9,<-hr2];rfl
   ·rw[r8 (c3P kp)] at hx;exact .inl ⟨i,.inr (.inl rfl),lp,hx⟩
  ·refine⟨⟨some ⟨b2,0,none⟩,rows.length,cap,b2::F2,d9 ..,hP,λw' hw=>hP.keep hw,λx hx=>?_⟩,λ_ x hx=>?_⟩
   ·obtain⟨cc,tt,hcc⟩:=htree.cells x hx;obtain⟨i',_,_,⟨oi,hoi,hdi⟩,hbi⟩:=inF x hx;refine⟨⟨cc,tt,hcc⟩,?_⟩
    rcases c2C.1 hx with rfl|hx
    ·exact⟨hIb,hMb⟩
    ·obtain⟨m,h1,⟨om,hom,hdm⟩,h3⟩:=hF2 x hx;obtain⟨z,r,ho⟩:=Z7 hcl m h1;have ho:=j1 ho (by simp);obtain⟨A,n',cap',F,q1,_,_,q4⟩:=h.obj m _ ho;rw[q1,z8] at h3;exact(q4 x h3).2
   ·rw[d9,z8] at hx;obtain⟨i',h1,_,h3,h4⟩:=inF x hx;exact .inl ⟨i',h1,h3,h4⟩
  ·exact⟨True.intro,λhd=>absurd rfl hd⟩
  ·rcases hi with hi|hi|hi
   ·exact absurd hi h2
   ·exact absurd hi h1
   ·exact absurd hi h3
 ·have cls:∀i,(i=k\/i=p\/i∈j::ms)->(∃o,(((a09 (j::ms) (fO (sw1 k .jk) k s.o)).set k (.it (i7 false e rows))).set p (.box ((fL (sw1 k .jk) bs).set c (.own k))))[i]?=some o/\o≠.dead)->i=p\/i=k:=λi hi ⟨o,ho,hd⟩=>by
   rcases look i o ho with⟨h1,_⟩|⟨h1,_⟩|⟨_,_,_,rfl⟩|⟨h1,h2,h3,_⟩
   ·exact .inl h1
   ·exact .inr h1
   ·exact absurd rfl hd
   ·rcases hi with hi|hi|hi
    ·exact absurd hi h2
    ·exact absurd hi h1
    ·exact absurd hi h3
  have cross:M9 (upd g k (W6 (.slice (some ⟨b2,0,none⟩) rows.length cap) (b2::F2)) p) x->M9 (upd g k (W6 (.slice (some ⟨b2,0,none⟩) rows.length cap) (b2::F2)) k) x->False:=λh1 h2=>by
   rw[r8 (c3P kp)] at h1;rw[d9,z8] at h2;obtain⟨i',_,h3,h4,h5⟩:=inF x h2;exact h3 (h.dis i' p x h4 lp h5 h1)
  rcases cls i1 hi1 hl1 with rfl|rfl <;> rcases cls i2 hi2 hl2 with rfl|rfl
  ·rfl
  ·exact(cross hb1 hb2).elim
  ·exact(cross hb2 hb1).elim
  ·rfl
 ·rw[c2K,c2K,dl] at hi;rw[r8 (by omega)];exact h.out i hi
theorem c0J {j k:Nat} (hgr:∀i,H6 (g i)=true->g' i=g i) (hg:∀i,i≠j->g' i=g i) (hj:gv (g' j)=gv (g k)) (hel:∀b n cap,g j≠.slice (some ⟨b,0,none⟩) n cap):∀v y,AtV I w g v y->AtV I w g' v (mv1 j k y):=by
 intro v y h;cases y with
 | own i =>
  show AtV I w g' v (match B8 i j with|true=>.jk|false=>(match B8 i k with|true=>.own j|false=>.own i));obtain⟨h1,A,n,cap,h2⟩:=h.unown;cases e:B8 i j
  ·cases e2:B8 i k
   ·rw[h1,h2];exact .own i A n cap ((congrArg gv (hg i (Y0.1 e))).trans h2)
   ·obtain rfl:=w8.1 e2;rw[h1,h2];exact .own j A n cap (hj.trans h2)
  ·exact .jk _
 | ag cs=>exact .jk _
 | tu cs=>exact .jk _
 | d x=>cases h with|d h=>exact .d h
 | em=>cases h;exact .em
 | ptr j off=>cases h with|ptr k off b h=>exact .ptr _ off b ((hgr j (by rw[h];rfl)).trans h)
 | cl f ks =>
  cases h with
  | cl f us ks hl h =>
   exact .cl f us ks hl λi u j hu hj=>by
    obtain⟨h1,b,h2⟩:=h i u j hu hj;have h3:=hgr j (by rw[h2];rfl);exact⟨h1.trans h3.symm,b,h3.trans h2⟩
 | el i x sz off =>
  cases h with
  | el i x sz off b n cap h=>exact .el i x sz off b n cap ((hg i λe=>hel b n cap (e ▸ h)).trans h)
 | ro cs off=>cases h with|ro b o off us cs hi hc hd=>exact .ro b o off us cs hi hc hd
 | mp j=>cases h with|mp j b h=>exact .mp j b ((hgr j (by rw[h];rfl)).trans h)
 | bs j n=>cases h with|bs j n b cap h hn=>exact .bs j n b cap ((hgr j (by rw[h];rfl)).trans h) hn
 | jk=>exact .jk _
theorem RelI.moved (h:RelI I0 X w0 I g s a w) {j k:Nat} {Pj Pk:World->Value->List Nat->Prop} (hj:s.o[j]?=some (.it Pj)) (hk:s.o[k]?=some (.it Pk)) (hjk:j≠k) :
  U8 I0 X w0 ⟨fT (mv1 j k) s.t,((fO (mv1 j k) j s.o).set k .dead).set j (.it Pk)⟩ a w:=by
 obtain⟨A0,n0,cap0,F0,hgj,_,_,_⟩:=h.obj j _ hj;have hobk:=h.obj k _ hk;have lj:A1 s j:=⟨_,hj,by simp⟩;have lk:A1 s k:=⟨_,hk,by simp⟩;have hltj:=(c25.1 hj).1;have hltk:=(c25.1 hk).1;have hgr:∀i,H6 (g i)=true->upd g j (g k) i=g i:=λi hr=>r8 λe=>by rw[e,hgj] at hr;cases hr
 have look:∀i o,(((fO (mv1 j k) j s.o).set k .dead).set j (.it Pk))[i]?=some o->(i=j/\o=.it Pk)\/(i=k/\o=.dead)\/(i≠j/\i≠k/\(fO (mv1 j k) j s.o)[i]?=some o):=λi o ho=>by
  by_cases e1:j=i
  ·subst e1;rw[c2S (by rw[c2K,G5];exact hltj)] at ho;exact .inl ⟨rfl,(Option.some.inj ho).symm⟩
  ·rw[c2L e1] at ho
   by_cases e2:k=i
   ·subst e2;rw[c2S (by rw[G5];exact hltk)] at ho;exact .inr (.inl ⟨rfl,(Option.some.inj ho).symm⟩)
   ·rw[c2L e2] at ho;exact .inr (.inr ⟨c3P e1,c3P e2,ho⟩)
 refine⟨I,upd g j (g k),h.trade (mv1 j k) (λi=>i=j\/i=k) (λx=>∃i,(i=j\/i=k)/\A1 s i/\M9 (g i) x) _ h.fr (n7.refl I w) (c2A _) (λ_ _ h=>h) (λx hx=>hx) (λb n h=>.inl h) (c0J hgr (λi hi=>r8 hi) (by rw[d9]) (λb n cap e=>by rw[hgj] at e;cases e)) (λ_ _ _ _ _=>rfl) (λi hi o ho=>?_) (λi hi o ho=>?_) (λi1 i2 x hi1 hi2 hl1 hl2 hb1 hb2=>?_) hgr (by rw[c2K,c2K,G5];exact c2A _) (λi hi=>?_)⟩
 ·refine⟨r8 λe=>hi (.inl e),?_⟩
  rcases look i o ho with⟨h1,_⟩|⟨h1,_⟩|⟨_,_,h1⟩
  ·exact absurd (.inl h1) hi
  ·exact absurd (.inr h1) hi
  ·obtain⟨o0,h2,h3⟩:=a3d _ _ _ _ _ h1;refine⟨o0,h2,h3.imp id (Or.imp (λ⟨ks,a1,a2⟩=>⟨ks,_,a1,a2,λi hi=>c26 _ hi,λi _=>?_⟩) id)⟩
   by_cases e:i=j
   ·exact .inr (by rw[e];exact c27 ..)
   ·exact .inl (r8 e)
 ·rcases look i o ho with⟨rfl,rfl⟩|⟨rfl,rfl⟩|⟨h1,h2,_⟩
  ·refine⟨?_,λ_ x hx=>?_⟩
   ·obtain⟨A,n,cap,F,q1,q2⟩:=hobk;exact⟨A,n,cap,F,by rw[d9];exact q1,q2⟩
   ·rw[d9] at hx;exact .inl ⟨k,.inr rfl,lk,hx⟩
  ·exact⟨True.intro,λhd=>absurd rfl hd⟩
  ·rcases hi with hi|hi
   ·exact absurd hi h1
   ·exact absurd hi h2
 ·have cls:∀i,(i=j\/i=k)->(∃o,(((fO (mv1 j k) j s.o).set k .dead).set j (.it Pk))[i]?=some o/\o≠.dead)->i=j:=λi hi ⟨o,ho,hd⟩=>by
   rcases look i o ho with⟨h1,_⟩|⟨_,rfl⟩|⟨h1,h2,_⟩
   ·exact h1
   ·exact absurd rfl hd
   ·rcases hi with hi|hi
    ·exact hi
    ·exact absurd hi h2
  rw[cls i1 hi1 hl1,cls i2 hi2 hl2]
 ·rw[c2K,c2K,G5] at hi;rw[r8 (by omega)];exact h.out i hi
end
end
theorem b4w {b c:Nat} (h:Value.pointer (some ⟨b,0,none⟩)=.pointer (some ⟨c,0,none⟩)):b=c:=by
 injection h with h;injection h with h;injection h
theorem b0c {t n e:Nat} {ps:Array (Nat×Operand)} {dst:Option Nat} {s:S} {K:S->Prop} (l:List V) (he:(ty t).elem=some e) (hl:T4 s.get (places (ty e).sz (n+1) 0) ps.toList (a2x (A6 (ty e).zero) (n+1) [])=some l) (h1:a2u l=true) (hK:K ((s.obj (.box l)).put dst (.bs (j2 s.o) (n+1)))) :
  a7.ext (.buildSlice t (n+1) ps) dst s K:=by
 rintro I0 X w0 a w o Q ho hd hop ⟨I,g,h⟩
 subst hd;simp only[U9,c2B] at hop
 have hte:c8 e=true/\(n+1) * (ty e).sz<=16777216:=by
  have h2:=hop.2;rw[he] at h2;simp only[c2B] at h2;exact⟨h2.1,c3u h2.2⟩
 obtain⟨hke,hsz⟩:=hte;have ht:=hop.1.1;have hun:=E4 ht he;obtain⟨z,hz,hzc⟩:=a4x hke w;obtain⟨_,_,_,_,_,_,hzl,_⟩:=a0C hke;have hz0:=a6N (I:=I) (w:=w) (g:=g) (H0 (ty e).zero) (n+1) (.nil I w g);rw[c3b] at hz0
 have hpl:∀(m off i:Nat) (p:Nat×Nat),(places (ty e).sz m off)[i]?=some p->p=(off+i * (ty e).sz,(ty e).sz):=by
  intro m
  induction m with
  | zero=>intro off i p hp;simp[places] at hp
  | succ m ih =>
   intro off i p hp;cases i with
   | zero=>simp[places] at hp;rw[<-hp];simp
   | succ i =>
    have:=ih (off+(ty e).sz) i p (by simpa [places] using hp);rw[this,c3N];exact Prod.ext (by simp only;omega) rfl
 obtain⟨us',h1',h2⟩:=a49 h hz0 hl
 have hfill:∀(ps:List (Nat×Value)) (cs r:Array Value),Instr.fill (λi=>(places (ty e).sz (n+1) 0)[i]?) cs ps=some r->Instr.fill (λi=>some (i * (ty e).sz,(ty e).sz)) cs ps=some r:=by
  intro ps
  induction ps with
  | nil=>intro cs r hr;exact hr
  | cons p ps ih =>
   intro cs r hr;obtain⟨i,v⟩:=p;rw[Instr.fill] at hr ⊢;cases hp:(places (ty e).sz (n+1) 0)[i]? with
   | none=>rw[hp] at hr;cases hr
   | some q =>
    rw[hp] at hr;have:=hpl _ _ _ _ hp;rw[c3v] at this;subst this;simp only at hr ⊢
    split at hr
    ·cases hr
    ·rename_i hc;rw[c2H hc];exact ih _ _ hr
 have h3:=hfill _ _ _ h1'
 have hcell:((Array.range ((n+1) * (ty e).sz)).map λi=>((if (n+1) * (ty e).sz=0 then #[] else z.cells):Array Value)[i % ((if (n+1) * (ty e).sz=0 then #[] else z.cells):Array Value).size]!)=((List.replicate (n+1) (ty e).zero).flatten).toArray:=by
  apply c4j
  by_cases hs0:(n+1) * (ty e).sz=0
  ·have:(ty e).sz=0:=by rcases Nat.mul_eq_zero.1 hs0 with h|h <;> omega
   rw[this] at hzl;have hnil:(ty e).zero=[]:=c2M hzl;rw[hs0,hnil]
   simp
  ·rw[c2H hs0,hzc];have:=a3T (ty e).zero.toArray (n+1);simp only[c4t,hzl] at this
   simpa [hzl] using this
 have hrun:(Instr.buildSlice t (n+1) (ps.map λp=>(p.1,a.eval p.2))).run Tryd.prog w=.ok (.slice (some ⟨w.heap.size,0,none⟩) (n+1) (n+1)) (w.alloc (.cells us'.toArray e)):=by
  have hbig:¬(n+1) * (ty e).sz>16777216:=by omega
  have hsize:=H8 hke w
  by_cases hs0:(n+1) * (ty e).sz=0
  ·rw[c2E hs0] at hcell;simp only[Instr.buildSlice,Sem.run_bind,run_underlying hun,Result.andThen_ok,hsize,Sem.run_ite,Sem.run_pure];rw[c2H (by omega),c2E hs0];simp only[Result.andThen_ok,hcell,c4m,h3];rfl
  ·rw[c2H hs0] at hcell;simp only[Instr.buildSlice,Sem.run_bind,run_underlying hun,Result.andThen_ok,hsize,Sem.run_ite,Sem.run_pure];rw[c2H (by omega),c2H hs0];simp only[Sem.run_bind,hz,Result.andThen_ok,Sem.run_pure,hcell,c4m,h3];rfl
 unfold Oper.wp
 have hex:(execOp a.eval o).run Tryd.prog w=.ok (.value (.slice (some ⟨w.heap.size,0,none⟩) (n+1) (n+1))) (w.alloc (.cells us'.toArray e)):=by
  unfold execOp;rw[ho];simp only[Sem.run_bind,hrun,Result.andThen_ok,Sem.run_pure]
 rw[hex,Oper.upon_value];obtain⟨g',hg,h4⟩:=h.box h2 (a6l h2 h1) e;rw[<-m7] at hg;exact⟨_,⟨I,g',h4.put (.bs _ _ _ _ hg (c2A _)) _⟩,hK⟩
theorem b14 {t u n e j k:Nat} {x y:Operand} {dst:Option Nat} {s:S} {K:S->Prop} {cs:List V} {xs:List (List D)} (ds:List D) (ms:List Nat) (rows:List (List D)) (R:List (List D)) (he:(ty t).elem=some e) (hx:s.get x=.own k) (hk:m5 s.o k=.it (i7 true e xs)) (hy:s.get y=.bs j (n+1)) (hj:m5 s.o j=.box cs)
  (hlen:B8 (m9 cs) ((n+1) * (ty e).sz)=true) (hcl:a1i s.o e cs ds ms) (hch:a0R (ty e).sz (n+1) ds=some rows) (hms:a22 (k::ms)=true) (hroom:xs.length+(n+1)<=137438953472) (hR:xs++rows=R)
  (hK:K (S.put ⟨fT (sw1 k .jk) s.t,A2 (a09 (j::ms) (fO (sw1 k .jk) k s.o)) k (.it (i7 true e R))⟩ dst (.own k))):a7.ext (.call ⟨.builtin .append,⟨[x,y]⟩,⟨[t,u]⟩⟩) dst s K:=by
 rintro I0 X w0 a w o Q ho hd hop ⟨I,g,h⟩
 subst hd;simp only[U9,c2B] at hop;obtain⟨⟨⟨ht,hte⟩,htu⟩,hpos⟩:=hop;obtain rfl:=w8.1 htu;rw[he] at hpos;simp only[c32] at hpos;have hke:=a0Y hte e he;have hun:=E4 ht he;obtain⟨i,z,hi,his,hiz,hzc,hzl,hby⟩:=a0C hke;have hzs:z.cells.size=(ty e).sz:=by rw[hzc];simp[hzl]
 have hk:=j1 hk (by simp);have hj:=j1 hj (by simp);obtain⟨hf1,hf2,hf3⟩:=a15 hch;have hlen2:cs.length=(n+1) * (ty e).sz:=by rw[<-x7];exact w8.1 hlen
 obtain⟨hkms,hmsn⟩:=c34.1 (a0J hms);obtain⟨b,us,tt,hg,hb,hus,h1s,hIb,hMb⟩:=h.obj j _ hj;obtain⟨A,m,cap,F1,hgk,⟨nd1,hat1,hz1⟩,hst1,hF1⟩:=h.obj k _ hk;obtain⟨us0,hown⟩:=hz1 rfl;obtain⟨F2,hat2,hn2,hF2⟩:=a1J h hus hcl hmsn;have lj:A1 s j:=⟨_,hj,by simp⟩;have lk:A1 s k:=⟨_,hk,by simp⟩;have kj:k≠j:=λe=>by rw[e,hj] at hk;cases hk
 have mit:∀m∈ms,m≠j:=λm hm e=>by
  obtain⟨z,r,ho⟩:=Z7 hcl m hm;have ho:=j1 ho (by simp);rw[e,hj] at ho;cases ho
 have hgF1:∀c,M9 (g k) c↔c∈F1:=λc=>by rw[hgk,z8]
 have disF:∀c,c∈F1->c∈F2->False:=λc h1 h2=>by
  obtain⟨m',hm',hl',hb'⟩:=hF2 c h2;exact hkms (h.dis k m' c lk hl' ((hgF1 c).2 h1) hb' ▸ hm')
 have ltF2:∀c∈F2,c<w.heap.size:=λc hc=>by
  obtain⟨c1,t1,hc1⟩:=hat2.cells c hc;exact(c2I.1 hc1).1
 have ltF1:∀c∈F1,c<w.heap.size:=λc hc=>by
  obtain⟨⟨c1,t1,hc1⟩,_⟩:=hF1 c hc;exact(c2I.1 hc1).1
 obtain⟨F11,hat11,hF11⟩:∃F11,AtTs w e F11 us0 xs.flatten/\((F1=F11/\(Value.slice A m cap).ownBlock=none)\/∃b1,F1=b1::F11/\(Value.slice A m cap).ownBlock=some b1):=by
  rcases hat1.top with⟨h0,hv,hF⟩|⟨b1,cap1,vs,cur,t1,F11,hne,hv,hF,hcap1,hb1,hl1,hc1,hr1,hat⟩
  ·subst h0;have:us0=[]:=c2M (by rw[hown.1];simp);subst this;exact⟨[],.nil,.inl ⟨hF,by rw[hv];rfl⟩⟩
  ·rcases hown.2 with⟨e0,hz⟩|⟨b2,cap2,cur2,e2,_,hh,_,_,_,htk⟩
   ·rw[hv] at e0;cases e0
   ·rw[hv] at e2;injection e2 with e2 _ _;injection e2 with e2;injection e2 with e2;subst e2;rw[hb1] at hh;injection hh with hh;injection hh with hh;subst hh;rw[hc1] at htk;subst htk;exact⟨F11,hat,.inr ⟨b1,hF,by rw[hv];rfl⟩⟩
 have subF:∀c∈F11,c∈F1:=λc hc=>by
  rcases hF11 with⟨e1,_⟩|⟨b1,e1,_⟩
  ·rw[e1];exact hc
  ·rw[e1];exact c26 _ hc
 have nd11:F11.Nodup:=by
  rcases hF11 with⟨e1,_⟩|⟨b1,e1,_⟩
  ·rw[<-e1];exact nd1
  ·rw[e1] at nd1;exact(c34.1 nd1).2
 have ownF:∀c,(Value.slice A m cap).ownBlock=some c->c∈F1/\c∉F11:=λc hc=>by
  rcases hF11 with⟨e1,e2⟩|⟨b1,e1,e2⟩
  ·rw[e2] at hc;cases hc
  ·rw[e2] at hc;injection hc with hc;subst hc;rw[e1] at nd1 ⊢;exact⟨c27 ..,(c34.1 nd1).1⟩
 have hxv:a.eval x=.slice A m cap:=by
  have h1:=h.get x;rw[hx] at h1;rw[h1.unown.1,hgk];rfl
 obtain⟨b',capy,hgb,hyv,hcapy⟩:∃b' c',g j=.pointer (some ⟨b',0,none⟩)/\a.eval y=.slice (some ⟨b',0,none⟩) (n+1) c'/\n+1<=c':=by
  have h1:=h.get y;rw[hy] at h1;exact h1.unbs
 have e1:b'=b:=b4w (hgb.symm.trans hg);subst e1
 have hsrc:b6e w (some ⟨b',0,none⟩) (n+1) (ty e).sz us:=⟨by rw[hus.1,hlen2],by simp,λad had q v hq=>by
  have h9:=Option.some.inj had;rw[<-h9,Addr.add_lit];rw[cell_of_row w b' (0+q) (us++tt.2).toArray tt.1 (0,0) hb];have hlt:=(c25.1 hq).1;simp only[c3W,c3v];rw[c2R hlt]
  exact hq,h1s⟩
 have hr0:xs.length+(n+1)<=maxLen/\(xs.length+(n+1)) * i.bytes<=140737488355328:=by
  refine⟨by unfold maxLen;omega,?_⟩
  have h1:(xs.length+(n+1)) * i.bytes<=137438953472 * 1024:=Nat.mul_le_mul hroom hby
  omega
 obtain⟨v',w',hrun,hown',hsp⟩:∃v' w',(Builtin.append_ #[t,t] o.type #[.slice A m cap,.slice (some ⟨b',0,none⟩) (n+1) capy]).run Tryd.prog w=.ok v' w'/\w'.ownsRow 0 e (ty e).sz v' (xs.length+(n+1)) (us0++us) /\
   ((∃g,(Value.slice A m cap).ownBlock=some g/\v'.ownBlock=some g/\w.grownBy w' (some g))\/(Below w.heap.size w w'/\(v'.ownBlock=none\/v'.ownBlock=some w.heap.size))):=by
  clear hroom;generalize n+1=nn at *;exact Y4 (P:=Tryd.prog) w 0 t o.type e i z (ty e).sz i.bytes hun hi hiz his rfl hzs hpos (.slice A m cap) xs.length us0 hown (some ⟨b',0,none⟩) nn capy us hsrc hr0.1 hr0.2 (c3d _)
 have hsz:w.heap.size<=w'.heap.size:=by
  rcases hsp with⟨_,_,_,h3⟩|⟨h3,_⟩
  ·exact h3.size
  ·exact h3.size
 have hother:∀c,c<w.heap.size->(Value.slice A m cap).ownBlock≠some c->w'.heap[c]?=w.heap[c]?:=λc hc hne=>by
  rcases hsp with⟨d,h1,_,h3⟩|⟨h3,_⟩
  ·exact h3.block c hc (λe=>hne (by rw[h1,<-e]))
  ·exact h3.block c hc
 obtain⟨bn,capn,curn,hv',_,hbn,hncn,_,hcsn,htkn⟩:∃bn capn curn,v'=.slice (some ⟨bn,0,none⟩) (xs.length+(n+1)) capn/\0<=bn/\w'.heap[bn]?=some (.cells curn e (0,0))/\xs.length+(n+1)<=capn/\capn<=maxLen/\curn.size=capn * (ty e).sz/\curn.toList.take ((xs.length+(n+1)) * (ty e).sz)=us0++us:=by
  rcases hown'.2 with⟨_,e2⟩|h1
  ·omega
  ·exact h1
 have hbn2:(Value.slice A m cap).ownBlock=some bn\/bn=w.heap.size:=by
  rcases hsp with⟨c,h1,h2,_⟩|⟨_,h2|h2⟩
  ·rw[hv'] at h2;exact .inl (by rw[h1];exact h2.symm)
  ·rw[hv'] at h2;cases h2
  ·rw[hv'] at h2;exact .inr (Option.some.inj h2)
 have same1:∀c∈F11,w'.heap[c]?=w.heap[c]?:=λc hc=>hother c (ltF1 c (subF c hc)) λe=>(ownF c e).2 hc
 have same2:∀c∈F2,w'.heap[c]?=w.heap[c]?:=λc hc=>hother c (ltF2 c hc) λe=>disF c (ownF c e).1 hc
 have hRl:(xs++rows).length=xs.length+(n+1):=by rw[c29,hf2]
 have htree:AtTs w' e (bn::((F11++F2)++[])) [.slice (some ⟨bn,0,none⟩) (xs++rows).length capn] [.sl (ty e).sz (xs++rows)]:=by
  refine .sl bn capn (xs++rows) (us0++us) curn e (F11++F2) [] [] [] (λe=>by rw[e] at hRl;simp at hRl) (by omega) hbn ?_ (by rw[hRl];exact htkn) (λr hr=>?_) ?_ .nil
  ·rw[hRl,hown'.1]
  ·rcases c2W.1 hr with hr|hr
   ·rcases hat1.top with⟨h0,_⟩|⟨_,_,_,_,_,_,_,_,_,_,_,_,_,hr1,_⟩
    ·rw[h0] at hr;simp at hr
    ·exact hr1 r hr
   ·exact hf3 r hr
  ·rw[c4k,hf1];exact(hat11.keep same1).app (hat2.keep same2)
 rw[c3b,hRl,hR] at htree
 have hndn:(bn::(F11++F2)).Nodup:=by
  refine c34.2 ⟨λhm=>?_,c4u.2 ⟨nd11,hn2,λc hc c' hc' e=>disF c (subF c hc) (e ▸ hc')⟩⟩
  rcases hbn2 with h1|h1
  ·rcases c2W.1 hm with hm|hm
   ·exact(ownF bn h1).2 hm
   ·exact disF bn (ownF bn h1).1 hm
  ·rcases c2W.1 hm with hm|hm
   ·have:=ltF1 bn (subF bn hm);omega
   ·have:=ltF2 bn hm;omega
 have hRl2:R.length=xs.length+(n+1):=by rw[<-hR,hRl]
 have hP:i7 true e R w' (.slice (some ⟨bn,0,none⟩) (xs.length+(n+1)) capn) (bn::(F11++F2)):=⟨hndn,htree,λ_=>⟨us0++us,by rw[hRl2,<-hv'];exact hown'⟩⟩;obtain⟨gn,hgn0⟩:∃gn,gn=W6 (.slice (some ⟨bn,0,none⟩) (xs.length+(n+1)) capn) (bn::(F11++F2)):=⟨_,rfl⟩;have hgn:∀q,q≠k->g q≠.nilFunc->upd g k gn q=g q:=λq hq _=>r8 hq
 have hgr:∀q,H6 (g q)=true->upd g k gn q=g q:=λq hr=>r8 λe=>by rw[e,hgk] at hr;cases hr
 have hkp:n7 I w w':=λc h' hi q hq=>by
  have hc:=(h.lt c h' hi).1;exact a26 (hother c hc λe=>(hF1 c (ownF c e).1).2.1 h' hi) q
 have hfr:Fr X w0.w w':=by
  have hos:w'.os=w.os/\w'.tape=w.tape/\w'.output=w.output:=by
   rcases hsp with⟨_,_,_,h3⟩|⟨h3,_⟩
   ·exact⟨h3.os,h3.tape,h3.output⟩
   ·exact⟨h3.os,h3.tape,h3.output⟩
  refine⟨hos.1.trans h.fr.os,hos.2.1.trans h.fr.tape,hos.2.2.trans h.fr.output,c3E h.fr.size hsz,λc hc hX=>?_⟩;rw[hother c (c3y hc h.fr.size) λe=>?_]
  ·exact h.fr.block c hc hX
  ·rcases (hF1 c (ownF c e).1).2.2 with h1|h1
   ·omega
   ·exact hX h1
 have hltk:=(c25.1 hk).1;have dl:(a09 (j::ms) (fO (sw1 k .jk) k s.o)).length=s.o.length:=by rw[a5F,G5]
 have look:∀q ob,((a09 (j::ms) (fO (sw1 k .jk) k s.o)).set k (.it (i7 true e R)))[q]?=some ob->(q=k/\ob=.it (i7 true e R))\/(q≠k/\q∈j::ms/\ob=.dead)\/(q≠k/\q∉j::ms/\(fO (sw1 k .jk) k s.o)[q]?=some ob):=λq ob ho=>by
  by_cases e2:k=q
  ·subst e2;rw[c2S (by rw[dl];exact hltk)] at ho;exact .inl ⟨rfl,(Option.some.inj ho).symm⟩
  ·rw[c2L e2] at ho
   rcases a5G _ _ _ _ ho with⟨h1,h2⟩|⟨h1,h2⟩
   ·exact .inr (.inr ⟨c3P e2,h1,h2⟩)
   ·exact .inr (.inl ⟨c3P e2,h1,h2⟩)
 have inF:∀c,c∈bn::(F11++F2)->(∃q,(q=k\/q∈j::ms)/\A1 s q/\M9 (g q) c)\/w.heap.size<=c:=λc hc=>by
  have key:c∈F1->∃q,(q=k\/q∈j::ms)/\A1 s q/\M9 (g q) c:=λhc=>⟨k,.inl rfl,lk,(hgF1 c).2 hc⟩
  rcases c2C.1 hc with rfl|hc
  ·rcases hbn2 with h1|h1
   ·exact .inl (key (ownF _ h1).1)
   ·exact .inr (by omega)
  ·rcases c2W.1 hc with hc|hc
   ·exact .inl (key (subF c hc))
   ·obtain⟨m',h1,h2,h3⟩:=hF2 c hc;exact .inl ⟨m',.inr (c26 _ h1),h2,h3⟩
 have hrel:RelI I0 X w0 I (upd g k gn) ⟨fT (sw1 k .jk) s.t,(a09 (j::ms) (fO (sw1 k .jk) k s.o)).set k (.it (i7 true e R))⟩ a w':=by
  refine h.trade (sw1 k .jk) (λq=>q=k\/q∈j::ms) (λc=>∃q,(q=k\/q∈j::ms)/\A1 s q/\M9 (g q) c) _ hfr hkp hsz (λ_ _ h=>h) (λc hc=>hc) (λb n h=>.inl h) (a5H (λ_ _ h=>h) hkp hgn hgr (λv _ _=>.jk v) (λb n cap e=>by rw[hgk] at e;cases e)) (λq hq hl c hc=>?_) (λq hq ob ho=>?_) (λq hq ob ho=>?_) (λi1 i2 c hi1 hi2 hl1 hl2 hb1 hb2=>?_) hgr (by rw[c2K,dl];exact c2A _) (λq hq=>?_)
  ·refine hother c (h.blk_lt hl hc) λe=>hq (.inl ?_)
   exact h.dis q k c hl lk hc ((hgF1 c).2 (ownF c e).1)
  ·refine⟨r8 λe=>hq (.inl e),?_⟩
   rcases look q ob ho with⟨h1,_⟩|⟨_,h1,_⟩|⟨_,_,h1⟩
   ·exact absurd (.inl h1) hq
   ·exact absurd (.inr h1) hq
   ·obtain⟨o0,h2,h3⟩:=a3d _ _ _ _ _ h1;refine⟨o0,h2,h3.imp id (Or.imp (λ⟨ks,a1,a2⟩=>⟨ks,_,a1,a2,λi hi=>c26 _ hi,λi _=>?_⟩) id)⟩
    by_cases e:i=k
    ·exact .inr (by rw[e];exact c27 ..)
    ·exact .inl (r8 e)
  ·rcases look q ob ho with⟨rfl,rfl⟩|⟨_,_,rfl⟩|⟨h1,h2,_⟩
   ·refine⟨⟨some ⟨bn,0,none⟩,xs.length+(n+1),capn,bn::(F11++F2),by rw[d9,hgn0],hP,λw2 hw=>hP.keep hw,λc hc=>?_⟩,λ_ c hc=>?_⟩
    ·obtain⟨cc,t1,hcc⟩:=htree.cells c hc;refine⟨⟨cc,t1,hcc⟩,?_⟩;have key:c∈F1->(∀h',¬I c h')/\a12 X w0 c:=λhc=>(hF1 c hc).2
     rcases c2C.1 hc with rfl|hc
     ·rcases hbn2 with h1|h1
      ·exact key (ownF _ h1).1
      ·exact⟨λh' hi=>by have:=(h.lt _ h' hi).1;omega,.inl (by have:=h.fr.size;omega)⟩
     ·rcases c2W.1 hc with hc|hc
      ·exact key (subF c hc)
      ·obtain⟨m',h1,h2,h3⟩:=hF2 c hc;obtain⟨zz,r,ho⟩:=Z7 hcl m' h1;have ho:=j1 ho (by simp);obtain⟨A',n',cap',F,q1,_,_,q4⟩:=h.obj m' _ ho;rw[q1,z8] at h3;exact(q4 c h3).2
    ·rw[d9,hgn0,z8] at hc;exact inF c hc
   ·exact⟨True.intro,λhd=>absurd rfl hd⟩
   ·rcases hq with hq|hq
    ·exact absurd hq h1
    ·exact absurd hq h2
  ·have cls:∀q,(q=k\/q∈j::ms)->(∃ob,((a09 (j::ms) (fO (sw1 k .jk) k s.o)).set k (.it (i7 true e R)))[q]?=some ob/\ob≠.dead)->q=k:=λq hq ⟨ob,ho,hd⟩=>by
    rcases look q ob ho with⟨h1,_⟩|⟨_,_,rfl⟩|⟨h1,h2,_⟩
    ·exact h1
    ·exact absurd rfl hd
    ·rcases hq with hq|hq
     ·exact hq
     ·exact absurd hq h2
   rw[cls i1 hi1 hl1,cls i2 hi2 hl2]
  ·rw[c2K,dl] at hq;rw[r8 (by omega)];exact h.out q hq
 unfold Oper.wp
 have hexec:(execOp a.eval o).run Tryd.prog w=.ok (.value v') w':=by
  unfold execOp;rw[ho];simp only[resolve,invoke,builtin,Sem.run_bind,Sem.run_pure,Result.andThen_ok,List.map_toArray,c2Y,c4d,hxv,hyv,hrun]
 rw[hexec,Oper.upon_value];rw[x5] at hK;refine⟨_,⟨_,_,hrel.put (x:=.own k) ?_ _⟩,hK⟩;rw[hv'];exact .own _ _ _ _ (by rw[d9,hgn0];rfl)
section
def b0d:List (List D)->List D
 | []=>[]
 | r::l=>catD r (b0d l)
where
 catD:List D->List D->List D
  | [],m=>m
  | x::l,m=>x::catD l m
theorem b4x:∀l:List (List D),b0d l=l.flatten
 | []=>rfl
 | r::l=>by
  have h:∀r m:List D,b0d.catD r m=r++m:=by
   intro r m
   induction r with
   | nil=>rfl
   | cons x r ih=>rw[b0d.catD,ih];rfl
  rw[b0d,h,b4x l];simp
theorem v7.melt {s:S} {k e:Nat} {z:Bool} {rows:List (List D)} (hk:m5 s.o k=.it (i7 z e rows)):v7 s ⟨fT (sw1 k (.d (.sl (ty e).sz rows))) s.t,A2 (fO (sw1 k (.d (.sl (ty e).sz rows))) k s.o) k .dead⟩:=by
 rintro I0 X w0 a w ⟨I,g,h⟩
 rw[x5];exact h.melt (j1 hk (by simp))
theorem v7.openT {s:S} {k e:Nat} {z:Bool} {rows:List (List D)} (hk:m5 s.o k=.it (i7 z e rows)) (hne:rows≠[]):v7 s ⟨fT (sw1 k (.bs (j2 s.o) (m9 rows))) s.t,b4P (A2 (fO (sw1 k (.bs (j2 s.o) (m9 rows))) k s.o) k (.it (i7 true e []))) (.box (a7E (j2 s.o+1) (b0d rows))::a2l e (b0d rows))⟩:=by
 rintro I0 X w0 a w ⟨I,g,h⟩
 rw[x5,a41,m7,x7,b4x];exact h.opened (j1 hk (by simp)) hne
theorem v7.closeT {s:S} {p c j k n e:Nat} {bs cs:List V} {ds:List D} {ms:List Nat} {rows:List (List D)} {P:World->Value->List Nat->Prop} (hp:m5 s.o p=.box bs) (hcell:m8 bs c=.bs j (n+1)) (hj:m5 s.o j=.box cs) (hk:m5 s.o k=.it P) (hpj:B8 p j=false) (hlen:B8 (m9 cs) ((n+1) * (ty e).sz)=true) (hcl:a1i s.o e cs ds ms) (hch:a0R (ty e).sz (n+1) ds=some rows) (hms:a22 ms=true) :
  v7 s ⟨fT (sw1 k .jk) s.t,A2 (A2 (a09 (j::ms) (fO (sw1 k .jk) k s.o)) k (.it (i7 false e rows))) p (.box (G7 (fL (sw1 k .jk) bs) c (.own k)))⟩:=by
 rintro I0 X w0 a w ⟨I,g,h⟩
 rw[x5,x5,N7];obtain⟨h1,h2,h3⟩:=a15 hch;exact h.closed (j1 hp (by simp)) (Q0 hcell (by simp)) (j1 hj (by simp)) (j1 hk (by simp)) (Y0.1 hpj) (by rw[<-x7];exact w8.1 hlen) hcl h1 h2 h3 (Nat.succ_pos _) (a0J hms)
theorem v7.moveT {s:S} {j k:Nat} {Pj Pk:World->Value->List Nat->Prop} (hj:m5 s.o j=.it Pj) (hk:m5 s.o k=.it Pk) (hjk:B8 j k=false):v7 s ⟨fT (mv1 j k) s.t,A2 (A2 (fO (mv1 j k) j s.o) k .dead) j (.it Pk)⟩:=by
 rintro I0 X w0 a w ⟨I,g,h⟩
 rw[x5,x5];exact h.moved (j1 hj (by simp)) (j1 hk (by simp)) (Y0.1 hjk)
theorem v7.newT (s:S) (i e:Nat) (hi:m8 s.t i=.em):v7 s ⟨G7 s.t i (.own (j2 s.o)),o6 s.o (.it (i7 true e []))⟩:=by
 rintro I0 X w0 a w ⟨I,g,h⟩
 have h2:=h.newObj (.it (i7 true e [])) (W6 (.slice none 0 0) []) ⟨none,0,0,[],by rw[d9],i7.nil w true e,λw' _=>i7.nil w' true e,by simp⟩ (λj b _ _ hb=>by rw[z8] at hb;simp at hb);refine⟨I,upd g s.o.length (W6 (.slice none 0 0) []),?_⟩;have h3:RelI I0 X w0 I (upd g s.o.length (W6 (.slice none 0 0) [])) ⟨s.t,o6 s.o (.it (i7 true e []))⟩ a w:=h2;refine h3.reread λv hv=>?_
 have hs:=Q0 hi (by simp);have h4:=h.tmp.2 i v _ hv hs;rw[h4.unem];exact .own _ _ _ _ (by rw[m7,d9];rfl)
section
variable {I0:Nat->Nat->Prop} {X:Nat->Prop} {w0:W0} {I:Nat->Nat->Prop} {g:Nat->Value} {s:S} {a:Act} {w:World}
theorem RelI.emV (h:RelI I0 X w0 I g s a w) {k e:Nat} {z:Bool} (hk:s.o[k]?=some (.it (i7 z e []))):gv (g k)=.slice none 0 0:=by
 obtain⟨A,n,cap,F,hg,⟨_,hat,_⟩,_⟩:=h.obj k _ hk;rw[hg]
 rcases hat.top with⟨_,hv,_⟩|⟨_,_,_,_,_,_,h0,_⟩
 ·exact hv
 ·exact absurd rfl h0
theorem RelI.weakT (h:RelI I0 X w0 I g s a w) {k:Nat} {P P':World->Value->List Nat->Prop} (hk:s.o[k]?=some (.it P)) (hP:∀w v F,P w v F->P' w v F):RelI I0 X w0 I g ⟨s.t,s.o.set k (.it P')⟩ a w:=by
 have hlt:=(c25.1 hk).1;refine⟨h.im,h.lt,h.fr,h.kp,by simp only[c2K];exact h.lo,h.st,λi o ho=>?_,λi j b hi hj=>h.dis i j b (N2 hk (by simp) hi) (N2 hk (by simp) hj),λi hi=>h.out i (by simpa using hi),h.tmp,h.dfr⟩
 by_cases hik:k=i
 ·subst hik;simp only[c2S hlt] at ho;cases ho;obtain⟨A,n,cap,F,h1,h2,h3,h4⟩:=h.obj k _ hk;exact⟨A,n,cap,F,h1,hP _ _ _ h2,λw' hw=>hP _ _ _ (h3 w' hw),h4⟩
 ·simp only[c2L hik] at ho;exact h.obj i o ho
end
theorem v7.weakT {s:S} {k e:Nat} {z:Bool} {rows:List (List D)} (hk:m5 s.o k=.it (i7 z e rows)):v7 s ⟨s.t,A2 s.o k (.it (i7 false e rows))⟩:=by
 rintro I0 X w0 a w ⟨I,g,h⟩
 rw[x5];exact⟨I,g,h.weakT (j1 hk (by simp)) λw v F ⟨h1,h2,_⟩=>⟨h1,h2,by simp⟩⟩
theorem v7.emT {s:S} {k e:Nat} {z:Bool} (hk:m5 s.o k=.it (i7 z e [])):v7 s ⟨fT (sw1 k .em) s.t,fO (sw1 k .em) k s.o⟩:=by
 rintro I0 X w0 a w ⟨I,g,h⟩
 have hv:=h.emV (j1 hk (by simp));refine⟨I,g,h.trade (sw1 k .em) (λ_=>False) (λ_=>False) _ h.fr (n7.refl I w) (c2A _) (λ_ _ h=>h) (λ_ hb=>hb.elim) (λb n h=>.inl h) (a5H (λ_ _ h=>h) (n7.refl I w) (λ_ _ _=>rfl) (λ_ _=>rfl) (λv hv2 _=>by rw[hv2,hv];exact .em) (λ_ _ _ _=>rfl)) (λ_ _ _ _ _=>rfl) (λj hj o ho=>⟨rfl,?_⟩) (λj hj=>hj.elim) (λi j b hi=>hi.elim) (λ_ _=>rfl) (by rw[G5];exact c2A _) (λj hj=>h.out j (by rw[G5] at hj;exact hj))⟩;obtain⟨o0,h1,h2⟩:=a3d _ _ _ _ _ ho;exact⟨o0,h1,h2.imp id (Or.imp (λ⟨ks,a1,a2⟩=>⟨ks,_,a1,a2,λi hi=>c26 _ hi,λi _=>.inl rfl⟩) id)⟩
theorem v7.cellT {s:S} {p c k e:Nat} {z:Bool} {bs:List V} (hp:m5 s.o p=.box bs) (hc:m8 bs c=.em) (hk:m5 s.o k=.it (i7 z e [])):v7 s ⟨s.t,A2 s.o p (.box (G7 bs c (.own k)))⟩:=by
 rintro I0 X w0 a w ⟨I,g,h⟩
 have hv:=h.emV (j1 hk (by simp));rw[x5,N7];refine⟨I,g,h.rebox (j1 hp (by simp)) λus hus=>hus.reset λv hv2=>?_⟩;rw[(hus.2 c v _ hv2 (Q0 hc (by simp))).unem];exact .own k _ _ _ hv
section
variable {qa:_} {qb:_} {qc:_} {qd:_} {qe:_} {qf:_} {qg:_} {qh:_} {qi:_} {qj:_} {qk:_} {ql:_} {qm:_} {qo:_} {qp:_} {qq:_} {qs:_} {qt:_} {qu:_} {qv:_} {qw:_} {qx:_} {qy:_} {qz:_} {va:_} {vc:_} {vd:_} {ve:_} {vf:_} {vg:_} {vh:_} {vj:_} {vk:_} {vl:_} {vp:_} {vq:_} {vr:_} {vt:_} {vu:_} {vv:_} {vw:_} {vx:_} {vy:_} (hA:Ar.mk qa qb qc qd qe qf qg qh qi qj qk ql qm qo qp qq qs qt qu qv qw qx qy qz va vc vd ve vf vg vh vj vk vl vp vq vr vt vu vv vw vx vy=a7)
include hA
theorem b4y {N:S->Prop} {s:S} (k:Nat) {e:Nat} {z:Bool} {rows:List (List D)} (hk:m5 s.o k=.it (i7 z e rows)) (h:N ⟨fT (sw1 k (.d (.sl (ty e).sz rows))) s.t,A2 (fO (sw1 k (.d (.sl (ty e).sz rows))) k s.o) k .dead⟩):vv N s:=A4 hA _ (v7.melt hk) h
theorem a2h {N:S->Prop} {s:S} (k:Nat) {e:Nat} {z:Bool} {rows:List (List D)} (hk:m5 s.o k=.it (i7 z e rows)) (hne:rows≠[]) (h:N ⟨fT (sw1 k (.bs (j2 s.o) (m9 rows))) s.t,b4P (A2 (fO (sw1 k (.bs (j2 s.o) (m9 rows))) k s.o) k (.it (i7 true e []))) (.box (a7E (j2 s.o+1) (b0d rows))::a2l e (b0d rows))⟩):vv N s:=A4 hA _ (v7.openT hk hne) h
theorem a3e {N:S->Prop} {s:S} (p c j k:Nat) {n e:Nat} {bs cs:List V} (ds:List D) (ms:List Nat) (rows:List (List D)) {P:World->Value->List Nat->Prop} (hp:m5 s.o p=.box bs) (hcell:m8 bs c=.bs j (n+1)) (hj:m5 s.o j=.box cs) (hk:m5 s.o k=.it P) (hpj:B8 p j=false) (hlen:B8 (m9 cs) ((n+1) * (ty e).sz)=true) (hcl:a1i s.o e cs ds ms) (hch:a0R (ty e).sz (n+1) ds=some rows) (hms:a22 ms=true)
  (h:N ⟨fT (sw1 k .jk) s.t,A2 (A2 (a09 (j::ms) (fO (sw1 k .jk) k s.o)) k (.it (i7 false e rows))) p (.box (G7 (fL (sw1 k .jk) bs) c (.own k)))⟩):vv N s:=A4 hA _ (v7.closeT hp hcell hj hk hpj hlen hcl hch hms) h
theorem a7F {N:S->Prop} {s:S} (j k:Nat) {Pj Pk:World->Value->List Nat->Prop} (hj:m5 s.o j=.it Pj) (hk:m5 s.o k=.it Pk) (hjk:B8 j k=false) (h:N ⟨fT (mv1 j k) s.t,A2 (A2 (fO (mv1 j k) j s.o) k .dead) j (.it Pk)⟩):vv N s:=A4 hA _ (v7.moveT hj hk hjk) h
theorem b4z {N:S->Prop} {s:S} (i e:Nat) (hi:m8 s.t i=.em) (h:N ⟨G7 s.t i (.own (j2 s.o)),o6 s.o (.it (i7 true e []))⟩):vv N s:=A4 hA _ (v7.newT s i e hi) h
theorem a0v {N:S->Prop} {s:S} (k:Nat) {e:Nat} {z:Bool} {rows:List (List D)} (hk:m5 s.o k=.it (i7 z e rows)) (h:N ⟨s.t,A2 s.o k (.it (i7 false e rows))⟩):vv N s:=A4 hA _ (v7.weakT hk) h
theorem b0e {N:S->Prop} {s:S} (k:Nat) {e:Nat} {z:Bool} (hk:m5 s.o k=.it (i7 z e [])) (h:N ⟨fT (sw1 k .em) s.t,fO (sw1 k .em) k s.o⟩):vv N s:=A4 hA _ (v7.emT hk) h
theorem a5a {N:S->Prop} {s:S} (p c k:Nat) {e:Nat} {z:Bool} {bs:List V} (hp:m5 s.o p=.box bs) (hc:m8 bs c=.em) (hk:m5 s.o k=.it (i7 z e [])) (h:N ⟨s.t,A2 s.o p (.box (G7 bs c (.own k)))⟩):vv N s:=A4 hA _ (v7.cellT hp hc hk) h
end
end
def oT (op nm n:Value) (k:Nat):V:=.ag [.d (.sc op),.d (.sc nm),.d (.sc n),.own k]
def a05 (op nm n:Value) (K:List (List D)) (res:List V) (os:List O):Prop:=res=[oT op nm n 0]/\∃z,os=[.it (i7 z 25 K)]
def a8p (t:Ty):List V->List O->Prop:=a05 (.int .u8 t.op) (.string t.name) (.int .i64 t.n) (rT t.kids)
theorem a8V:∀(m:Nat) (t:Ty),t.parts.length<=m->m<=1048576->j3 69 [.ag (ofD (cT t))] [] (a8p t):=by
 intro m
 induction m with
 | zero=>intro t h;have:=l6 t;omega
 | succ m ih =>
  intro t hm hm2;have hkl:=o7 t;obtain⟨op,nm,n,ks⟩:=t;simp only[Ty.kids] at hkl ih;rw[cT];show j3 _ _ _ (a05 (.int .u8 op) (.string nm) (.int .i64 n) (rT ks));obtain⟨K,hK⟩:∃K,K=rT ks:=⟨_,rfl⟩;rw[<-hK];refine so9 Tryd.func69 rfl ?_;intro qa qb _ _ _ _ _ qh _ _ _ _ _ _ _ _ _ _ _ _ _ _ qy qz _ vc;intros;rename_i hA;cbv
  with_reducible apply b5 hA
  cbv;refine b4z hA 3 25 rfl ?_;cbv
  repeat ((with_reducible apply b5 hA);cbv)
  obtain⟨e1,e2,e3,e4,e5,e6,e7,e8,e9⟩:=j8 hA;obtain⟨r1,r2,r3,r4⟩:=n9 hA;refine l9 hA (γ:=Int×List (List D)) (λx=>[(9,vi .i64 x.1),(3,.own 2),(13,.jk),(14,.jk),(15,.jk),(16,.jk),(17,.jk)]) (λx=>[(2,.it (i7 true 25 x.2))]) (λx=>∃k:Nat,x.1=(k:Int)/\k<=ks.length/\x.2=rT (ks.take k)) (λx=>ks.length - x.1.toNat) (0,[]) ?_ ?_ ?_
  ·exact⟨0,rfl,c3d _,rfl⟩
  ·cbv
  ·intro x hinv;obtain⟨z,L⟩:=x;cbv
   repeat ((with_reducible apply b5 hA);cbv)
   obtain⟨k,hz,hk,hE⟩:=hinv;have hz:z=(k:Int):=hz;replace hE:L=rT (ks.take k):=hE;have hlen:qy K=(ks.length:Int):=by rw[r1,hK,E8]
   have hlt:qh z (qy K)=decide (k<ks.length):=by rw[e7,hlen,hz];exact c2Q.2 (by omega)
   by_cases h9:k<ks.length
   ·rw[c2J h9] at hlt;obtain⟨x,hx⟩:∃x,ks[k]?=some x:=⟨_,c28 h9⟩;have g1:qz K z=some (cT x):=by rw[r2,hz,c2E (by omega),hK];exact a04 hx
    have hsp:=ih x (by have:=hkl.2 x (c2F hx);omega) (by omega);have hsn:=a6v hx;obtain⟨o1,m1,n1,l1⟩:=x;rw[cT] at g1 hsp hsn;replace hsp:j3 69 _ _ (a05 (.int .u8 o1) (.string m1) (.int .i64 n1) (rT l1)):=hsp;generalize rT l1=L1 at *;rw[hlt];cbv
    repeat ((with_reducible apply b5 hA);cbv)
    rw[g1];cbv
    repeat ((with_reducible apply b5 hA);cbv)
    refine c7 hA [] hsp ⟨rfl,rfl,rfl,rfl,rfl,rfl,rfl⟩ ?_
    rintro res os2 ⟨rfl,zz,rfl⟩
    cbv;refine a7s hA (b0c [.d (.sc (.int .u8 o1)),.d (.sc (.string m1)),.d (.sc (.int .i64 n1)),.own 4] rfl rfl rfl ?_);cbv;refine a7s hA (b14 [.sc (.int .u8 o1),.sc (.string m1),.sc (.int .i64 n1),.sl 4 L1] [4] [[.sc (.int .u8 o1),.sc (.string m1),.sc (.int .i64 n1),.sl 4 L1]] (vc L [[.sc (.int .u8 o1),.sc (.string m1),.sc (.int .i64 n1),.sl 4 L1]]) rfl rfl rfl rfl rfl rfl ⟨rfl,rfl,rfl,rfl,rfl,⟨_,rfl⟩,trivial⟩ rfl rfl ?_ (r4 _ _).symm ?_)
    ·rw[hE,E8];simp;omega
    cbv
    repeat ((with_reducible apply b5 hA);cbv)
    replace hz:z=(k:Int):=hz;have hz1:qa .i64 (qb z 1)=((k+1:Nat):Int):=by rw[e1,e2,hz,IntWalk.i64_in _ (by omega)];omega
    refine⟨(qa .i64 (qb z 1),vc L [[.sc (.int .u8 o1),.sc (.string m1),.sc (.int .i64 n1),.sl 4 L1]]),⟨k+1,hz1,h9,by show vc L _=_;rw[r4,hE,hsn]⟩,by show ks.length - (qa .i64 (qb z 1)).toNat<ks.length - z.toNat;rw[hz1,hz];omega,?_⟩;cbv
   ·rw[c2G h9] at hlt;rw[hlt];cbv
    repeat ((with_reducible apply b5 hA);cbv)
    have hE2:L=K:=by rw[hE,hK,c3r (by omega)]
    rw[hE2];exact d7 hA [2] ⟨rfl,rfl,rfl,rfl,rfl,rfl,rfl,rfl⟩ ⟨rfl,true,rfl⟩
def jT2 (rows:List (List D)) (d0 d1 d2 d3:D) (x:V):List V:=[.d (.sl 5 rows),.ag [.d d0,.d d1,.d d2,.d d3],.tu [],.ptr 0 0,.ptr 1 0,.ptr 3 0,.tu [],.tu [],.ag [.d d0,.d d1,.d d2,.d d3],x,.d (.sl 5 rows),
 .cl 82 [5],.tu [],.tu [],.tu [],.tu [],.tu [],.tu [],.tu [],.tu [],.tu [],.tu [],.tu []]
def jO2 (d0 d1 d2 d3:D) (op nm n:Value) (R:List (List D)) (b:O):List O:=[.box [.d d0,.d d1,.d d2,.d d3],.box [.d (.sc (.int .u8 0)),.d (.sc (.string ⟨#[]⟩)),.d (.sc (.int .i64 0)),.em],.it (i7 false 25 R),.box [.d (.sc op),.d (.sc nm),.d (.sc n),.own 2],.dead,b]
theorem b56 (rows:List (List D)) (d0 d1 d2 d3:D) (op nm n:Value) (R:List (List D)) (hcp:j3 69 [.ag [.d d0,.d d1,.d d2,.d d3]] [] (a05 op nm n R)) (P:S->Prop) (hP:P ⟨jT2 rows d0 d1 d2 d3 (oT op nm n 2),jO2 d0 d1 d2 d3 op nm n R (.box [.d (.sl 5 rows)])⟩):∀qa qb qc qd qe qf qg qh qi qj qk ql qm qo qp qq qs qt qu qv qw qx qy qz va vc vd ve vf vg vh vj vk vl vp vq vr vt vu vv vw vx vy,Ar.mk qa qb qc qd qe qf qg qh qi qj qk ql qm qo qp qq qs qt qu qv qw qx qy qz va vc vd ve vf vg vh vj vk vl vp vq vr vt vu vv vw vx vy=a7->w5 (Ar.mk qa qb qc qd qe qf qg qh qi qj qk ql qm qo qp qq qs qt qu qv qw qx qy qz va vc vd ve vf vg vh vj vk vl vp vq vr vt vu vv vw vx vy) (.seq (N6 (Tryd.f45.body.getD .skip)) (.seq (N6 (B0 (Tryd.f45.body.getD .skip))) (N6 (N6 (B0 (B0 (Tryd.f45.body.getD .skip)))))))
  (a2M [.d (.sl 5 rows),.ag [.d d0,.d d1,.d d2,.d d3]] [] (Tryd.f45.ntmps - m9 [V.d (.sl 5 rows),.ag [.d d0,.d d1,.d d2,.d d3]])) (λx s=>x=.normal/\P s):=by
 intro _ _ _ _ _ _ _ _ _ _ _ _ _ _ _ _ _ _ _ _ _ _ _ _ _ _ _ _ _ _ _ _ _ _ _ _ _ _ _ _ _ vx _ hA;cbv
 repeat ((with_reducible apply b5 hA);cbv)
 refine c7 hA [] hcp ⟨rfl,rfl,rfl,rfl,rfl,rfl,rfl⟩ ?_
 rintro res os2 ⟨rfl,zz,rfl⟩
 cbv;refine a0v hA 2 (z:=zz) rfl ?_;cbv
 repeat ((with_reducible apply b5 hA);cbv)
 refine b20 hA Tryd.func70 rfl (by kernel_rfl) (by kernel_rfl) (by kernel_rfl) ?_;cbv
 repeat ((with_reducible apply b5 hA);cbv)
 exact hP
theorem b15 (rows:List (List D)) (d0 d1 d2 d3:D) (op nm n nv o1 m1 n1:Value) (R L1:List (List D)) (i:Int) (hcp:j3 69 [.ag [.d (.sc o1),.d (.sc m1),.d (.sc n1),.d (.sl 4 L1)]] [] (a05 o1 m1 n1 L1)):∀qa qb qc qd qe qf qg qh qi qj qk ql qm qo qp qq qs qt qu qv qw qx qy qz va vc vd ve vf vg vh vj vk vl vp vq vr vt vu vv vw vx vy,Ar.mk qa qb qc qd qe qf qg qh qi qj qk ql qm qo qp qq qs qt qu qv qw qx qy qz va vc vd ve vf vg vh vj vk vl vp vq vr vt vu vv vw vx vy=a7 ->
  w5 (Ar.mk qa qb qc qd qe qf qg qh qi qj qk ql qm qo qp qq qs qt qu qv qw qx qy qz va vc vd ve vf vg vh vj vk vl vp vq vr vt vu vv vw vx vy) (a9Z (B0 (N6 (B0 (B0 (Tryd.f45.body.getD .skip)))))) ⟨G7 (G7 (jT2 rows d0 d1 d2 d3 .jk) 12 (vi .i64 i)) 13 (.ag [.d (.sc nv),.d (.sc o1),.d (.sc m1),.d (.sc n1),.d (.sl 4 L1)]),o6 (jO2 d0 d1 d2 d3 op nm n R .dead) (.kl [])⟩
   (λx s1=>x=.normal/\a1H (jO2 d0 d1 d2 d3 op nm n R .dead) s1.o=true/\w5 (Ar.mk qa qb qc qd qe qf qg qh qi qj qk ql qm qo qp qq qs qt qu qv qw qx qy qz va vc vd ve vf vg vh vj vk vl vp vq vr vt vu vv vw vx vy) (b0a (B0 (N6 (B0 (B0 (Tryd.f45.body.getD .skip)))))) ⟨s1.t,o6 s1.o (.kl [])⟩ (λx s2=>x=.normal /\
    b7x [2] [2] 6 (jO2 d0 d1 d2 d3 op nm n R .dead) (jO2 d0 d1 d2 d3 (.int .u8 11) nv (.int .i64 0) [[.sc o1,.sc m1,.sc n1,.sl 4 L1],[.sc op,.sc nm,.sc n,.sl 4 R]] .dead) (j2 s1.o) s2)):=by
 intro _ _ _ _ _ _ _ _ _ _ _ _ _ _ _ _ _ _ _ _ _ _ _ _ _ _ _ _ _ _ _ _ _ _ _ _ _ _ _ _ _ vx _ hA;cbv
 repeat ((with_reducible apply b5 hA);cbv)
 refine a1g hA [2,3] (by kernel_rfl) ?_;cbv
 repeat' (first
  | (with_reducible apply And.intro)
  | (refine c7 hA [] hcp ⟨rfl,rfl,rfl,rfl,rfl,rfl,rfl⟩ ?_;rintro _ _ ⟨rfl,zz,rfl⟩;cbv)
  | (refine a7s hA (b0c [.d (.sc o1),.d (.sc m1),.d (.sc n1),.own 9,.d (.sc op),.d (.sc nm),.d (.sc n),.own 2] rfl rfl rfl ?_);cbv)
  | (refine a3e hA 3 3 10 2 (n:=1) (e:=25) [.sc o1,.sc m1,.sc n1,.sl 4 L1,.sc op,.sc nm,.sc n,.sl 4 R] [9,2] [[.sc o1,.sc m1,.sc n1,.sl 4 L1],[.sc op,.sc nm,.sc n,.sl 4 R]] rfl rfl rfl rfl rfl rfl ⟨rfl,rfl,rfl,rfl,rfl,⟨_,rfl⟩,rfl,rfl,rfl,rfl,rfl,⟨_,rfl⟩,trivial⟩ rfl rfl ?_;cbv))
theorem b57 (rows:List (List D)) (d0 d1 d2 d3:D) (op nm n:Value) (R:List (List D)):∀qa qb qc qd qe qf qg qh qi qj qk ql qm qo qp qq qs qt qu qv qw qx qy qz va vc vd ve vf vg vh vj vk vl vp vq vr vt vu vv vw vx vy,Ar.mk qa qb qc qd qe qf qg qh qi qj qk ql qm qo qp qq qs qt qu qv qw qx qy qz va vc vd ve vf vg vh vj vk vl vp vq vr vt vu vv vw vx vy=a7->w5 (Ar.mk qa qb qc qd qe qf qg qh qi qj qk ql qm qo qp qq qs qt qu qv qw qx qy qz va vc vd ve vf vg vh vj vk vl vp vq vr vt vu vv vw vx vy) (B0 (B0 (B0 (Tryd.f45.body.getD .skip)))) ⟨jT2 rows d0 d1 d2 d3 .jk,o6 (jO2 d0 d1 d2 d3 op nm n R .dead) (.kl [])⟩
  (λx s=>b9I Tryd.f45.results.toList (a05 op nm n R) 6 [] x s):=by
 intro _ _ _ _ _ _ _ _ _ _ _ _ _ _ _ _ _ _ _ _ _ _ _ _ _ _ _ _ _ _ _ _ _ _ _ _ _ _ _ _ _ vx _ hA;cbv
 repeat ((with_reducible apply b5 hA);cbv)
 exact⟨[2],[oT op nm n 0],[.it (i7 false 25 R)],⟨rfl,rfl,rfl,rfl,rfl,rfl,rfl,rfl⟩,rfl,false,rfl⟩
theorem b2L (rows:List (List D)) (d0 d1 d2 d3:D) (op nm n:Value) (R:List (List D)) (hcp:j3 69 [.ag [.d d0,.d d1,.d d2,.d d3]] [] (a05 op nm n R)) (P:S->Prop) (hP:P ⟨jT2 rows d0 d1 d2 d3 (oT op nm n 2),jO2 d0 d1 d2 d3 op nm n R (.box [.d (.sl 5 rows)])⟩):w5 a7 (.seq (N6 (Tryd.f45.body.getD .skip)) (.seq (N6 (B0 (Tryd.f45.body.getD .skip))) (N6 (N6 (B0 (B0 (Tryd.f45.body.getD .skip)))))))
  (a2M [.d (.sl 5 rows),.ag [.d d0,.d d1,.d d2,.d d3]] [] (Tryd.f45.ntmps - m9 [V.d (.sl 5 rows),.ag [.d d0,.d d1,.d d2,.d d3]])) (λx s=>x=.normal/\P s) :=
 b56 rows d0 d1 d2 d3 op nm n R hcp P hP _ _ _ _ _ _ _ _ _ _ _ _ _ _ _ _ _ _ _ _ _ _ _ _ _ _ _ _ _ _ _ _ _ _ _ _ _ _ _ _ _ _ _ rfl
theorem b8W (L:List (ByteArray×Ty)) (tl:Ty) (hlen:L.length * 80<=140737488351232) (htl:tl.parts.length<=1048576) (hL:∀f∈L,f.2.parts.length<=1048576):j3 45 [.d (.sl 5 (rF L)),.ag (ofD (cT tl))] [] (a8p (x8 L tl)):=by
 have hct:=a8V 1048576 tl htl (c2A _);obtain⟨a,ha⟩:∃a:Nat->Ty,a=λk=>x8 (L.drop (L.length - k)) tl:=⟨_,rfl⟩
 have ha0:a 0=tl:=by rw[ha];simp only;rw[c3j (by omega)];rfl
 have haN:a L.length=x8 L tl:=by rw[ha];simp only;rw[c4e];rfl
 have haS:∀k f,k<L.length->L[L.length - 1 - k]?=some f->a (k+1)=.mk 11 f.1 0 [f.2,a k]:=λk f hk hf=>by
  rw[ha];simp only;have h1:L.length - (k+1)<L.length:=by omega
  have h2:=c2X h1;have e1:L.length - 1 - k=L.length - (k+1):=by omega
  rw[e1,c28 h1] at hf;rw[h2,Option.some.inj hf,show L.length - (k+1)+1=L.length - k by omega,A8]
 obtain⟨rows,hrows⟩:∃rows,rows=rF L:=⟨_,rfl⟩;have hrl:rows.length=L.length:=by rw[hrows,U3]
 rw[<-hrows];have etl:ofD (cT tl)=[.d (.sc (.int .u8 tl.op)),.d (.sc (.string tl.name)),.d (.sc (.int .i64 tl.n)),.d (.sl 4 (rT tl.kids))]:=by cases tl;rw[cT];rfl
 rw[etl] at hct ⊢;replace hct:j3 69 _ _ (a05 (.int .u8 tl.op) (.string tl.name) (.int .i64 tl.n) (rT tl.kids)):=hct;obtain⟨d0,hd0⟩:∃d,d=D.sc (.int .u8 tl.op):=⟨_,rfl⟩;obtain⟨d1,hd1⟩:∃d,d=D.sc (.string tl.name):=⟨_,rfl⟩;obtain⟨d2,hd2⟩:∃d,d=D.sc (.int .i64 tl.n):=⟨_,rfl⟩;obtain⟨d3,hd3⟩:∃d,d=D.sl 4 (rT tl.kids):=⟨_,rfl⟩;rw[<-hd0,<-hd1,<-hd2,<-hd3] at hct ⊢;refine b1x (Pre:=λs=>s=⟨jT2 rows d0 d1 d2 d3 (oT (.int .u8 tl.op) (.string tl.name) (.int .i64 tl.n) 2),jO2 d0 d1 d2 d3 (.int .u8 tl.op) (.string tl.name) (.int .i64 tl.n) (rT tl.kids) (.box [.d (.sl 5 rows)])⟩) Tryd.func45 b4f b4g b4h b4i b4j ?_ ?_
 ·exact b2L rows d0 d1 d2 d3 _ _ _ _ hct _ rfl
 intro I I' g w W s act hs h0;subst hs;have h:RelI I (λ_=>False) ⟨w,λ_=>.nilFunc,0,[]⟩ I' g ⟨jT2 rows d0 d1 d2 d3 .jk,jO2 d0 d1 d2 d3 (.int .u8 tl.op) (.string tl.name) (.int .i64 tl.n) (rT tl.kids) (.box [.d (.sl 5 rows)])⟩ act W:=h0.reread (i:=9) (x:=.jk) λv _=>.jk v
 obtain⟨b,us,ty,h1,h2,h3,h4⟩:=h.frzBox (k:=5) rfl;obtain⟨v,us',rfl,hv,hn⟩:=h3.uncons;obtain rfl:=hn.unnil;have hvD:AtD I' W v (.sl 5 rows):=by cases hv with|d h=>exact h
 have hBs:W.cell? ⟨b,0,none⟩=some v:=a7B h2;have hbl:b<W.heap.size:=(c2I.1 h2).1;obtain⟨bb,off,vs,hl,hup,hds,hr5,hseq⟩:=a8Q (λb k hb=>(h.lt b k hb).1) hvD hbl hBs (by rw[hrl];exact hlen)
 have hcl:act.eval (.tmp 11)=.func (.func 82) #[] #[.pointer (some ⟨b,0,none⟩)]:=by
  have h5:=h4.get (.tmp 11);have h5:AtV _ W g (act.eval (.tmp 11)) (.cl 82 [5]):=h5;generalize act.eval (.tmp 11)=ax at h5 ⊢;cases h5 with
  | cl f us ks hl hh =>
   match us,hl with
   | [u],_=>rw[(hh 0 u 5 rfl rfl).1,h1]
 obtain⟨st,hst⟩:∃st:Nat->List O,st=λk=>jO2 d0 d1 d2 d3 (.int .u8 (a k).op) (.string (a k).name) (.int .i64 (a k).n) (rT (a k).kids) .dead:=⟨_,rfl⟩
 have hst0:RelI I (λ_=>False) ⟨w,λ_=>.nilFunc,0,[]⟩ (λb' n=>I' b' n\/(b'=b/\n<=1)) g ⟨jT2 rows d0 d1 d2 d3 .jk,st 0⟩ act W:=by
  rw[hst];simp only;rw[ha0];exact h4
 have hdec:rows.length=L.length:=hrl
 refine b1w (ks1:=[2]) (ks2:=[2]) (t:=jT2 rows d0 d1 d2 d3 .jk) (p1:=12) (p2:=13) (gf:=82) (N:=rows.length) (lb:=#[.pointer (some ⟨b,0,none⟩)])
  (u1:=λk=>.int .i64 ((rows.length - 1 - k:Nat):Int)) (u2:=λk=>.agg (((vs.drop ((rows.length - 1 - k) * 5)).take 5).toArray)) (Kp:=KpB b bb off (rows.length * 5)) (st:=st)
  (tk:=λk=>G7 (G7 (jT2 rows d0 d1 d2 d3 .jk) 12 (vi .i64 ((rows.length - 1 - k:Nat):Int))) 13 (.ag (ofD (rows.getD (rows.length - 1 - k) []))))
  b4m b4n hst0 (by decide) hcl (enters_of Tryd.func82 (by kernel_rfl) rfl) (hseq (FW none) 2 trivial rfl (by decide)) KpB.trans (λW l o o' _ hl ho _=>KpB.turn W l o o' hl ho) ?_ ?_ rfl ?_ ?_
 ·intro W1 W2 hk;refine⟨λv hv=>?_,λi hi v hv=>?_⟩
  ·rw[hk b 1 (.inr ⟨rfl,c2A _⟩) 0 (by decide)];exact hv
  ·obtain⟨n,hn1,hn2⟩:=hup (λe=>by rw[e] at hi;simp at hi);rw[hk bb n (.inl hn2) (off+i) (by omega)];exact hv
 ·intro k W1 I1 g1 hk hI1 hk1 hvs;have hlt:rows.length - 1 - k<rows.length:=by omega
  have e1:∀(ts:Array Value) (i:Nat) (u:Value),(ts.setIfInBounds i u).toList=ts.toList.set i u:=λts i u=>by simp
  rw[e1,e1,N7,N7];refine(hvs.set (.d (.sc _ rfl)) 12).set (a00 ?_) 13;refine s8.toV g1 ?_;have h5:=(hds.drop ((rows.length - 1 - k) * 5)).take 5
  have e2:(rows.flatten.drop ((rows.length - 1 - k) * 5)).take 5=rows.getD (rows.length - 1 - k) []:=by
   have hg:rows[rows.length - 1 - k]?=some (rows.getD (rows.length - 1 - k) []):=by rw[c2V,c28 hlt];rfl
   apply c4b
   intro i;rw[c3g];have h6:(rows.getD (rows.length - 1 - k) []).length=5:=hr5 _ (c2F hg)
   split
   ·rename_i hi;rw[c3e,K6 hr5 hg hi]
   ·rename_i hi;rw[c3p (by omega)]
  rw[e2] at h5;exact h5.mono (λb j hb=>hI1 b j (.inl hb)) (λb j hb=>hk1 b j (.inl hb))
 ·intro k hk;have hlt:L.length - 1 - k<L.length:=by omega
  obtain⟨f,hf⟩:∃f,L[L.length - 1 - k]?=some f:=⟨_,c28 hlt⟩;have hg:rows.getD (rows.length - 1 - k) []=.sc (.string f.1)::cT f.2:=by rw[c2V,hdec,hrows,a7x hf];rfl
  have ea:=haS k f (by omega) hf;have hsp:=a8V 1048576 f.2 (hL f (c2F hf)) (c2A _);rw[hst]
  try dsimp only
  rw[ea,hg];obtain⟨fn,o1,m1,n1,l1⟩:=f;rw[cT] at hsp ⊢
  have e7:rT [Ty.mk o1 m1 n1 l1,a k]=[[.sc (.int .u8 o1),.sc (.string m1),.sc (.int .i64 n1),.sl 4 (rT l1)],[.sc (.int .u8 (a k).op),.sc (.string (a k).name),.sc (.int .i64 (a k).n),.sl 4 (rT (a k).kids)]]:=by
   rw[(a k).eta];simp only[rT,cT];rfl
  simp only[Ty.op,Ty.name,Ty.n,Ty.kids];rw[e7];exact b15 rows d0 d1 d2 d3 _ _ _ _ _ _ _ _ _ _ hsp _ _ _ _ _ _ _ _ _ _ _ _ _ _ _ _ _ _ _ _ _ _ _ _ _ _ _ _ _ _ _ _ _ _ _ _ _ _ _ _ _ _ _ rfl
 ·rintro D W1 hD ⟨I1,g1,q1,q2,q3,q4⟩ hd
  have hID:∀k,¬I1 D k:=λk=>by rw[hD];exact(q2 k).2
  have hD0:w.heap.size<=D:=by rw[hD];exact h.fr.size
  rw[hst] at q3
  try dsimp only at q3
  rw[hdec,haN] at q3;refine b2F (kl:=[]) b4k b4l q3 hID hD0 hd ?_;exact b57 rows d0 d1 d2 d3 _ _ _ _ _ _ _ _ _ _ _ _ _ _ _ _ _ _ _ _ _ _ _ _ _ _ _ _ _ _ _ _ _ _ _ _ _ _ _ _ _ _ _ _ _ _ _ rfl
theorem b16:∀(m:Nat) (t:Ty),t.parts.length<=m->m<=1048576->(∀x∈t.parts,Q9 x)->j3 35 [.ag (ofD (cT t))] [] (a8p (b6 t)):=by
 intro m
 induction m with
 | zero=>intro t h;have:=l6 t;omega
 | succ m ih =>
  intro t hm hm2 hsp;have hself:t∈t.parts:=by rw[r6];exact c27 ..
  have hkl:=o7 t;obtain⟨op,nm,n,ks⟩:=t;generalize ht:Ty.mk op nm n ks=t at *;have hc:cT t=[.sc (.int .u8 op),.sc (.string nm),.sc (.int .i64 n),.sl 4 (rT ks)]:=by rw[<-ht,cT]
  have hks:t.kids=ks:=by rw[<-ht];rfl
  rw[hks] at hkl
  by_cases hop:op=11
  ·have hF:=b2B t (hsp t hself) (by omega);have hcr:=C9 (t:=t) (by rw[<-ht];exact hop)
   have hfs:∀f∈i6 K5 (c6 t),f.2.parts.length<=m/\C4 f.2:=λf hf=>by
    have h1:=A7 hf;have h2:=x9 _ t (c2A _) f h1;have h3:=P7 _ t (c2A _) f h1;exact⟨by omega,λx hx=>hsp x (y9 hx h3)⟩
   have hih:∀f∈i6 K5 (c6 t),m6 35 [.ag (cT f.2)] [.ag (cT (b6 f.2))]:=λf hf=>a3c m f.2 (hfs f hf).1 (by omega) (hfs f hf).2
   have hlen:(i6 K5 (c6 t)).length<=1048576:=by
    rw[a0M];have:=L5 _ t (c2A _);omega
   have htl:(j0 t).parts.length<=1048576:=by
    have h1:=T0 _ t (c2A _) (hsp t hself);omega
   rw[hc] at hF ⊢;obtain⟨K0,hK0⟩:∃K,K=rT ks:=⟨_,rfl⟩;rw[<-hK0] at hF ⊢;generalize i6 K5 (c6 t)=L at *
   have hJ:=b8W (L.map cfS) (j0 t) (by rw[c3f];omega) htl (λf hf=>by
    obtain⟨f0,hf0,rfl⟩:=c3k.1 hf;have h1:=hfs f0 hf0;have h2:=B6 _ f0.2 (c2A _) h1.2;show (b6 f0.2).parts.length<=_
    omega)
   rw[show x8 (L.map cfS) (j0 t)=b6 t from hcr.symm] at hJ;replace hJ:j3 _ _ _ (a05 (.int .u8 (b6 t).op) (.string (b6 t).name) (.int .i64 (b6 t).n) (rT (b6 t).kids)):=hJ;show j3 _ _ _ (a05 (.int .u8 (b6 t).op) (.string (b6 t).name) (.int .i64 (b6 t).n) (rT (b6 t).kids));generalize (b6 t).op=yop at *;generalize (b6 t).name=ynm at *;generalize (b6 t).n=yn at *;generalize rT (b6 t).kids=yK at *;obtain⟨q0,q1,q2,q3,hq⟩:=d6 (j0 t);rw[hq] at hF hJ;obtain⟨M0,hM0⟩:∃M,M=rF L:=⟨_,rfl⟩;rw[<-hM0] at hF;refine so9 Tryd.func35 rfl λqa qb qc qd qe qf qg qh qi qj qk ql qm qo qp qq qs qt qu qv qw qx qy qz va vc vd ve vf vg vh vj vk vl vp vq vr vt vu vv vw vx vy hA=>?_
   cbv
   repeat ((with_reducible apply b5 hA);cbv)
   have h11:qj op 11=decide (op=11):=by have e:=j8 hA;exact e.2.2.2.2.2.2.2.2 _ _
   rw[c2J hop] at h11;rw[h11];cbv
   repeat ((with_reducible apply b5 hA);cbv)
   refine c7 hA [] hF ⟨rfl,rfl,rfl,rfl,rfl,rfl,rfl⟩ ?_
   rintro res os2 ⟨rfl,rfl⟩
   cbv
   repeat ((with_reducible apply b5 hA);cbv)
   obtain⟨e1,e2,e3,e4,e5,e6,e7,e8,e9⟩:=j8 hA;obtain⟨r1,r2,r3,r4⟩:=n9 hA;obtain⟨m1,m2,m3,m4⟩:=H2 hA;refine l9 hA (γ:=Int×List (List D)) (λx=>[(19,vi .i64 x.1),(12,.jk),(14,.jk)]) (λx=>[(2,.row false 73 x.2)]) (λx=>∃k:Nat,x.1=(k:Int)/\k<=L.length/\x.2=rF ((L.take k).map cfS++L.drop k)) (λx=>L.length - x.1.toNat) (0,M0) ?_ ?_ ?_
   ·exact⟨0,rfl,c3d _,hM0⟩
   ·cbv
   ·intro x hinv;obtain⟨z,M⟩:=x;cbv
    repeat ((with_reducible apply b5 hA);cbv)
    try simp (maxSteps:=4000000) only [nc] at *
    obtain⟨k,hz,hk,hM⟩:=hinv;have hll:qy M0=((L.length:Nat):Int):=by rw[r1,hM0,U3]
    have hlt:qh z (qy M0)=decide (k<L.length):=by rw[e7,hll,hz];exact c2Q.2 (by omega)
    by_cases h9:k<L.length
    ·rw[c2J h9] at hlt;obtain⟨x,hx⟩:∃x,L[k]?=some x:=⟨_,c28 h9⟩;have hspx:=hih x (c2F hx)
     have hxe:((L.take k).map cfS++L.drop k)[k]?=some x:=by
      rw[c2P (by simp;omega)]
      simp
      rw[c4N (by omega),c4e,c3I];exact hx
     have hset:((L.take k).map cfS++L.drop k).set k (cfS x)=(L.take (k+1)).map cfS++L.drop (k+1):=by
      obtain⟨hi,e⟩:=c25.1 hx;have e0:k - ((L.take k).map cfS).length=0:=by rw[c3f,c3h];omega
      rw[c3Z _ _ (by rw[c3f,c3h];omega),c4v,hx,c3G,c3m,c2X hi,e0];rfl
     obtain⟨xn,xt⟩:=x;obtain⟨x0,x1,x2,x3,hxx⟩:=d6 xt;obtain⟨v0,v1,v2,v3,hvv⟩:=d6 (b6 xt);simp only at hspx;rw[hxx,hvv] at hspx;have gx:qz M z=some [.sc (.string xn),x0,x1,x2,x3]:=by rw[r2,hz,c2E (by omega),hM,show ((k:Int)).toNat=k by omega,a7x hxe,hxx]
     have hz1:qa .i64 (qb z 1)=((k+1:Nat):Int):=by rw[e1,e2,hz,IntWalk.i64_in _ (by omega)];omega
     have hmu:L.length - (qa .i64 (qb z 1)).toNat<L.length - z.toNat:=by rw[hz1,hz];omega
     have hnew:vd M z [.sc (.string xn),v0,v1,v2,v3]=rF ((L.take (k+1)).map cfS++L.drop (k+1)):=by
      rw[m4,<-hset,hM,hz,show ((k:Int)).toNat=k by omega];unfold rF;rw[List.map_set];show _=List.set _ k (.sc (.string xn)::cT (b6 xt));rw[hvv]
     rw[hlt]
     iterate 2 (try cbv;repeat ((first|with_reducible apply b5 hA|rw[gx]|refine b9 hA _ hspx rfl ?_);cbv))
     try simp (maxSteps:=4000000) only [nc] at *
     refine⟨(qa .i64 (qb z 1),vd M z [.sc (.string xn),v0,v1,v2,v3]),⟨k+1,hz1,h9,hnew⟩,hmu,?_⟩;cbv
    ·rw[c2G h9] at hlt;have hM2:M=rF (L.map cfS):=by rw[hM,c3r (by omega),c4A (by omega),c3b]
     rw[<-hM2] at hJ;rw[hlt];cbv;refine A4 hA _ ((v7.frz _ [2]).trans (v7.read _ 3 (.sl 5 M) rfl)) ?_;cbv;refine c7 hA [] hJ ⟨rfl,rfl,rfl,rfl,rfl,rfl,rfl⟩ ?_
     rintro _ _ ⟨rfl,zz,rfl⟩
     cbv
     repeat ((with_reducible apply b5 hA);cbv)
     exact d7 hA [4] ⟨rfl,rfl,rfl,rfl,rfl,rfl,rfl,rfl⟩ ⟨rfl,zz,rfl⟩
  ·have hcn:=w6 (t:=t) (by rw[<-ht];exact hop);rw[hks,show t.op=op by rw[<-ht];rfl,show t.name=nm by rw[<-ht];rfl,show t.n=n by rw[<-ht];rfl] at hcn
   have hih:∀x∈ks,j3 35 [.ag (ofD (cT x))] [] (a8p (b6 x)):=λx hx=>by
    have h2:=hkl.2 x hx;exact ih x (by omega) (by omega) λy hy=>hsp y (by rw[d5,hks];exact c26 _ (c2U.2 ⟨x,hx,hy⟩))
   rw[hcn,hc];show j3 _ _ _ (a05 (.int .u8 op) (.string nm) (.int .i64 n) (rT (ks.map b6)));obtain⟨K,hK⟩:∃K,K=rT ks:=⟨_,rfl⟩;obtain⟨Q,hQ⟩:∃Q,Q=rT (ks.map b6):=⟨_,rfl⟩;rw[<-hK,<-hQ];refine so9 Tryd.func35 rfl λqa qb qc qd qe qf qg qh qi qj qk ql qm qo qp qq qs qt qu qv qw qx qy qz va vc vd ve vf vg vh vj vk vl vp vq vr vt vu vv vw vx vy hA=>?_
   cbv
   repeat ((with_reducible apply b5 hA);cbv)
   obtain⟨e1,e2,e3,e4,e5,e6,e7,e8,e9⟩:=j8 hA;obtain⟨r1,r2,r3,r4⟩:=n9 hA;have h11:qj op 11=decide (op=11):=e9 _ _;rw[c2G hop] at h11;rw[h11];cbv
   repeat (first|(refine b4z hA 6 25 rfl ?_;cbv)|(with_reducible apply b5 hA;cbv))
   refine l9 hA (γ:=Int×List (List D)) (λx=>[(39,vi .i64 x.1),(6,.own 2)]) (λx=>[(2,.it (i7 true 25 x.2))]) (λx=>∃k:Nat,x.1=(k:Int)/\k<=ks.length/\x.2=rT ((ks.map b6).take k)) (λx=>ks.length - x.1.toNat) (0,[]) ?_ ?_ ?_
   ·exact⟨0,rfl,c3d _,rfl⟩
   ·cbv
   ·intro x hinv;obtain⟨z,M⟩:=x;cbv
    repeat ((with_reducible apply b5 hA);cbv)
    try simp (maxSteps:=4000000) only [nc] at *
    obtain⟨k,hz,hk,hM⟩:=hinv;have hll:qy K=((ks.length:Nat):Int):=by rw[r1,hK,E8]
    have hlt:qh z (qy K)=decide (k<ks.length):=by rw[e7,hll,hz];exact c2Q.2 (by omega)
    by_cases h9:k<ks.length
    ·rw[c2J h9] at hlt;obtain⟨x,hx⟩:∃x,ks[k]?=some x:=⟨_,c28 h9⟩;have hspx:=hih x (c2F hx);have hx2:(ks.map b6)[k]?=some (b6 x):=by rw[c3i,hx];rfl
     have hsn:=a6v hx2;obtain⟨x0,x1,x2,x3,hxx⟩:=d6 x
     obtain⟨vo,vm,vn,vK,hvv,hvs⟩:∃vo vm vn vK,cT (b6 x)=[.sc vo,.sc vm,.sc vn,.sl 4 vK]/\a8p (b6 x)=a05 vo vm vn vK:=by
      cases b6 x with
      | mk a b c d=>exact⟨_,_,_,_,by rw[cT];rfl,rfl⟩
     rw[hvs,hxx] at hspx;rw[hvv] at hsn;have gx:qz K z=some [x0,x1,x2,x3]:=by rw[r2,hz,c2E (by omega),hK,show ((k:Int)).toNat=k by omega,a04 hx,hxx]
     have hz1:qa .i64 (qb z 1)=((k+1:Nat):Int):=by rw[e1,e2,hz,IntWalk.i64_in _ (by omega)];omega
     have hmu:ks.length - (qa .i64 (qb z 1)).toNat<ks.length - z.toNat:=by rw[hz1,hz];omega
     have hnew:vc M [[.sc vo,.sc vm,.sc vn,.sl 4 vK]]=rT ((ks.map b6).take (k+1)):=by rw[r4,hsn,hM]
     have hMl:M.length<=1048576:=by rw[hM,E8,c3h];omega
     rw[hlt];cbv
     repeat (first|(with_reducible apply b5 hA;cbv)|(rw[gx];cbv))
     refine c7 hA [] hspx ⟨rfl,rfl,rfl,rfl,rfl,rfl,rfl⟩ ?_
     rintro _ _ ⟨rfl,zz,rfl⟩
     cbv;refine a7s hA (b0c [.d (.sc vo),.d (.sc vm),.d (.sc vn),.own 4] rfl rfl rfl ?_);cbv;refine a7s hA (b14 [.sc vo,.sc vm,.sc vn,.sl 4 vK] [4] [[.sc vo,.sc vm,.sc vn,.sl 4 vK]] (vc M [[.sc vo,.sc vm,.sc vn,.sl 4 vK]]) rfl rfl rfl rfl rfl rfl ⟨rfl,rfl,rfl,rfl,rfl,⟨_,rfl⟩,trivial⟩ rfl rfl ?_ (r4 _ _).symm ?_)
     ·omega
     cbv
     repeat ((with_reducible apply b5 hA);cbv)
     refine⟨(qa .i64 (qb z 1),vc M [[.sc vo,.sc vm,.sc vn,.sl 4 vK]]),⟨k+1,hz1,h9,hnew⟩,hmu,?_⟩;cbv
    ·rw[c2G h9] at hlt;have hM2:M=Q:=by rw[hM,hQ,c3r (by rw[c3f];omega)]
     rw[hlt];cbv
     repeat ((with_reducible apply b5 hA);cbv)
     rw[hM2];exact d7 hA [2] ⟨rfl,rfl,rfl,rfl,rfl,rfl,rfl,rfl⟩ ⟨rfl,true,rfl⟩
theorem b58 {op:Int} (h:a9M op=none):x6 op=none:=by
 unfold a9M at h;unfold x6
 repeat' split at h
 all_goals first|(cases h;done)|skip
 rename_i h1 h2 h3 h4 h5 h6 h7;rw[c2H (by omega),c2H h2,c2H h3,c2H h7]
theorem b59 {op:Int} {kn:Int} {a b:Bool} (h:a9M op=some (kn,a,b)) (nm:ByteArray) (n:Int) (ks:List Ty) (row:Bool) :
  a2Q j4 (.mk op nm n ks) (sI row)=hd2 row (decide (8<=op)) (decide ((ks.length:Int)=kn)) a (j4 nm) (decide (nm.toList=[])) (decide (n<0)) b (n == 0)/\(∃kk,x6 op=some kk/\(kk.length:Int)=kn/\∀(k:Nat) (c:Int),kk[k]?=some c->sI (orB (op == 5) (orB (op == 6) (nmF (op == 11) (k == 1) false)))=c) /\
   (b=true/\(vbl (.mk op nm n ks)=some (n,decide (op=10)))/\(op=10\/op=7)\/b=false/\vbl (.mk op nm n ks)=none):=by
 have key:∀(i:Int) (kk:List Int),op=i->x6 i=some kk->(kk.length:Int)=kn->(∀(k:Nat) (c:Int),kk[k]?=some c->sI (orB (i == 5) (orB (i == 6) (nmF (i == 11) (k == 1) false)))=c)->a=(i == 11)->b=((i == 7) || (i == 10)) ->
   a2Q j4 (.mk op nm n ks) (sI row)=hd2 row (decide (8<=op)) (decide ((ks.length:Int)=kn)) a (j4 nm) (decide (nm.toList=[])) (decide (n<0)) b (n == 0)/\(∃kk,x6 op=some kk/\(kk.length:Int)=kn/\∀(k:Nat) (c:Int),kk[k]?=some c->sI (orB (op == 5) (orB (op == 6) (nmF (op == 11) (k == 1) false)))=c):=by
  rintro i kk rfl h1 h2 h3 rfl rfl
  refine⟨?_,kk,h1,h2,h3⟩;rw[b3V,h1];have hk:=a57 h1
  have e1:decide (ks.length=(Z0 op).size)=decide ((ks.length:Int)=kn):=by
   have:kk.length=(Z0 op).size:=by rw[hk,c3f,B3]
   exact c2Q.2 (by omega)
  have e2:(decide (8<=op) == (sI row == 114))=(row == decide (8<=op)):=by cases row <;> cases decide (8<=op) <;> rfl
  unfold hdF hd2;rw[e1,e2];simp only[c43,c3R,Bool.or_assoc];cases (op == 11) <;> rfl
 have two:∀ {l:List Int} {P:Nat->Int->Prop} {x y:Int},l=[x,y]->P 0 x->P 1 y->∀(k:Nat) (c:Int),l[k]?=some c->P k c:=by
  rintro l P x y rfl h0 h1 k c h
  match k,h with
  | 0,h=>cases h;exact h0
  | 1,h=>cases h;exact h1
  | k+2,h=>simp at h
 have one:∀ {l:List Int} {P:Nat->Int->Prop} {x:Int},l=[x]->P 0 x->∀(k:Nat) (c:Int),l[k]?=some c->P k c:=by
  rintro l P x rfl h0 k c h
  match k,h with
  | 0,h=>cases h;exact h0
  | k+1,h=>simp at h
 have zero:∀ {P:Nat->Int->Prop},∀(k:Nat) (c:Int),([]:List Int)[k]?=some c->P k c:=λk c h=>by simp at h
 unfold a9M at h
 repeat' split at h
 all_goals first|(cases h;done)|skip
 all_goals
  cases h;rename_i h
  first
  | (rcases h with h|h|h <;> subst h <;> exact⟨(key _ _ rfl rfl rfl zero rfl rfl).1,(key _ _ rfl rfl rfl zero rfl rfl).2,.inr ⟨rfl,rfl⟩⟩)
  | (rcases h with h|h <;> subst h <;> first|exact⟨(key _ _ rfl rfl rfl zero rfl rfl).1,(key _ _ rfl rfl rfl zero rfl rfl).2,.inr ⟨rfl,rfl⟩⟩|exact⟨(key _ _ rfl rfl rfl (one rfl rfl) rfl rfl).1,(key _ _ rfl rfl rfl (one rfl rfl) rfl rfl).2,.inr ⟨rfl,rfl⟩⟩)
  | (subst h;exact⟨(key _ _ rfl rfl rfl zero rfl rfl).1,(key _ _ rfl rfl rfl zero rfl rfl).2,.inl ⟨rfl,rfl,by decide⟩⟩)
  | (subst h;exact⟨(key _ _ rfl rfl rfl (two rfl rfl rfl) rfl rfl).1,(key _ _ rfl rfl rfl (two rfl rfl rfl) rfl rfl).2,.inr ⟨rfl,rfl⟩⟩)
theorem b40:∀(t:Ty),t.parts.length<=1048576->(∀x∈t.parts,x.name.size<=1048576)->∀(row:Bool) (es:List (R×R)) (s:Int->Option Bool),SAt es s ->
  j3 30 [.mp 0,.ag (ofD (cT t)),vb row] [.mp 3 es] (a5A (c9 j4 t (sI row) && (E6 t.parts s).isSome) (E6 t.parts s)):=by
 intro t
 induction t using Ty.ind with
 | h t ih =>
  intro hN hnm row es s hes;have hkl:=o7 t;have hself:=hnm t (by rw[r6];exact c27 ..);have hkn:∀x∈t.kids,∀y∈x.parts,y.name.size<=1048576:=λx hx y hy=>hnm y (by rw[d5];exact c26 _ (c2U.2 ⟨x,hx,hy⟩))
  have ih2:∀x∈t.kids,∀(row:Bool) (es:List (R×R)) (s:Int->Option Bool),SAt es s->j3 30 [.mp 0,.ag (ofD (cT x)),vb row] [.mp 3 es] (a5A (c9 j4 x (sI row) && (E6 x.parts s).isSome) (E6 x.parts s)):=λx hx=>ih x hx (by have:=hkl.2 x hx;omega) (hkn x hx)
  have hsh:=a2R j4 t (sI row)
  have hpm:E6 t.parts s=match vbl t with|none=>E6 (o5 t.kids) s|some p=>if s p.1=some (!p.2) then none else E6 (o5 t.kids) (a7w s p.1 p.2):=by
   rw[r6,E6];cases vbl t <;> rfl
  obtain⟨op,nm,n,ks⟩:=t;simp only[Ty.kids,Ty.op] at hkl ih2 hsh hpm;have hself:nm.size<=1048576:=hself;generalize hbb:(c9 j4 (.mk op nm n ks) (sI row) && (E6 (Ty.mk op nm n ks).parts s).isSome)=b;generalize hFF:E6 (Ty.mk op nm n ks).parts s=F at *;rw[cT];have hb:Tryd.f30.body=some (.seq (H7 (Tryd.f30.body.getD .skip)) (.seq (H7 (f7 (Tryd.f30.body.getD .skip))) (.seq (H7 (f7 (f7 (Tryd.f30.body.getD .skip)))) (.seq (H7 (f7 (f7 (f7 (Tryd.f30.body.getD .skip))))) (f7 (f7 (f7 (f7 (Tryd.f30.body.getD .skip))))))))):=by kernel_rfl
  refine b0V Tryd.func30 hb (by kernel_rfl) (by kernel_rfl) (by kernel_rfl) ?_;intro qa qb qc qd qe qf qg qh qi qj qk ql qm qo qp qq qs qt qu qv qw qx qy qz va vc vd ve vf vg vh vj vk vl vp vq vr vt vu vv vw vx vy;intros;rename_i hA;refine b5o op nm n (rT ks) row es _ _ ?_ ?_ qa qb qc qd qe qf qg qh qi qj qk ql qm qo qp qq qs qt qu qv qw qx qy qz va vc vd ve vf vg vh vj vk vl vp vq vr vt vu vv vw vx vy hA
  ·intro kn a c hask j12 j13 j14 j15 j16 j17 j18 j19 j20 j21 j22 j23 j24 j25 j26 j27 j28 j29 j30 j31;obtain⟨hh,⟨kk,hkk1,hkk2,hkk3⟩,hv⟩:=b59 hask nm n ks row;rw[hkk1] at hsh;have hsh:c9 j4 (.mk op nm n ks) (sI row)=(a2Q j4 (.mk op nm n ks) (sI row) && n6 j4 ks kk):=hsh;rw[hh] at hsh;have hbody:=b22 op nm n ks row es s kn a c j12 j13 j14 j15 j16 j17 j18 j19 j20 j21 j22 j23 j24 j25 j26 j27 j28 j29 j30 j31 kk b F hes hself (by omega) (λh=>by omega) hkk3 (λh=>by rw[<-hbb,hsh,h,c3R]) (λh=>by rw[<-hbb,hsh,h,Bool.false_and,Bool.false_and]) (λh=>?_) ih2 qa qb qc qd qe qf qg qh qi qj qk ql qm qo qp qq qs qt qu qv qw qx qy qz va vc vd ve vf vg vh vj vk vl vp vq vr vt vu vv vw vx vy hA
   ·rw[hA] at hbody ⊢;exact hbody
   ·rw[hpm]
    rcases hv with⟨rfl,hv,ho⟩|⟨rfl,hv⟩
    ·rw[hv]
     have hr:decide (op=10)=row:=by
      unfold hd2 at h;have h1:(row == decide (8<=op))=true:=by revert h;cases (row == decide (8<=op)) <;> simp
      rw[c3q] at h1;rw[h1]
      rcases ho with rfl|rfl <;> rfl
     rw[hr];rfl
    ·rw[hv];rfl
  ·intro hn st ho h6;have hk:=b58 hn
   have hbf:b=false:=by
    rw[<-hbb,hsh];unfold a2Q;rw[show (Ty.mk op nm n ks).op=op from rfl,hk];rfl
   show vu 1 (a5A b F) [m8 st.t 6] st;rw[h6];exact d7 hA [0] ⟨rfl,rfl,rfl,rfl,by rw[ho];rfl,rfl,rfl,rfl⟩ ⟨es,rfl,hes.1,by rw[hbf],λh=>by rw[hbf] at h;cases h⟩
theorem b17 (t:Ty) (row:Bool):(c9 j4 t (sI row) && (E6 t.parts λ_=>none).isSome)=d8 t (sI row):=by rw[b5n];rfl
theorem a1j (t:Ty) (hN:t.parts.length<=1048576) (hnm:∀x∈t.parts,x.name.size<=1048576):m6 18 [.ag (cT t)] [.one (.sc (.bool (d8 t 116)))]:=by
 have h1:=b40 t hN hnm false [] (λ_=>none) SAt.nil;rw[b17] at h1;have e:d8 t (sI false)=d8 t 116:=rfl;rw[e] at h1;generalize d8 t 116=b at *;generalize E6 t.parts (λ_=>none)=F at *;obtain⟨c0,c1,c2,c3,hc⟩:∃c0 c1 c2 c3,cT t=[c0,c1,c2,c3]:=by obtain⟨op,nm,n,ks⟩:=t;exact⟨_,_,_,_,by rw[cT]⟩
 rw[hc] at h1 ⊢;refine Y8 Tryd.func18 rfl ?_;intros;rename_i hA;cbv
 repeat ((with_reducible apply b5 hA);cbv)
 refine c7 hA [1] h1 ⟨rfl,rfl,rfl,rfl,rfl,rfl,rfl⟩ ?_
 rintro res os2 ⟨es',rfl,hk',rfl,hm'⟩
 cbv
 repeat ((with_reducible apply b5 hA);cbv)
theorem b2M (t:Ty) (hN:t.parts.length<=1048576) (hnm:∀x∈t.parts,x.name.size<=1048576):m6 46 [.ag (cT t)] [.one (.sc (.bool (d8 t 114)))]:=by
 have h1:=b40 t hN hnm true [] (λ_=>none) SAt.nil;rw[b17] at h1;have e:d8 t (sI true)=d8 t 114:=rfl;rw[e] at h1;generalize d8 t 114=b at *;generalize E6 t.parts (λ_=>none)=F at *;obtain⟨c0,c1,c2,c3,hc⟩:∃c0 c1 c2 c3,cT t=[c0,c1,c2,c3]:=by obtain⟨op,nm,n,ks⟩:=t;exact⟨_,_,_,_,by rw[cT]⟩
 rw[hc] at h1 ⊢;refine Y8 Tryd.func46 rfl ?_;intros;rename_i hA;cbv
 repeat ((with_reducible apply b5 hA);cbv)
 refine c7 hA [1] h1 ⟨rfl,rfl,rfl,rfl,rfl,rfl,rfl⟩ ?_
 rintro res os2 ⟨es',rfl,hk',rfl,hm'⟩
 cbv
 repeat ((with_reducible apply b5 hA);cbv)
theorem a1K (t:Ty) (hN:t.parts.length<=1048576) (hnm:∀x∈t.parts,x.name.size<=1048576):m6 33 [.ag (cT t)] [.one (.sc (.bool (d8 t 116 || d8 t 114)))]:=by
 have h1:=a1j t hN hnm;have h2:=b2M t hN hnm;generalize d8 t 116=q1 at *;generalize d8 t 114=q2 at *;obtain⟨c0,c1,c2,c3,hc⟩:∃c0 c1 c2 c3,cT t=[c0,c1,c2,c3]:=by obtain⟨op,nm,n,ks⟩:=t;exact⟨_,_,_,_,by rw[cT]⟩
 rw[hc] at h1 h2 ⊢;refine Y8 Tryd.func33 rfl ?_;intros;rename_i hA;cbv;refine gn ?_;refine b9 hA _ h1 ?_ ?_
 ·rfl
 cases q1
 ·cbv
  repeat ((with_reducible apply b5 hA);cbv)
  refine b9 hA _ h2 ?_ ?_
  ·rfl
  cbv
  repeat ((with_reducible apply b5 hA);cbv)
 ·cbv
  repeat ((with_reducible apply b5 hA);cbv)
theorem a6b:∀ {a b:List Ty},a.length≠b.length->B5 a b=false
 | [],[],h=>absurd rfl h
 | [],_::_,_=>by simp[B5]
 | _::_,[],_=>by simp[B5]
 | x::a,y::b,h=>by rw[B5,a6b (a:=a) (b:=b) (by simpa using h),Bool.and_false]
theorem b0f {a b:List Ty} {k:Nat} {x y:Ty} (hx:a[k]?=some x) (hy:b[k]?=some y):B5 (a.drop k) (b.drop k)=(J9 x y && B5 (a.drop (k+1)) (b.drop (k+1))):=by
 obtain⟨h1,e1⟩:=c25.1 hx;obtain⟨h2,e2⟩:=c25.1 hy;rw[c2X h1,c2X h2,e1,e2,B5]
def fnD (f:Nat):D:=.sc (.func (.func f) #[] #[])
theorem c1B (f:Nat) (ks ks2:List Ty) (hN:ks.length<=1048576) (ih:∀x∈ks,∀y,m6 f [.ag (cT x),.ag (cT y)] [.one (.sc (.bool (J9 x y)))]) :
  m6 90 [.one (.sl 4 (rT ks)),.one (.sl 4 (rT ks2)),.one (fnD f)] [.one (.sc (.bool (B5 ks ks2)))]:=by
 generalize hb:B5 ks ks2=b;obtain⟨K,hK⟩:∃K,K=rT ks:=⟨_,rfl⟩;obtain⟨K2,hK2⟩:∃K,K=rT ks2:=⟨_,rfl⟩;rw[<-hK,<-hK2];refine Y8 Tryd.func90 rfl ?_;intro qa qb _ _ _ _ _ qh _ qj _ _ _ _ _ _ _ _ _ _ _ _ qy qz;intros;rename_i hA;cbv;refine gn ?_;try simp only[nc] at *
 obtain⟨e1,e2,e3,e4,e5,e6,e7,e8,e9⟩:=j8 hA;obtain⟨r1,r2,-⟩:=n9 hA;cases h4:qj (qy K) (qy K2)
 ·have h5:ks.length≠ks2.length:=by
   rw[e9,r1,r1,hK,hK2,E8,E8] at h4;intro h;rw[h] at h4
   simp at h4
  rw[<-hb,a6b h5]
  try cbv;exact fr
 ·have h5:ks.length=ks2.length:=by
   rw[e9,r1,r1,hK,hK2,E8,E8] at h4;rw[c3q] at h4;exact Int.ofNat.inj h4
  cbv;refine gn ?_;try simp only[nc] at *
  refine l9 hA (γ:=Int) (λz=>[(17,vi .i64 z)]) (λ_=>[]) (λz=>∃k:Nat,z=(k:Int)/\k<=ks.length/\B5 (ks.drop k) (ks2.drop k)=b) (λz=>ks.length - z.toNat) 0 ?_ ?_ ?_
  ·exact⟨0,rfl,c3d _,hb⟩
  ·cbv
  ·intro z hinv;cbv;refine gn ?_;try simp only[nc] at *
   obtain⟨k,hz,hk,hE⟩:=hinv;have hlen:qy K=(ks.length:Int):=by rw[r1,hK,E8]
   have hlt:qh z (qy K)=decide (k<ks.length):=by rw[e7,hlen,hz];exact c2Q.2 (by omega)
   by_cases h9:k<ks.length
   ·rw[c2J h9] at hlt;obtain⟨x,hx⟩:∃x,ks[k]?=some x:=⟨_,c28 h9⟩;obtain⟨y,hy⟩:∃y,ks2[k]?=some y:=⟨_,c28 (by omega)⟩;have hsp:=ih x (c2F hx) y;have hst:=b0f hx hy;obtain⟨x0,x1,x2,x3,hxx⟩:=d6 x;obtain⟨y0,y1,y2,y3,hyy⟩:=d6 y;have g1:qz K z=some [x0,x1,x2,x3]:=by rw[r2,hz,c2E (by omega),hK,c2T,a04 hx,hxx]
    have g2:qz K2 z=some [y0,y1,y2,y3]:=by rw[r2,hz,c2E (by omega),hK2,c2T,a04 hy,hyy]
    rw[hxx,hyy] at hsp;generalize J9 x y=c at *;have hz1:qa .i64 (qb z 1)=((k+1:Nat):Int):=by rw[e1,e2,hz,IntWalk.i64_in _ (by omega)];omega
    have hmu:ks.length - (qa .i64 (qb z 1)).toNat<ks.length - z.toNat:=by rw[hz1,hz];omega
    rw[hlt];cases c
    ·iterate 2 (try cbv;repeat ((first|with_reducible apply b5 hA|rw[g1]|rw[g2]|refine b9 hA _ hsp rfl ?_);cbv))
     try simp (maxSteps:=4000000) only [nc] at *
     rw[<-hE,hst];exact⟨rfl,trivial⟩
    ·iterate 2 (try cbv;repeat ((first|with_reducible apply b5 hA|rw[g1]|rw[g2]|refine b9 hA _ hsp rfl ?_);cbv))
     try simp (maxSteps:=4000000) only [nc] at *
     refine⟨qa .i64 (qb z 1),⟨k+1,hz1,h9,by rw[<-hE,hst];rfl⟩,hmu,?_⟩;cbv
   ·rw[c2G h9] at hlt;rw[hlt];cbv;refine gn ?_;rw[<-hE,c3j (by omega),c3j (by omega),B5];exact⟨rfl,trivial⟩
theorem b76:∀t u:Ty,t.parts.length<=1048576->m6 83 [.ag (cT t),.ag (cT u)] [.one (.sc (.bool (J9 t u)))]:=by
 intro t
 induction t using Ty.ind with
 | h t ih =>
  intro u hN;have hkl:=o7 t;obtain⟨op,nm,n,ks⟩:=t;obtain⟨op2,nm2,n2,ks2⟩:=u;simp only[Ty.kids] at hkl ih;have hE:=c1B 83 ks ks2 (by omega) (λx hx y=>ih x hx y (by have:=hkl.2 x hx;omega));rw[cT,cT];have hb:J9 (.mk op nm n ks) (.mk op2 nm2 n2 ks2)=((op == op2) && ((nm.toList == nm2.toList) && ((n == n2) && B5 ks ks2))):=by rw[J9]
  generalize hbb:J9 (.mk op nm n ks) (.mk op2 nm2 n2 ks2)=b at *;generalize B5 ks ks2=b4 at *;generalize rT ks=K at *;generalize rT ks2=K2 at *;refine Y8 Tryd.func83 rfl ?_;intro _ _ _ _ _ _ _ _ _ qj _ ql _ qo;intros;rename_i hA;cbv;refine gn ?_;obtain⟨e1,e2,e3,e4,e5,e6,e7,e8,e9⟩:=j8 hA;obtain⟨s1,s2,s3,-⟩:=A3 hA;have t1:qj op op2=(op == op2):=e9 _ _;have t2:ql (qo nm) (qo nm2)=(nm.toList == nm2.toList):=by rw[s1,s3,s3]
  have t3:qj n n2=(n == n2):=e9 _ _;generalize (op == op2)=b1 at *;generalize (nm.toList == nm2.toList)=b2 at *;generalize (n == n2)=b3 at *;unfold fnD at hE;subst hb;cases b1
  ·rw[t1]
   try cbv;exact fr
  ·rw[t1];cases b2
   ·try cbv;exact fr
   ·cases b3
    ·try cbv;exact fr
    ·iterate 2 (try cbv;repeat ((first|with_reducible apply b5 hA|rw[t1]|rw[t2]|rw[t3]|refine b9 hA _ hE rfl ?_);cbv))
def r7 (t:Ty):Bool:=d8 t 116 || d8 t 114
def Sm (t:Ty):Prop:=t.parts.length<=1048576/\∀x∈t.parts,x.name.size<=1048576
theorem j7 {t:Ty} {s:Int} (h:d8 t s=true):c9 j4 t s=true/\M6 t=true:=by
 unfold d8 at h
 rwa [c2B] at h
theorem b0g {t:Ty} (h:r7 t=true):∃s,c9 j4 t s=true:=by
 unfold r7 at h;rw[c38] at h
 rcases h with h|h
 ·exact⟨_,(j7 h).1⟩
 ·exact⟨_,(j7 h).1⟩
theorem I4 {t:Ty} (h:r7 t=true):C4 t:=by
 obtain⟨s,h⟩:=b0g h;exact j5 h
theorem m6.mono {f:Nat} {rs q q':List R} (h:m6 f rs q) (hq:∀I w v,a28 I w v q->a28 I w v q'):m6 f rs q' :=
 ⟨h.1,λI w args h1 h2=>(h.2 I w args h1 h2).mono λe w' ⟨v,e1,e2,e3⟩=>⟨v,e1,hq _ _ _ e2,e3⟩⟩
theorem AtD.empty {I:Nat->Nat->Prop} {w:World} {v:Value} {n:Nat} (m:Nat) (h:AtD I w v (.sl n [])):AtD I w v (.sl m []):=by
 generalize hr:([]:List (List D))=rows at h;cases h with
 | nil A cap sz=>exact .nil _ _ _
 | sl b off cap sz rows us=>subst hr;exact .nil _ _ _
theorem s8.last {I:Nat->Nat->Prop} {w:World} {us:List Value} {xs:List D} {x y:D} (h:s8 I w us (xs++[x])) (hx:∀u,AtD I w u x->AtD I w u y):s8 I w us (xs++[y]):=by
 refine⟨by have:=h.1;simpa using this,λi u d hu hd=>?_⟩
 rcases c3o i xs.length with hlt|hge
 ·rw[c2R hlt] at hd;exact h.2 i u d hu (by rw[c2R hlt];exact hd)
 ·rw[c2P hge] at hd
  obtain e:i - xs.length=0:=by
   have:=(c25.1 hd).1
   simp at this
   omega
  rw[e] at hd
  simp at hd
  subst hd;exact hx u (h.2 i u x hu (by rw[c2P hge,e];rfl))
theorem m6.sl0 {f:Nat} {rs:List R} {a b c:D} {n:Nat} (m:Nat) (h:m6 f rs [.ag [a,b,c,.sl n []]]):m6 f rs [.ag [a,b,c,.sl m []]]:=h.mono λI w v hv=>by
 obtain⟨us,rfl,h2⟩:=hv;exact⟨us,rfl,s8.last (xs:=[a,b,c]) h2 λu hu=>hu.empty m⟩
theorem a6w (t:Ty) (ht:Sm t):m6 27 [.ag (cT t)] [.ag (cT (if r7 t=true then b6 t else a2P))]:=by
 have h1:=a1K t ht.1 ht.2;have hb:(d8 t 116 || d8 t 114)=r7 t:=rfl;rw[hb] at h1
 by_cases he:r7 t=true
 ·rw[c2E he];have h2:=a3c _ t (c2A _) ht.1 (I4 he);rw[he] at h1;obtain⟨a0,a1,a2,a3,ha⟩:=d6 t;obtain⟨c0,c1,c2,c3,hc⟩:=d6 (b6 t);rw[ha] at h1 h2;rw[hc] at h2;rw[ha,hc];refine Y8 Tryd.func27 rfl λqa qb qc qd qe qf qg qh qi qj qk ql qm qo qp qq qs qt qu qv qw qx qy qz va vc vd ve vf vg vh vj vk vl vp vq vr vt vu vv vw vx vy hA=>?_
  iterate 2 (try cbv;repeat ((first|with_reducible apply b5 hA|refine b9 hA _ h1 rfl ?_|refine b9 hA _ h2 rfl ?_);cbv))
 ·have he:r7 t=false:=by simpa using he
  rw[he,c2H (by simp)];rw[he] at h1;obtain⟨a0,a1,a2,a3,ha⟩:=d6 t;rw[ha] at h1 ⊢;unfold a2P;rw[cT,rT];refine m6.sl0 (n:=0) 4 ?_;refine Y8 Tryd.func27 rfl λqa qb qc qd qe qf qg qh qi qj qk ql qm qo qp qq qs qt qu qv qw qx qy qz va vc vd ve vf vg vh vj vk vl vp vq vr vt vu vv vw vx vy hA=>?_
  iterate 2 (try cbv;repeat ((first|with_reducible apply b5 hA|refine b9 hA _ h1 rfl ?_);cbv))
def b41 (a b:Ty):Bool:=r7 a && (r7 b && J9 (b6 a) (b6 b))
theorem c0K (t u:Ty) (ht:Sm t) (hu:Sm u):m6 71 [.ag (cT t),.ag (cT u)] [.one (.sc (.bool (b41 t u)))]:=by
 have h1:=a1K t ht.1 ht.2;have h2:=a1K u hu.1 hu.2;have hb1:(d8 t 116 || d8 t 114)=r7 t:=rfl;have hb2:(d8 u 116 || d8 u 114)=r7 u:=rfl;rw[hb1] at h1;rw[hb2] at h2;have h3:=λh=>a3c _ t (c2A _) ht.1 (I4 h)
 have h4:=λh=>a3c _ u (c2A _) hu.1 (I4 h)
 have h5:=λh=>b76 (b6 t) (b6 u) (by rw[B6 _ t (c2A _) (I4 h)];exact ht.1)
 unfold b41;generalize J9 (b6 t) (b6 u)=c at *;generalize r7 t=b1 at *;generalize r7 u=b2 at *;obtain⟨a0,a1,a2,a3,ha⟩:=d6 t;obtain⟨d0,d1,d2,d3,hd⟩:=d6 u;obtain⟨x0,x1,x2,x3,hx⟩:=d6 (b6 t);obtain⟨y0,y1,y2,y3,hy⟩:=d6 (b6 u);rw[ha] at h1 h3;rw[hd] at h2 h4;rw[hx] at h3 h5;rw[hy] at h4 h5;rw[ha,hd];cases b1
 ·refine Y8 Tryd.func71 rfl λqa qb qc qd qe qf qg qh qi qj qk ql qm qo qp qq qs qt qu qv qw qx qy qz va vc vd ve vf vg vh vj vk vl vp vq vr vt vu vv vw vx vy hA=>?_
  iterate 2 (try cbv;repeat ((first|with_reducible apply b5 hA|refine c5 hA _ h1 ?_);cbv))
 ·cases b2
  ·refine Y8 Tryd.func71 rfl λqa qb qc qd qe qf qg qh qi qj qk ql qm qo qp qq qs qt qu qv qw qx qy qz va vc vd ve vf vg vh vj vk vl vp vq vr vt vu vv vw vx vy hA=>?_
   iterate 2 (try cbv;repeat ((first|with_reducible apply b5 hA|refine c5 hA _ h1 ?_|refine c5 hA _ h2 ?_);cbv))
  ·replace h3:=h3 rfl;replace h4:=h4 rfl;replace h5:=h5 rfl;refine Y8 Tryd.func71 rfl λqa qb qc qd qe qf qg qh qi qj qk ql qm qo qp qq qs qt qu qv qw qx qy qz va vc vd ve vf vg vh vj vk vl vp vq vr vt vu vv vw vx vy hA=>?_
   iterate 2 (try cbv;repeat ((first|with_reducible apply b5 hA|refine c5 hA _ h1 ?_|refine c5 hA _ h2 ?_|refine c5 hA _ h3 ?_|refine c5 hA _ h4 ?_|refine c5 hA _ h5 ?_);cbv))
theorem b77 (t:Ty) (ht:Sm t) (hr:d8 t 114=true):j3 72 [.ag (ofD (cT t))] [] (λres os'=>res=[.own 0,.ag (ofD (cT (j0 t)))]/\os'=[.row false 73 (rF (i6 K5 (c6 t)))]):=by
 have h1:=b2M t ht.1 ht.2;rw[hr] at h1;have h2:=a1F t ht.1;have h3:=b2B t (j5 (j7 hr).1).self ht.1;obtain⟨Q,hQ⟩:∃Q,Q=rF (i6 K5 (c6 t)):=⟨_,rfl⟩;rw[<-hQ] at h3 ⊢;obtain⟨a0,a1,a2,a3,ha⟩:=d6 t;obtain⟨q0,q1,q2,q3,hq⟩:=d6 (j0 t);rw[ha] at h1 h2 h3 ⊢;rw[hq] at h3 ⊢;refine so9 Tryd.func72 rfl ?_;intros;rename_i hA
 iterate 2 (try cbv;repeat ((first|with_reducible apply b5 hA|refine b9 hA _ h1 rfl ?_|refine b9 hA _ h2 rfl ?_|(refine c7 hA [] h3 ⟨rfl,rfl,rfl,rfl,rfl,rfl,rfl⟩ ?_;rintro res os2 ⟨rfl,rfl⟩));cbv))
 try simp (maxSteps:=4000000) only [nc] at *
 exact d7 hA [2] ⟨rfl,rfl,rfl,rfl,rfl,rfl,rfl,rfl⟩ ⟨rfl,rfl⟩
def rB (l:List (Int×Ty)):List (List D):=l.map λp=>.sc (.int .i64 p.1)::cT p.2
theorem a4m (l:List (Int×Ty)):(rB l).length=l.length:=by rw[rB,c3f]
theorem b8X (l:List (Int×Ty)) (p:Int×Ty):rB (l++[p])=rB l++[.sc (.int .i64 p.1)::cT p.2]:=by unfold rB;rw[c3G];rfl
theorem b0h {l:List (Int×Ty)} {k:Nat} {p:Int×Ty} (h:l[k]?=some p):(rB l)[k]?=some (.sc (.int .i64 p.1)::cT p.2):=by rw[rB,c3i,h];rfl
theorem b8Y {α:Type} {l:List α} {k:Nat} {x:α} (h:l[k]?=some x):l.drop k=x::l.drop (k+1):=by
 obtain⟨hk,e⟩:=c25.1 h;rw[c2X hk,e]



def a1z (row:Bool) (t:Ty):Bool:=match row with|true=>d8 t 114|false=>d8 t 116
def ofS (l:List (Int×Ty)) (n:Int) (row:Bool):Option (Int×Ty):=l.find? λp=>(p.1 == n) && a1z row p.2
end Go.Proofs.YtlofmibkljoapaaDoor.Vm
end
section
namespace Go.Proofs.YtlofmibkljoapaaDoor.Vm
open Go.RowKit
set_option maxRecDepth 100000
set_option maxHeartbeats 8000000
mutual
def B4 (l:List (Int×Ty)):Ty->Ty
 | .mk op nm n ks=>if op=7\/op=10 then (match ofS l n (op == 10) with|some p=>p.2|none=>.mk op nm n ks) else .mk op nm n (a7G l ks)
def a7G (l:List (Int×Ty)):List Ty->List Ty
 | []=>[]
 | t::ts=>B4 l t::a7G l ts
end
theorem a8W (l:List (Int×Ty)):∀ts:List Ty,a7G l ts=ts.map (B4 l)
 | []=>rfl
 | t::ts=>by rw[a7G,a8W l ts];rfl
end Go.Proofs.YtlofmibkljoapaaDoor.Vm
end
section
namespace Go.Proofs.YtlofmibkljoapaaDoor.Vm
open Go.RowKit
set_option maxRecDepth 100000
set_option maxHeartbeats 4000000
section
theorem a7H (t:Ty) (ht:Sm t) (he:r7 t=true):j3 27 [.ag (ofD (cT t))] [] (a8p (b6 t)):=by
 have h1:=a1K t ht.1 ht.2;have hb:(d8 t 116 || d8 t 114)=r7 t:=rfl;rw[hb,he] at h1;have h2:=b16 _ t (c2A _) ht.1 (I4 he);obtain⟨a0,a1,a2,a3,ha⟩:=d6 t;rw[ha] at h1 h2;rw[ha];show j3 _ _ _ (a05 (.int .u8 (b6 t).op) (.string (b6 t).name) (.int .i64 (b6 t).n) (rT (b6 t).kids));replace h2:j3 _ _ _ (a05 (.int .u8 (b6 t).op) (.string (b6 t).name) (.int .i64 (b6 t).n) (rT (b6 t).kids)):=h2;generalize (b6 t).op=yop at *;generalize (b6 t).name=ynm at *;generalize (b6 t).n=yn at *;generalize rT (b6 t).kids=yK at *;refine so9 Tryd.func27 rfl ?_;intros;rename_i hA;cbv
 repeat ((with_reducible apply b5 hA);cbv)
 refine b9 hA _ h1 rfl ?_;cbv
 repeat ((with_reducible apply b5 hA);cbv)
 refine c7 hA [] h2 ⟨rfl,rfl,rfl,rfl,rfl,rfl,rfl⟩ ?_
 rintro _ _ ⟨rfl,zz,rfl⟩
 cbv
 repeat ((with_reducible apply b5 hA);cbv)
 exact d7 hA [2] ⟨rfl,rfl,rfl,rfl,rfl,rfl,rfl,rfl⟩ ⟨rfl,zz,rfl⟩
section
variable {qa:_} {qb:_} {qc:_} {qd:_} {qe:_} {qf:_} {qg:_} {qh:_} {qi:_} {qj:_} {qk:_} {ql:_} {qm:_} {qo:_} {qp:_} {qq:_} {qs:_} {qt:_} {qu:_} {qv:_} {qw:_} {qx:_} {qy:_} {qz:_} {va:_} {vc:_} {vd:_} {ve:_} {vf:_} {vg:_} {vh:_} {vj:_} {vk:_} {vl:_} {vp:_} {vq:_} {vr:_} {vt:_} {vu:_} {vv:_} {vw:_} {vx:_} {vy:_} (hA:Ar.mk qa qb qc qd qe qf qg qh qi qj qk ql qm qo qp qq qs qt qu qv qw qx qy qz va vc vd ve vf vg vh vj vk vl vp vq vr vt vu vv vw vx vy=a7)
include hA
theorem b18 {f:Nat} {vs:List V} {s:S} {K:V->S->Prop} {Q:V->List O->List Nat->Prop} (h:M8 f vs s.o Q) (hK:∀x o' ks,Q x o' ks->K x ⟨z6 ks s.t,o'⟩):vp f vs s K:=by
 have e:vp=a7.callo:=congrArg Ar.callo hA;rw[e];exact h.mono hK
end
theorem b5A {f:Nat} {fn:Func} {c:Code} {vs:List V} {os:List O} {Q:V->List O->List Nat->Prop} (hf:Tryd.prog.funcs[f]?=some fn) (hb:fn.body=some c) (hn:(fn.name != "runtime.NumGoroutine")=true) (hc:o9 Tryd.prog c=true) (hr:M5 fn.results.toList=true)
  (h:∀qa qb qc qd qe qf qg qh qi qj qk ql qm qo qp qq qs qt qu qv qw qx qy qz va vc vd ve vf vg vh vj vk vl vp vq vr vt vu vv vw vx vy,Ar.mk qa qb qc qd qe qf qg qh qi qj qk ql qm qo qp qq qs qt qu qv qw qx qy qz va vc vd ve vf vg vh vj vk vl vp vq vr vt vu vv vw vx vy=a7->∀K:V->List O->List Nat->Prop,(∀x o' ks,Q x o' ks->K x o' ks)->w5 (Ar.mk qa qb qc qd qe qf qg qh qi qj qk ql qm qo qp qq qs qt qu qv qw qx qy qz va vc vd ve vf vg vh vj vk vl vp vq vr vt vu vv vw vx vy) c (L3 vs os (fn.ntmps - m9 vs)) (λx s=>a3Z (Ar.mk qa qb qc qd qe qf qg qh qi qj qk ql qm qo qp qq qs qt qu qv qw qx qy qz va vc vd ve vf vg vh vj vk vl vp vq vr vt vu vv vw vx vy) (j2 os) K fn.results.toList x s)):M8 f vs os Q :=
 a9H hf hb hn hc hr (h _ _ _ _ _ _ _ _ _ _ _ _ _ _ _ _ _ _ _ _ _ _ _ _ _ _ _ _ _ _ _ _ _ _ _ _ _ _ _ _ _ _ _ (show Ar.mk a7.wrap a7.add a7.sub a7.mul a7.quo a7.rem a7.bits a7.lt a7.le a7.eq a7.nz a7.seq a7.slt a7.bytes a7.cat a7.fits a7.slen a7.sget a7.ssub a7.txt a7.byt a7.nat a7.len a7.get a7.sub2 a7.app a7.set a7.room a7.mlook a7.mput a7.deq a7.rep a7.call a7.calld a7.callo a7.callx a7.new a7.lit a7.keep a7.next a7.ext a7.reg a7.loop=a7 from rfl) Q λ_ _ _ h=>h)
def a1L (n:Int) (row:Bool):List (Int×Ty)->Nat->Option Nat
 | [],_=>none
 | p::l,i=>if ((p.1 == n) && a1z row p.2)=true then some i else a1L n row l (i+1)
def c0L (o:Option Nat):Int:=match o with|some i=>(i:Int)|none=>-1
theorem b19 (n:Int) (row:Bool):∀(l:List (Int×Ty)) (i:Nat),(a1L n row l i=none/\ofS l n row=none)\/∃j p,a1L n row l i=some (i+j)/\l[j]?=some p/\ofS l n row=some p/\a1z row p.2=true
 | [],i=>.inl ⟨rfl,rfl⟩
 | p::l,i=>by
  unfold a1L ofS;cases h:(p.1 == n) && a1z row p.2
  ·rw[c2H (by simp),c4E (by simp[h])]
   rcases b19 n row l (i+1) with⟨h1,h2⟩|⟨j,q,h1,h2,h3,h4⟩
   ·exact .inl ⟨h1,h2⟩
   ·exact .inr ⟨j+1,q,by rw[h1];congr 1;omega,by simpa using h2,h3,h4⟩
  ·rw[c2E rfl,List.find?_cons_of_pos (by simp[h])];simp only[c2B] at h;exact .inr ⟨0,p,rfl,rfl,rfl,h.2⟩
def b5B (row:Bool):Nat:=match row with|true=>46|false=>18
theorem c1C (row:Bool) (t:Ty) (h:Sm t):m6 (b5B row) [.ag (cT t)] [.one (.sc (.bool (a1z row t)))]:=by
 cases row with
 | true=>exact b2M t h.1 h.2
 | false=>exact a1j t h.1 h.2
theorem b5C (l:List (Int×Ty)) (hl:l.length<=1048576) (hlp:∀p∈l,Sm p.2) (op nm:Value) (n:Int) (row:Bool) (P:World->Value->List Nat->Prop) :
  M8 47 [.d (.sl 5 (rB l)),.cl 48 [1,3]] [.it P,.box [.d (.sc op),.d (.sc nm),.d (.sc (.int .i64 n)),.own 0],.box [.d (.sc (.int .u8 0)),.d (.sc (.string ⟨#[]⟩)),.d (.sc (.int .i64 0)),.em],.box [.cl (b5B row) []]]
   (λv o' ks=>v=vi .i64 (c0L (a1L n row l 0))/\o'=[.it P,.box [.d (.sc op),.d (.sc nm),.d (.sc (.int .i64 n)),.own 0],.box [.d (.sc (.int .u8 0)),.d (.sc (.string ⟨#[]⟩)),.d (.sc (.int .i64 0)),.em],.box [.cl (b5B row) []]]/\ks=[]):=by
 refine b5A Tryd.func47 rfl (by kernel_rfl) (by kernel_rfl) (by kernel_rfl) ?_;intro qa qb _ _ _ _ _ qh _ qj _ _ _ _ _ _ _ _ _ _ _ _ qy qz;intros;rename_i hA K hK;obtain⟨B,hB⟩:∃B,B=rB l:=⟨_,rfl⟩;obtain⟨r,hr⟩:∃r,r=a1L n row l 0:=⟨_,rfl⟩;rw[<-hB];have hfit:∀p∈l,m6 (b5B row) [.ag (cT p.2)] [.one (.sc (.bool (a1z row p.2)))]:=λp hp=>c1C row p.2 (hlp p hp)
 generalize hfF:b5B row=F at *;obtain⟨e1,e2,e3,e4,e5,e6,e7,e8,e9⟩:=j8 hA;obtain⟨r1,r2,r3,r4⟩:=n9 hA;cbv
 repeat ((with_reducible apply b5 hA);cbv)
 refine l9 hA (γ:=Int) (λx=>[(8,vi .i64 x)]) (λx=>[]) (λx=>∃k:Nat,x=(k:Int)/\k<=l.length/\a1L n row (l.drop k) k=r) (λx=>l.length - x.toNat) 0 ?_ ?_ ?_
 ·exact⟨0,rfl,c3d _,hr.symm⟩
 ·cbv
 ·intro z hinv;cbv
  repeat ((with_reducible apply b5 hA);cbv)
  try simp (maxSteps:=4000000) only [nc] at *
  obtain⟨k,hz,hk,hE⟩:=hinv;have hll:qy B=((l.length:Nat):Int):=by rw[r1,hB,a4m]
  have hlt:qh z (qy B)=decide (k<l.length):=by rw[e7,hll,hz];exact c2Q.2 (by omega)
  by_cases h9:k<l.length
  ·rw[c2J h9] at hlt;obtain⟨p,hp⟩:∃p,l[k]?=some p:=⟨_,c28 h9⟩;have hspx:=hfit p (c2F hp);have hdr:=b8Y hp;rw[hdr] at hE;unfold a1L at hE;have gx:qz B z=some (.sc (.int .i64 p.1)::cT p.2):=by rw[r2,hz,c2E (by omega),hB,show ((k:Int)).toNat=k by omega,b0h hp]
   obtain⟨pn,pt⟩:=p;simp only at hspx hE gx;obtain⟨x0,x1,x2,x3,hxx⟩:=d6 pt;rw[hxx] at hspx gx;generalize a1z row pt=fb at *;have hq:qj pn n=(pn == n):=e9 _ _;have hz1:qa .i64 (qb z 1)=((k+1:Nat):Int):=by rw[e1,e2,hz,IntWalk.i64_in _ (by omega)];omega
   have hmu:l.length - (qa .i64 (qb z 1)).toNat<l.length - z.toNat:=by rw[hz1,hz];omega
   rw[hlt]
   iterate 2 (try cbv;repeat ((first|with_reducible apply b5 hA|rw[gx]);cbv))
   try simp (maxSteps:=4000000) only [nc] at *
   refine b20 hA Tryd.func48 rfl (by kernel_rfl) (by kernel_rfl) (by kernel_rfl) ?_;cbv;cases h1:qj pn n
   ·rw[hq] at h1;rw[h1] at hE;replace hE:a1L n row (l.drop (k+1)) (k+1)=r:=by simpa using hE
    rw[<-hq] at h1
    iterate 2 (try cbv;repeat ((first|with_reducible apply b5 hA|rw[h1]);cbv))
    try simp (maxSteps:=4000000) only [nc] at *
    refine⟨qa .i64 (qb z 1),⟨k+1,hz1,h9,hE⟩,hmu,?_⟩;cbv
   ·rw[hq] at h1;rw[h1] at hE;rw[<-hq] at h1;cases fb
    ·replace hE:a1L n row (l.drop (k+1)) (k+1)=r:=by simpa using hE
     iterate 2 (try cbv;repeat ((first|with_reducible apply b5 hA|rw[h1]|refine b9 hA _ hspx rfl ?_);cbv))
     try simp (maxSteps:=4000000) only [nc] at *
     refine⟨qa .i64 (qb z 1),⟨k+1,hz1,h9,hE⟩,hmu,?_⟩;cbv
    ·replace hE:some k=r:=by simpa using hE
     iterate 2 (try cbv;repeat ((first|with_reducible apply b5 hA|rw[h1]|refine b9 hA _ hspx rfl ?_);cbv))
     try simp (maxSteps:=4000000) only [nc] at *
     exact hK _ _ _ ⟨by rw[<-hr,<-hE];show V.d (.sc (.int .i64 z))=V.d (.sc (.int .i64 (k:Int)));rw[hz],rfl,rfl⟩
  ·rw[c2G h9] at hlt;rw[hlt];cbv
   repeat ((with_reducible apply b5 hA);cbv)
   rw[show k=l.length by omega,List.drop_length] at hE;exact hK _ _ _ ⟨by rw[<-hr,<-hE];rfl,rfl,rfl⟩
end
end Go.Proofs.YtlofmibkljoapaaDoor.Vm
end

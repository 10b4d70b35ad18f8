/- Part 12 of the proof. Conditions: none. -/
import Derived.Test.YtncijebklnbhlaaGreatDoorQ4
import Derived.Test.YtncijebklnbhlaaGreatDoorQ11
set_option linter.all false
set_option linter.unusedVariables false
set_option linter.unusedSimpArgs false
section
namespace Go.Proofs.YtncijebklnbhlaaGreatDoor.Vm
open Go.RowKit
set_option maxRecDepth 100000
set_option maxHeartbeats 8000000
theorem b7p (fid:Nat) (hc:a9a fid) (N:Nat) (ih:c0P fid N) (P U V S:List Rw) (hNN:U.length+V.length<=N+1) (hU2:2<=U.length) (hV2:2<=V.length) (h5:∀x∈P++(U++(V++S)),Ok5 x) (hN:(P++(U++(V++S))).length<=1048576) (hU:T0 B5 U) (hV:T0 B5 V) :
  K3 116 [.own 0,vi .i64 P.length,vi .i64 (P.length+U.length:Nat),vi .i64 (P.length+U.length+V.length:Nat),.cl fid []] [.row false 74 (P++(U++(V++S)))] (λres os=>res=[]/\os=[.row false 74 (P++(j9 B5 (U++V)++S))]):=by
 obtain⟨a,ea⟩:∃a,a=P.length:=⟨_,rfl⟩;obtain⟨m,em⟩:∃m,m=P.length+U.length:=⟨_,rfl⟩;obtain⟨b,eb⟩:∃b,b=P.length+U.length+V.length:=⟨_,rfl⟩;obtain⟨mid,emid⟩:∃mid,mid=(a+b) / 2:=⟨_,rfl⟩;obtain⟨za,hza⟩:∃z:Int,z=(a:Int):=⟨_,rfl⟩;obtain⟨zm,hzm⟩:∃z:Int,z=(m:Int):=⟨_,rfl⟩;obtain⟨zb,hzb⟩:∃z:Int,z=(b:Int):=⟨_,rfl⟩;obtain⟨zc,hzc⟩:∃z:Int,z=(mid:Int):=⟨_,rfl⟩;obtain⟨zn,hzn⟩:∃z:Int,z=((mid+m:Nat):Int):=⟨_,rfl⟩;obtain⟨p,hp⟩:∃p,p+1=mid+m:=⟨mid+m - 1,by omega⟩;obtain⟨L,hL⟩:∃L,L=P++(U++(V++S)):=⟨_,rfl⟩;obtain⟨M,hM⟩:∃M,M=P++(j9 B5 (U++V)++S):=⟨_,rfl⟩;rw[<-eb,<-em,<-ea,<-hza,<-hzm,<-hzb,<-hM,<-hL];rw[<-hL] at h5 hN;have hLl:L.length=a+U.length+V.length+S.length:=by rw[hL,ea];simp only[List.length_append];omega
 have hUL:U.length=m - a:=by omega
 have hVL:V.length=b - m:=by omega
 have ham:a<m:=by omega
 have hmb:m<b:=by omega
 have hb:Tryz.f116.body=some (.seq (I7 (Tryz.f116.body.getD .skip)) (.seq (I7 (m7 (Tryz.f116.body.getD .skip))) (.seq (I7 (m7 (m7 (Tryz.f116.body.getD .skip)))) (.seq (I7 (m7 (m7 (m7 (Tryz.f116.body.getD .skip))))) (.seq (I7 (m7 (m7 (m7 (m7 (Tryz.f116.body.getD .skip)))))) (.seq (I7 (m7 (m7 (m7 (m7 (m7 (Tryz.f116.body.getD .skip))))))) (.seq (I7 (m7 (m7 (m7 (m7 (m7 (m7 (Tryz.f116.body.getD .skip)))))))) (.seq (I7 (m7 (m7 (m7 (m7 (m7 (m7 (m7 (Tryz.f116.body.getD .skip))))))))) (.seq (I7 (m7 (m7 (m7 (m7 (m7 (m7 (m7 (m7 (Tryz.f116.body.getD .skip)))))))))) (m7 (m7 (m7 (m7 (m7 (m7 (m7 (m7 (m7 (Tryz.f116.body.getD .skip))))))))))))))))))):=by kernel_rfl
 refine Z9 Tryz.func116 hb (by kernel_rfl) (by kernel_rfl) (by kernel_rfl) rfl rfl (by rintro _ _ ⟨_,rfl⟩;rfl) ?_;intros;rename_i hA K hK;have hend:∀t,b6U j1 1 K Tryz.f116.results.toList .normal ⟨t,[.row false 74 M,.kl []]⟩:=λt=>hK [] [.row false 74 M] ⟨rfl,rfl⟩
 rw[hA];refine b59 fid _ L a m b mid za zm zb zc zn hza hzm hzb hzc hzn emid (by omega) (by omega) (by omega) _ (λs0 r0 zs0 zr0 ws wr hW hsr hrm=>?_) _ _ _ _ _ _ _ _ _ _ _ _ _ _ _ _ _ _ _ _ _ _ _ _ _ _ _ _ _ _ _ _ _ _ _ _ _ _ _ _ _ _ _ (show Ar.mk j1.wrap j1.add j1.sub j1.mul j1.quo j1.rem j1.bits j1.lt j1.le j1.eq j1.nz j1.seq j1.slt j1.bytes j1.cat j1.fits j1.slen j1.sget j1.ssub j1.txt j1.byt j1.nat j1.len j1.get j1.sub2 j1.app j1.set j1.room j1.mlook j1.mput j1.deq j1.rep j1.call j1.calld j1.callo j1.callx j1.new j1.lit j1.keep j1.next j1.ext j1.reg j1.loop=j1 from rfl);refine b1E fid hc _ P U V S L a m b mid p s0 r0 za zm zb zc zn zs0 zr0 ea hUL hVL hL h5 hN hU hV emid ham hmb hp hW hsr hrm (by omega) hzn ws wr _ (λs zs hs hs1 hs3 hlo hhi=>?_) _ _ _ _ _ _ _ _ _ _ _ _ _ _ _ _ _ _ _ _ _ _ _ _ _ _ _ _ _ _ _ _ _ _ _ _ _ _ _ _ _ _ _ (show Ar.mk j1.wrap j1.add j1.sub j1.mul j1.quo j1.rem j1.bits j1.lt j1.le j1.eq j1.nz j1.seq j1.slt j1.bytes j1.cat j1.fits j1.slen j1.sget j1.ssub j1.txt j1.byt j1.nat j1.len j1.get j1.sub2 j1.app j1.set j1.room j1.mlook j1.mput j1.deq j1.rep j1.call j1.calld j1.callo j1.callx j1.new j1.lit j1.keep j1.next j1.ext j1.reg j1.loop=j1 from rfl);have hwb:=H2 hW emid ham hmb hs1 hs3;have hpa:=b9t hU hV hUL hVL hW emid ham hmb hp hs1 hs3 hlo hhi;obtain⟨e,he⟩:∃e,e=mid+m - s:=⟨_,rfl⟩;rw[<-he] at hpa hwb;obtain⟨U1,U2,hUs,hU1⟩:=a02 (l:=U) (n:=s - a) (by omega);obtain⟨V1,V2,hVs,hV1⟩:=a02 (l:=V) (n:=e - m) (by omega);rw[hUs,hVs,List.drop_left' hU1,List.take_left' hU1,List.drop_left' hV1,List.take_left' hV1] at hpa;have hul:U2.length=m - s:=by rw[hUs,List.length_append] at hUL;omega
 have hvl:V2.length=b - e:=by rw[hVs,List.length_append] at hVL;omega
 have sU:T0 B5 (U1++U2):=by rw[<-hUs];exact hU
 have sV:T0 B5 (V1++V2):=by rw[<-hVs];exact hV
 obtain⟨sU1,sU2,-⟩:=E3.1 sU;obtain⟨sV1,sV2,-⟩:=E3.1 sV;obtain⟨Q1,hQ1⟩:∃Q,Q=P++(U1++(V1++(U2++(V2++S)))):=⟨_,rfl⟩;obtain⟨Q2,hQ2⟩:∃Q,Q=P++(j9 B5 (U1++V1)++(U2++(V2++S))):=⟨_,rfl⟩;have hLx:L=(P++U1)++(U2++(V1++(V2++S))):=by rw[hL,hUs,hVs];simp
 have hQx:Q1=(P++U1)++(V1++(U2++(V2++S))):=by rw[hQ1];simp
 have hfin:j9 B5 (U1++V1)++j9 B5 (U2++V2)=j9 B5 (U++V):=a3R (by
  have h:=a8U L7 sU sV hpa.1 hpa.2 (N9 L7 (U1++V1)) (a0b L7 (U1++V1)) (N9 L7 (U2++V2)) (a0b L7 (U2++V2));rw[<-hUs,<-hVs] at h
  exact h)
 have hMx:M=(P++j9 B5 (U1++V1))++(j9 B5 (U2++V2)++S):=by rw[hM,<-hfin];simp
 have hQ2x:Q2=(P++j9 B5 (U1++V1))++(U2++(V2++S)):=by rw[hQ2];simp
 have m1:∀x∈Q1,Ok5 x:=λx hx=>h5 x (by rw[hLx];rw[hQx] at hx;simp only[List.mem_append] at hx ⊢;grind)
 have m2:∀x∈Q2,Ok5 x:=λx hx=>m1 x (by
  rw[hQ2] at hx;rw[hQ1];simp only[List.mem_append] at hx ⊢
  rcases hx with hx|hx|hx
  ·exact .inl hx
  ·have:=F6 hx;rw[List.mem_append] at this
   grind
  ·grind)
 have l1:Q1.length=L.length:=by rw[hQx,hLx];simp only[List.length_append];omega
 have l2:Q2.length=L.length:=by rw[<-l1,hQ2,hQ1];simp only[List.length_append,H9];omega
 have we:j1.wrap .i64 (j1.sub zn zs)=(e:Int):=by
  show IntKind.i64.wrap (zn - zs)=_;rw[hzn,hs,IntWalk.i64_in _ (by omega)];omega
 generalize j1.wrap .i64 (j1.sub zn zs)=ze at we;have k1:((P++U1).length:Int)=zs:=by rw[List.length_append];omega
 have k2:(((P++U1).length+U2.length:Nat):Int)=zm:=by rw[List.length_append];omega
 have k3:(((P++U1).length+U2.length+V1.length:Nat):Int)=ze:=by rw[List.length_append];omega
 have k4:(P.length:Int)=za:=by omega
 have k5:((P.length+U1.length:Nat):Int)=zs:=by omega
 have k6:((P.length+U1.length+V1.length:Nat):Int)=zc:=by omega
 have k7:((P++j9 B5 (U1++V1)).length:Int)=zc:=by rw[List.length_append,H9,List.length_append];omega
 have k8:(((P++j9 B5 (U1++V1)).length+U2.length:Nat):Int)=ze:=by rw[List.length_append,H9,List.length_append];omega
 have k9:(((P++j9 B5 (U1++V1)).length+U2.length+V2.length:Nat):Int)=zb:=by rw[List.length_append,H9,List.length_append];omega
 have nil:∀ {l:List Rw},decide (0<l.length)=false->l=[]:=λh2=>List.eq_nil_of_length_eq_zero (by have:=of_decide_eq_false h2;omega)
 have ltI:∀x y:Int,j1.lt x y=decide (x<y):=λ_ _=>rfl
 refine b58 fid L M Q1 Q2 za zm zb zc zs ze (decide (0<U1.length)) (decide (0<U2.length)) (decide (0<V1.length)) (decide (0<V2.length)) (λh1 h2=>?_) (λh1 h2=>?_) (λh1 h2=>?_) (λh=>?_) (λh=>?_) (λh=>?_) _ _ _ _ _ _ _ _ _ _ _ _ _ _ _ _ _ _ _ _ _ _ _ _ _ _ _ _ _ _ _ _ _ _ _ _ _ _ _ _ _ _ _ (show Ar.mk j1.wrap j1.add j1.sub j1.mul j1.quo j1.rem j1.bits j1.lt j1.le j1.eq j1.nz j1.seq j1.slt j1.bytes j1.cat j1.fits j1.slen j1.sget j1.ssub j1.txt j1.byt j1.nat j1.len j1.get j1.sub2 j1.app j1.set j1.room j1.mlook j1.mput j1.deq j1.rep j1.call j1.calld j1.callo j1.callx j1.new j1.lit j1.keep j1.next j1.ext j1.reg j1.loop=j1 from rfl) ?_ ?_ ?_ ?_ ?_ ?_ _ hend
 ·have h:=b56 (P++U1) U2 V1 (V2++S) (by rw[<-hLx];exact λx hx=>(h5 x hx).len) fid (by rw[<-hLx];exact hN) (of_decide_eq_true h1) (of_decide_eq_true h2);rw[k3,k2,k1,<-hLx,<-hQx] at h;exact h
 ·have h:=ih P U1 V1 (U2++(V2++S)) (by omega) (of_decide_eq_true h1) (of_decide_eq_true h2) (by rw[<-hQ1];exact m1) (by rw[<-hQ1,l1];exact hN) sU1 sV1;rw[k6,k5,k4,<-hQ1,<-hQ2] at h;exact h
 ·have h:=ih (P++j9 B5 (U1++V1)) U2 V2 S (by omega) (of_decide_eq_true h1) (of_decide_eq_true h2) (by rw[<-hQ2x];exact m2) (by rw[<-hQ2x,l2];exact hN) sU2 sV2;rw[k9,k8,k7,<-hQ2x,<-hMx] at h;exact h
 ·rw[hLx,hQx]
  rcases h with h|h
  ·rw[nil h];simp
  ·rw[nil h];simp
 ·rw[hQ1,hQ2]
  rcases h with h|h
  ·rw[nil h,List.nil_append,List.nil_append,a26 sV1]
  ·rw[nil h,List.append_nil,List.nil_append,a26 sU1]
 ·rw[hQ2x,hMx]
  rcases h with h|h
  ·rw[nil h,List.nil_append,List.nil_append,a26 sV2]
  ·rw[nil h,List.append_nil,List.nil_append,a26 sU2]
 ·show j1.lt zs zm=_;rw[ltI,hs,hzm];exact decide_eq_decide.2 (by omega)
 ·show j1.lt zm ze=_;rw[ltI,we,hzm];exact decide_eq_decide.2 (by omega)
 ·show j1.lt za zs=_;rw[ltI,hza,hs];exact decide_eq_decide.2 (by omega)
 ·show j1.lt zs zc=_;rw[ltI,hzc,hs];exact decide_eq_decide.2 (by omega)
 ·show j1.lt zc ze=_;rw[ltI,hzc,we];exact decide_eq_decide.2 (by omega)
 ·show j1.lt ze zb=_;rw[ltI,we,hzb];exact decide_eq_decide.2 (by omega)
theorem b5A (fid:Nat) (hc:a9a fid):∀N,c0P fid N:=by
 intro N
 induction N with
 | zero=>intro P U V S h h1;omega
 | succ N ih =>
  intro P U V S hN hU0 hV0 h5 hL hU hV
  rcases (show U.length=1\/2<=U.length by omega) with hu|hu
  ·obtain⟨u,rfl⟩:=List.length_eq_one_iff.1 hu;exact b57 fid hc P V S u h5 hL hV
  ·rcases (show V.length=1\/2<=V.length by omega) with hv|hv
   ·obtain⟨v,rfl⟩:=List.length_eq_one_iff.1 hv;exact b3I fid hc P U S v h5 hL hU hu
   ·exact b7p fid hc N ih P U V S (by omega) hu hv h5 hL hU hV
theorem b5B (fid:Nat) (hc:a9a fid) (L:List Rw) (h5:∀x∈L,Ok5 x) (hN:L.length<=1048576) :
  K3 112 [.own 0,vi .i64 L.length,.cl fid []] [.row false 74 L] (λres os=>res=[]/\os=[.row false 74 (j9 B5 L)]):=by
 obtain⟨zn,hzn⟩:∃z:Int,z=(L.length:Int):=⟨_,rfl⟩;obtain⟨M,hM⟩:∃M,M=j9 B5 L:=⟨_,rfl⟩;rw[<-hzn,<-hM];refine Z9 Tryz.func112 rfl (by kernel_rfl) (by kernel_rfl) (by kernel_rfl) rfl rfl (by rintro _ _ ⟨_,rfl⟩;rfl) ?_;intro qa qb _ qd _ _ _ qh qi;intros;rename_i hA K hK;cbv;refine gn ?_;try simp only[nc] at *
 obtain⟨e1,e2,e3,e4,e5,e6,e7,e8,e9⟩:=l7 hA
 refine o5 hA (γ:=Int×Int×List Rw) (λx=>[(7,vi .i64 x.1),(8,vi .i64 x.2.1)]) (λx=>[(0,.row false 74 x.2.2)])
  (λx=>∃(bl:List (List Rw)) (D R:List Rw),x.1=(bl.flatten.length:Int)/\x.2.1=((bl.flatten.length+20:Nat):Int)/\a2p 20 bl/\L=D++R/\D.length=bl.flatten.length/\Z0 B5 bl.flatten D/\x.2.2=bl.flatten++R/\∀r∈x.2.2,r∈L) (λx=>L.length - x.1.toNat) (0,20,L) ?_ ?_ ?_
 ·exact⟨[],[],L,rfl,rfl,λx hx=>by simp at hx,rfl,rfl,.refl _,rfl,λr h=>h⟩
 ·cbv
 ·intro x hinv;obtain⟨zx,zy,Q⟩:=x;cbv;refine gn ?_;try simp only[nc] at *
  obtain⟨bl,D,R,hx,hy,hbk,hL,hDl,hst,hQ,hQm⟩:=hinv;have hLl:L.length=bl.flatten.length+R.length:=by rw[hL,List.length_append,hDl]
  have hle:qi zy zn=decide (bl.flatten.length+20<=L.length):=by rw[e8,hy,hzn];exact decide_eq_decide.2 (by omega)
  have hQl:Q.length=L.length:=by rw[hQ,List.length_append,hLl]
  by_cases h9:bl.flatten.length+20<=L.length
  ·rw[decide_eq_true h9] at hle;obtain⟨x,R',hR,hx20⟩:=a02 (l:=R) (n:=20) (by omega);obtain⟨Q1,hQ1⟩:∃Q1,Q1=bl.flatten++(j9 B5 x++R'):=⟨_,rfl⟩;have hins:=b0v fid hc bl.flatten x R' (by rw[<-hR,<-hQ];exact λr hr=>h5 r (hQm r hr)) (by rw[<-hR,<-hQ,hQl];exact hN);rw[<-hR,<-hQ,hx20,<-hy,<-hx,<-hQ1] at hins;rw[hle];cbv;refine gn ?_;try simp only[nc] at *
   refine E7 hA [0] hins ⟨rfl,rfl,rfl,rfl,rfl,rfl,rfl⟩ ?_
   rintro res os2 ⟨rfl,rfl⟩
   cbv;refine gn ?_;try simp only[nc] at *
   have hfl:(bl++[j9 B5 x]).flatten=bl.flatten++j9 B5 x:=by simp
   have hfll:(bl++[j9 B5 x]).flatten.length=bl.flatten.length+20:=by rw[hfl,List.length_append,H9,hx20]
   have w1:qa .i64 (qb zy 20)=((bl.flatten.length+20+20:Nat):Int):=by rw[e1,e2,hy,IntWalk.i64_in _ (by omega)];omega
   refine⟨(zy,qa .i64 (qb zy 20),Q1),⟨bl++[j9 B5 x],D++x,R',by rw[hfll];exact hy,by rw[hfll];exact w1,hbk.snoc ⟨by rw[H9,hx20],N9 L7 x⟩,by rw[hL,hR,List.append_assoc],by rw[hfll,List.length_append,hDl,hx20],by rw[hfl];exact Z0.append hst (a0b L7 x),by rw[hfl,List.append_assoc];exact hQ1,?_⟩,?_,?_⟩
   ·intro r hr;refine hQm r ?_;have hr:r∈Q1:=hr;rw[hQ1] at hr;rw[hQ,hR];simp only[List.mem_append] at hr ⊢
    rcases hr with hr|hr|hr
    ·exact .inl hr
    ·exact .inr (.inl (F6 hr))
    ·exact .inr (.inr hr)
   ·show L.length - zy.toNat<L.length - zx.toNat;omega
   ·cbv
  ·rw[decide_eq_false h9] at hle;obtain⟨y,hyy⟩:∃y,y=j9 B5 R:=⟨_,rfl⟩;obtain⟨Q1,hQ1⟩:∃Q1,Q1=bl.flatten++y:=⟨_,rfl⟩;have hins:=b0v fid hc bl.flatten R [] (by rw[List.append_nil,<-hQ];exact λr hr=>h5 r (hQm r hr)) (by rw[List.append_nil,<-hQ,hQl];exact hN);rw[List.append_nil,List.append_nil,<-hQ,<-hLl,<-hzn,<-hx,<-hyy,<-hQ1] at hins;have hys:T0 B5 y:=by rw[hyy];exact N9 L7 R
   have hyl:y.length=R.length:=by rw[hyy,H9]
   have hyst:Z0 B5 (bl.flatten++y) L:=by rw[hL];exact Z0.append hst (by rw[hyy];exact a0b L7 R)
   have hm5:∀ {q:List Rw},Z0 B5 q L->∀x∈q,Ok5 x:=λh x hx=>h5 x (h.mem L7 hx)
   rw[hle];cbv;refine gn ?_;try simp only[nc] at *
   refine E7 hA [0] hins ⟨rfl,rfl,rfl,rfl,rfl,rfl,rfl⟩ ?_
   rintro res os2 ⟨rfl,rfl⟩
   cbv;refine gn ?_;try simp only[nc] at *
   refine o5 hA (γ:=Int×List Rw) (λx=>[(6,vi .i64 x.1)]) (λx=>[(0,.row false 74 x.2)])
    (λx=>∃(bs:Nat) (bl:List (List Rw)) (y:List Rw),x.1=(bs:Int)/\20<=bs/\bs<=4194304/\a2p bs bl/\T0 B5 y/\y.length<bs/\Z0 B5 (bl.flatten++y) L/\x.2=bl.flatten++y/\x.2.length=L.length) (λx=>L.length - x.1.toNat) (20,Q1) ?_ ?_ ?_
   ·exact⟨20,bl,y,rfl,by omega,by omega,hbk,hys,by omega,hyst,hQ1,by show Q1.length=_;rw[hQ1,List.length_append];omega⟩
   ·cbv
   ·intro x hinv;clear hQ1 hyst hyl hys hins hst hbk hQ hQm hQl hLl hx hy hL hDl hle;obtain⟨zs,Q2⟩:=x;cbv;refine gn ?_;try simp only[nc] at *
    obtain⟨bs,bl,y,hbs,hb1,hb2,hbk,hsy,hyl,hst,hQ,hQl⟩:=hinv;have hbl:=a6K hbk;have hLl:L.length=bl.flatten.length+y.length:=by rw[<-hQl,hQ,List.length_append]
    have hlt:qh zs zn=decide (bs<L.length):=by rw[e7,hbs,hzn];exact decide_eq_decide.2 (by omega)
    by_cases h8:bs<L.length
    ·rw[decide_eq_true h8] at hlt;have w2:qa .i64 (qd 2 zs)=((2 * bs:Nat):Int):=by rw[e1,e4,hbs,IntWalk.i64_in _ (by omega)];omega
     rw[hlt];cbv;refine gn ?_;try simp only[nc] at *
     refine o5 hA (γ:=Int×Int×List Rw) (λx=>[(7,vi .i64 x.1),(8,vi .i64 x.2.1)]) (λx=>[(0,.row false 74 x.2.2)])
      (λx=>∃b2 b1:List (List Rw),x.1=(b2.flatten.length:Int)/\x.2.1=((b2.flatten.length+2 * bs:Nat):Int)/\a2p (2 * bs) b2/\a2p bs b1/\Z0 B5 (b2.flatten++(b1.flatten++y)) L/\x.2.2=b2.flatten++(b1.flatten++y)/\x.2.2.length=L.length) (λx=>L.length - x.1.toNat) (0,qa .i64 (qd 2 zs),Q2) ?_ ?_ ?_
     ·exact⟨[],bl,rfl,by show qa .i64 (qd 2 zs)=_;rw[w2];simp,λx hx=>by simp at hx,hbk,hst,hQ,hQl⟩
     ·cbv
     ·intro x hinv;clear hst hQ hQl hLl hbk hbl;obtain⟨zx,zy,Q3⟩:=x;cbv;refine gn ?_;try simp only[nc] at *
      obtain⟨b2,b1,hx,hy,hbk2,hbk1,hst,hQ,hQl⟩:=hinv;have hl1:=a6K hbk1;have hLl:L.length=b2.flatten.length+b1.flatten.length+y.length:=by rw[<-hQl,hQ];simp only[List.length_append];omega
      have hle:qi zy zn=decide (b2.flatten.length+2 * bs<=L.length):=by rw[e8,hy,hzn];exact decide_eq_decide.2 (by omega)
      have wm:qa .i64 (qb zx zs)=((b2.flatten.length+bs:Nat):Int):=by rw[e1,e2,hx,hbs,IntWalk.i64_in _ (by omega)];omega
      by_cases h7:b2.flatten.length+2 * bs<=L.length
      ·rw[decide_eq_true h7] at hle
       obtain⟨u,v,b1',hb1e⟩:∃u v b1',b1=u::v::b1':=by
        match b1,hl1,hLl with
        | [],h1,h2=>simp only[List.flatten_nil,List.length_nil] at h2;omega
        | [u],h1,h2=>simp only[List.length_cons,List.length_nil,Nat.zero_add,Nat.one_mul] at h1;omega
        | u::v::b1',_,_=>exact⟨u,v,b1',rfl⟩
       have hu:=hbk1 u (by rw[hb1e];simp);have hv:=hbk1 v (by rw[hb1e];simp);have hQe:Q3=b2.flatten++(u++(v++(b1'.flatten++y))):=by rw[hQ,hb1e];simp
       obtain⟨Q4,hQ4⟩:∃Q,Q=b2.flatten++(j9 B5 (u++v)++(b1'.flatten++y)):=⟨_,rfl⟩;have hsy2:=b5A fid hc (u.length+v.length) b2.flatten u v (b1'.flatten++y) (Nat.le_refl _) (by omega) (by omega) (by rw[<-hQe,hQ];exact hm5 hst) (by rw[<-hQe,hQl];exact hN) hu.2 hv.2;rw[hu.1,hv.1,show b2.flatten.length+bs+bs=b2.flatten.length+2 * bs by omega,<-hQe,<-hQ4,<-hy,<-wm,<-hx] at hsy2;have hdl:(j9 B5 (u++v)).length=2 * bs:=by rw[H9,List.length_append,hu.1,hv.1];omega
       have w3:qa .i64 (qb zy (qa .i64 (qd 2 zs)))=((b2.flatten.length+2 * bs+2 * bs:Nat):Int):=by rw[w2,e1,e2,hy,IntWalk.i64_in _ (by omega)];omega
       rw[hle];cbv;refine gn ?_;try simp only[nc] at *
       refine E7 hA [0] hsy2 ⟨rfl,rfl,rfl,rfl,rfl,rfl,rfl⟩ ?_
       rintro res os2 ⟨rfl,rfl⟩
       cbv;refine gn ?_;try simp only[nc] at *
       have hfl:(b2++[j9 B5 (u++v)]).flatten=b2.flatten++j9 B5 (u++v):=by simp
       have hfll:(b2++[j9 B5 (u++v)]).flatten.length=b2.flatten.length+2 * bs:=by rw[hfl,List.length_append,hdl]
       refine⟨(zy,qa .i64 (qb zy (qa .i64 (qd 2 zs))),Q4),⟨b2++[j9 B5 (u++v)],b1',by rw[hfll];exact hy,by rw[hfll];exact w3,hbk2.snoc ⟨hdl,N9 L7 _⟩,λx hx=>hbk1 x (by rw[hb1e];simp[hx]),?_,by rw[hfl,List.append_assoc];exact hQ4,?_⟩,?_,?_⟩
       ·rw[hfl];refine Z0.trans ?_ hst;rw[hb1e];simp only[List.flatten_cons,List.append_assoc];rw[<-List.append_assoc u v];exact Z0.append (.refl _) (Z0.append (a0b L7 _) (.refl _))
       ·show Q4.length=L.length;rw[<-hQl,hQ4,hQe];simp only[List.length_append,H9];omega
       ·show L.length - zy.toNat<L.length - zx.toNat;omega
       ·cbv
      ·rw[decide_eq_false h7] at hle
       have hfew:b1.length<=1:=by
        rcases Nat.lt_or_ge b1.length 2 with h|h
        ·omega
        ·exfalso;have h2:2 * bs<=b1.length * bs:=Nat.mul_le_mul_right _ h;omega
       have hlt2:qh (qa .i64 (qb zx zs)) zn=decide (b2.flatten.length+bs<L.length):=by rw[e7,wm,hzn];exact decide_eq_decide.2 (by omega)
       have w4:qa .i64 (qd zs 2)=((2 * bs:Nat):Int):=by rw[e1,e4,hbs,IntWalk.i64_in _ (by omega)];omega
       rw[hle];cbv;refine gn ?_;try simp only[nc] at *
       by_cases h6:b2.flatten.length+bs<L.length
       ·rw[decide_eq_true h6] at hlt2
        obtain⟨u,hb1e⟩:∃u,b1=[u]:=by
         match b1,hl1,hLl,hfew with
         | [],h1,h2,_=>simp only[List.flatten_nil,List.length_nil] at h2;omega
         | [u],_,_,_=>exact⟨u,rfl⟩
        have hu:=hbk1 u (by rw[hb1e];simp);rw[hb1e] at hl1 hLl;simp only[List.length_cons,List.length_nil,Nat.zero_add,Nat.one_mul] at hl1;rw[hl1] at hLl;have hQe:Q3=b2.flatten++(u++(y++[])):=by rw[hQ,hb1e];simp
        obtain⟨Q4,hQ4⟩:∃Q,Q=b2.flatten++j9 B5 (u++y):=⟨_,rfl⟩;have hsy2:=b5A fid hc (u.length+y.length) b2.flatten u y [] (Nat.le_refl _) (by omega) (by omega) (by rw[<-hQe,hQ];exact hm5 hst) (by rw[<-hQe,hQl];exact hN) hu.2 hsy;rw[hu.1,<-hLl,<-hQe,List.append_nil,<-hQ4,<-hzn,<-wm,<-hx] at hsy2;rw[hlt2];cbv;refine gn ?_;try simp only[nc] at *
        refine E7 hA [0] hsy2 ⟨rfl,rfl,rfl,rfl,rfl,rfl,rfl⟩ ?_
        rintro res os2 ⟨rfl,rfl⟩
        cbv;refine gn ?_;try simp only[nc] at *
        refine⟨(qa .i64 (qd zs 2),Q4),⟨2 * bs,b2,j9 B5 (u++y),w4,by omega,by omega,hbk2,N9 L7 _,by rw[H9,List.length_append,hu.1];omega,?_,hQ4,?_⟩,?_,?_⟩
        ·refine Z0.trans ?_ hst;rw[hb1e];simp only[List.flatten_cons,List.flatten_nil,List.append_nil];exact Z0.append (.refl _) (a0b L7 _)
        ·show Q4.length=L.length;rw[hQ4,List.length_append,H9,List.length_append,hu.1];omega
        ·show L.length - (qa .i64 (qd zs 2)).toNat<L.length - zs.toNat;rw[w4,hbs];omega
        ·cbv
       ·rw[decide_eq_false h6] at hlt2
        have hy2:T0 B5 (b1.flatten++y)/\(b1.flatten++y).length<2 * bs:=by
         match b1,hl1,hLl,hfew,hbk1 with
         | [],_,_,_,_=>exact⟨hsy,by simp;omega⟩
         | [u],h1,h2,_,h3 =>
          simp only[List.length_cons,List.length_nil,Nat.zero_add,Nat.one_mul] at h1;have hy0:y=[]:=List.eq_nil_of_length_eq_zero (by omega);subst hy0;exact⟨by simpa using (h3 u (by simp)).2,by rw[List.length_append,h1];simp;omega⟩
        rw[hlt2];cbv;refine gn ?_;try simp only[nc] at *
        refine⟨(qa .i64 (qd zs 2),Q3),⟨2 * bs,b2,b1.flatten++y,w4,by omega,by omega,hbk2,hy2.1,hy2.2,hst,hQ,hQl⟩,?_,?_⟩
        ·show L.length - (qa .i64 (qd zs 2)).toNat<L.length - zs.toNat;rw[w4,hbs];omega
        ·cbv
    ·rw[decide_eq_false h8] at hlt;rw[hlt];cbv;refine gn ?_;try simp only[nc] at *
     have hs:T0 B5 (bl.flatten++y):=by
      match bl,hbl,hLl,hbk with
      | [],_,_,_=>exact hsy
      | [u],h1,h2,h3 =>
       simp only[List.length_cons,List.length_nil,Nat.zero_add,Nat.one_mul] at h1;have hy0:y=[]:=List.eq_nil_of_length_eq_zero (by omega);subst hy0
       simpa using (h3 u (by simp)).2
      | u::v::bl',h1,h2,_ =>
       exfalso;simp only[List.length_cons,Nat.add_mul] at h1;omega
     have e:Q2=M:=by rw[hM,hQ];exact a3R ⟨hs,hst⟩
     rw[e];exact hK [] [.row false 74 M] ⟨rfl,rfl⟩
theorem b5C (fid:Nat) (hc:a9a fid) (L:List Rw) (h5:∀x∈L,Ok5 x) (hN:L.length<=1048576) :
  K3 105 [.own 0,.cl fid []] [.row false 74 L] (λres os=>res=[]/\os=[.row false 74 (j9 B5 L)]):=by
 have hst:=b5B fid hc L h5 hN;obtain⟨M,hM⟩:∃M,M=j9 B5 L:=⟨_,rfl⟩;rw[<-hM] at hst ⊢;refine Z9 Tryz.func105 rfl (by kernel_rfl) (by kernel_rfl) (by kernel_rfl) rfl rfl (by rintro _ _ ⟨_,rfl⟩;rfl) ?_;intros;rename_i hA K hK;cbv;refine gn ?_;try simp only[nc] at *
 obtain⟨r1,-⟩:=n8 hA;rw[<-r1] at hst;refine E7 hA [0] hst ⟨rfl,rfl,rfl,rfl,rfl,rfl,rfl⟩ ?_
 rintro res os2 ⟨rfl,rfl⟩
 cbv;refine gn ?_;exact hK [] [.row false 74 M] ⟨rfl,rfl⟩
end Go.Proofs.YtncijebklnbhlaaGreatDoor.Vm
end

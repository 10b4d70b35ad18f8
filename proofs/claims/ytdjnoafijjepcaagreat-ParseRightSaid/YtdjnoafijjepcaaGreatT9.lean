/- Part 9 of the proof. Conditions: none. -/
import Derived.Test.YtdjnoafijjepcaaGreatT4
import Derived.Test.YtdjnoafijjepcaaGreatT8
import Derived.Test.YtdjnoafijjepcaaGreatT0
set_option linter.all false
set_option linter.unusedVariables false
set_option linter.unusedSimpArgs false
section
namespace Go.Proofs.YtdjnoafijjepcaaGreat.Vm
open Go.RowKit
set_option maxRecDepth 100000
set_option maxHeartbeats 8000000
theorem c5D (fid:Nat) (hc:b3p fid) (N:Nat) (ih:d1j fid N) (P U V S:List Rw) (hNN:U.length+V.length<=N+1) (hU2:2<=U.length) (hV2:2<=V.length) (h5:∀x∈P++(U++(V++S)),Ok5 x) (hN:(P++(U++(V++S))).length<=1048576) (hU:Srt H1 U) (hV:Srt H1 V) :
  E8 131 [.own 0,vi .i64 P.length,vi .i64 (P.length+U.length:Nat),vi .i64 (P.length+U.length+V.length:Nat),.cl fid []] [.row false 124 (P++(U++(V++S)))] (λres os=>res=[]/\os=[.row false 124 (P++(r7 H1 (U++V)++S))]):=by
 obtain⟨a,ea⟩:∃a,a=P.length:=⟨_,rfl⟩;obtain⟨m,em⟩:∃m,m=P.length+U.length:=⟨_,rfl⟩;obtain⟨b,eb⟩:∃b,b=P.length+U.length+V.length:=⟨_,rfl⟩;obtain⟨mid,emid⟩:∃mid,mid=(a+b) / 2:=⟨_,rfl⟩;obtain⟨za,hza⟩:∃z:Int,z=(a:Int):=⟨_,rfl⟩;obtain⟨zm,hzm⟩:∃z:Int,z=(m:Int):=⟨_,rfl⟩;obtain⟨zb,hzb⟩:∃z:Int,z=(b:Int):=⟨_,rfl⟩;obtain⟨zc,hzc⟩:∃z:Int,z=(mid:Int):=⟨_,rfl⟩;obtain⟨zn,hzn⟩:∃z:Int,z=((mid+m:Nat):Int):=⟨_,rfl⟩;obtain⟨p,hp⟩:∃p,p+1=mid+m:=⟨mid+m - 1,by omega⟩;obtain⟨L,hL⟩:∃L,L=P++(U++(V++S)):=⟨_,rfl⟩;obtain⟨M,hM⟩:∃M,M=P++(r7 H1 (U++V)++S):=⟨_,rfl⟩;rw[<-eb,<-em,<-ea,<-hza,<-hzm,<-hzb,<-hM,<-hL];rw[<-hL] at h5 hN;have hLl:L.length=a+U.length+V.length+S.length:=by rw[hL,ea];simp only[d3K];omega
 have hUL:U.length=m - a:=by omega
 have hVL:V.length=b - m:=by omega
 have ham:a<m:=by omega
 have hmb:m<b:=by omega
 have hb:Tryz.f131.body=some (.seq (U6 (Tryz.f131.body.getD .skip)) (.seq (U6 (m9 (Tryz.f131.body.getD .skip))) (.seq (U6 (m9 (m9 (Tryz.f131.body.getD .skip)))) (.seq (U6 (m9 (m9 (m9 (Tryz.f131.body.getD .skip))))) (.seq (U6 (m9 (m9 (m9 (m9 (Tryz.f131.body.getD .skip)))))) (.seq (U6 (m9 (m9 (m9 (m9 (m9 (Tryz.f131.body.getD .skip))))))) (.seq (U6 (m9 (m9 (m9 (m9 (m9 (m9 (Tryz.f131.body.getD .skip)))))))) (.seq (U6 (m9 (m9 (m9 (m9 (m9 (m9 (m9 (Tryz.f131.body.getD .skip))))))))) (.seq (U6 (m9 (m9 (m9 (m9 (m9 (m9 (m9 (m9 (Tryz.f131.body.getD .skip)))))))))) (m9 (m9 (m9 (m9 (m9 (m9 (m9 (m9 (m9 (Tryz.f131.body.getD .skip))))))))))))))))))):=by kernel_rfl
 refine a1B Tryz.func131 hb (by kernel_rfl) (by kernel_rfl) (by kernel_rfl) rfl rfl (by rintro _ _ ⟨_,rfl⟩;rfl) ?_;intros;rename_i hA K hK;have hend:∀t,c5o j5 1 K Tryz.f131.results.toList .normal ⟨t,[.row false 124 M,.kl []]⟩:=λt=>hK [] [.row false 124 M] ⟨rfl,rfl⟩
 rw[hA];refine c2F fid _ L a m b mid za zm zb zc zn hza hzm hzb hzc hzn emid (by omega) (by omega) (by omega) _ (λs0 r0 zs0 zr0 ws wr hW hsr hrm=>?_) _ _ _ _ _ _ _ _ _ _ _ _ _ _ _ _ _ _ _ _ _ _ _ _ _ _ _ _ _ _ _ _ _ _ _ _ _ _ _ _ _ _ _ (show Ar.mk j5.wrap j5.add j5.sub j5.mul j5.quo j5.rem j5.bits j5.lt j5.le j5.eq j5.nz j5.seq j5.slt j5.bytes j5.cat j5.fits j5.slen j5.sget j5.ssub j5.txt j5.byt j5.nat j5.len j5.get j5.sub2 j5.app j5.set j5.room j5.mlook j5.mput j5.deq j5.rep j5.call j5.calld j5.callo j5.callx j5.new j5.lit j5.keep j5.next j5.ext j5.reg j5.loop=j5 from rfl);refine b6z fid hc _ P U V S L a m b mid p s0 r0 za zm zb zc zn zs0 zr0 ea hUL hVL hL h5 hN hU hV emid ham hmb hp hW hsr hrm (by omega) hzn ws wr _ (λs zs hs hs1 hs3 hlo hhi=>?_) _ _ _ _ _ _ _ _ _ _ _ _ _ _ _ _ _ _ _ _ _ _ _ _ _ _ _ _ _ _ _ _ _ _ _ _ _ _ _ _ _ _ _ (show Ar.mk j5.wrap j5.add j5.sub j5.mul j5.quo j5.rem j5.bits j5.lt j5.le j5.eq j5.nz j5.seq j5.slt j5.bytes j5.cat j5.fits j5.slen j5.sget j5.ssub j5.txt j5.byt j5.nat j5.len j5.get j5.sub2 j5.app j5.set j5.room j5.mlook j5.mput j5.deq j5.rep j5.call j5.calld j5.callo j5.callx j5.new j5.lit j5.keep j5.next j5.ext j5.reg j5.loop=j5 from rfl);have hwb:=P8 hW emid ham hmb hs1 hs3;have hpa:=c8T hU hV hUL hVL hW emid ham hmb hp hs1 hs3 hlo hhi;obtain⟨e,he⟩:∃e,e=mid+m - s:=⟨_,rfl⟩;rw[<-he] at hpa hwb;obtain⟨U1,U2,hUs,hU1⟩:=a2x (l:=U) (n:=s - a) (by omega);obtain⟨V1,V2,hVs,hV1⟩:=a2x (l:=V) (n:=e - m) (by omega);rw[hUs,hVs,d6q hU1,d6p hU1,d6q hV1,d6p hV1] at hpa;have hul:U2.length=m - s:=by rw[hUs,d3K] at hUL;omega
 have hvl:V2.length=b - e:=by rw[hVs,d3K] at hVL;omega
 have sU:Srt H1 (U1++U2):=by rw[<-hUs];exact hU
 have sV:Srt H1 (V1++V2):=by rw[<-hVs];exact hV
 obtain⟨sU1,sU2,-⟩:=K3.1 sU;obtain⟨sV1,sV2,-⟩:=K3.1 sV;obtain⟨Q1,hQ1⟩:∃Q,Q=P++(U1++(V1++(U2++(V2++S)))):=⟨_,rfl⟩;obtain⟨Q2,hQ2⟩:∃Q,Q=P++(r7 H1 (U1++V1)++(U2++(V2++S))):=⟨_,rfl⟩;have hLx:L=(P++U1)++(U2++(V1++(V2++S))):=by rw[hL,hUs,hVs];simp
 have hQx:Q1=(P++U1)++(V1++(U2++(V2++S))):=by rw[hQ1];simp
 have hfin:r7 H1 (U1++V1)++r7 H1 (U2++V2)=r7 H1 (U++V):=a6L (by
  have h:=b3n a0e sU sV hpa.1 hpa.2 (a1E a0e (U1++V1)) (a1F a0e (U1++V1)) (a1E a0e (U2++V2)) (a1F a0e (U2++V2));rw[<-hUs,<-hVs] at h
  exact h)
 have hMx:M=(P++r7 H1 (U1++V1))++(r7 H1 (U2++V2)++S):=by rw[hM,<-hfin];simp
 have hQ2x:Q2=(P++r7 H1 (U1++V1))++(U2++(V2++S)):=by rw[hQ2];simp
 have m1:∀x∈Q1,Ok5 x:=λx hx=>h5 x (by rw[hLx];rw[hQx] at hx;simp only[d4s] at hx ⊢;grind)
 have m2:∀x∈Q2,Ok5 x:=λx hx=>m1 x (by
  rw[hQ2] at hx;rw[hQ1];simp only[d4s] at hx ⊢
  rcases hx with hx|hx|hx
  ·exact .inl hx
  ·have:=T4 hx;rw[d4s] at this
   grind
  ·grind)
 have l1:Q1.length=L.length:=by rw[hQx,hLx];simp only[d3K];omega
 have l2:Q2.length=L.length:=by rw[<-l1,hQ2,hQ1];simp only[d3K,T5];omega
 have we:j5.wrap .i64 (j5.sub zn zs)=(e:Int):=by
  show IntKind.i64.wrap (zn - zs)=_;rw[hzn,hs,IntWalk.i64_in _ (by omega)];omega
 generalize j5.wrap .i64 (j5.sub zn zs)=ze at we;have k1:((P++U1).length:Int)=zs:=by rw[d3K];omega
 have k2:(((P++U1).length+U2.length:Nat):Int)=zm:=by rw[d3K];omega
 have k3:(((P++U1).length+U2.length+V1.length:Nat):Int)=ze:=by rw[d3K];omega
 have k4:(P.length:Int)=za:=by omega
 have k5:((P.length+U1.length:Nat):Int)=zs:=by omega
 have k6:((P.length+U1.length+V1.length:Nat):Int)=zc:=by omega
 have k7:((P++r7 H1 (U1++V1)).length:Int)=zc:=by rw[d3K,T5,d3K];omega
 have k8:(((P++r7 H1 (U1++V1)).length+U2.length:Nat):Int)=ze:=by rw[d3K,T5,d3K];omega
 have k9:(((P++r7 H1 (U1++V1)).length+U2.length+V2.length:Nat):Int)=zb:=by rw[d3K,T5,d3K];omega
 have nil:∀ {l:List Rw},decide (0<l.length)=false->l=[]:=λh2=>d4h (by have:=d4N h2;omega)
 have ltI:∀x y:Int,j5.lt x y=decide (x<y):=λ_ _=>rfl
 refine c2E fid L M Q1 Q2 za zm zb zc zs ze (decide (0<U1.length)) (decide (0<U2.length)) (decide (0<V1.length)) (decide (0<V2.length)) (λh1 h2=>?_) (λh1 h2=>?_) (λh1 h2=>?_) (λh=>?_) (λh=>?_) (λh=>?_) _ _ _ _ _ _ _ _ _ _ _ _ _ _ _ _ _ _ _ _ _ _ _ _ _ _ _ _ _ _ _ _ _ _ _ _ _ _ _ _ _ _ _ (show Ar.mk j5.wrap j5.add j5.sub j5.mul j5.quo j5.rem j5.bits j5.lt j5.le j5.eq j5.nz j5.seq j5.slt j5.bytes j5.cat j5.fits j5.slen j5.sget j5.ssub j5.txt j5.byt j5.nat j5.len j5.get j5.sub2 j5.app j5.set j5.room j5.mlook j5.mput j5.deq j5.rep j5.call j5.calld j5.callo j5.callx j5.new j5.lit j5.keep j5.next j5.ext j5.reg j5.loop=j5 from rfl) ?_ ?_ ?_ ?_ ?_ ?_ _ hend
 ·have h:=c2C (P++U1) U2 V1 (V2++S) (by rw[<-hLx];exact λx hx=>(h5 x hx).len) fid (by rw[<-hLx];exact hN) (d4u h1) (d4u h2);rw[k3,k2,k1,<-hLx,<-hQx] at h;exact h
 ·have h:=ih P U1 V1 (U2++(V2++S)) (by omega) (d4u h1) (d4u h2) (by rw[<-hQ1];exact m1) (by rw[<-hQ1,l1];exact hN) sU1 sV1;rw[k6,k5,k4,<-hQ1,<-hQ2] at h;exact h
 ·have h:=ih (P++r7 H1 (U1++V1)) U2 V2 S (by omega) (d4u h1) (d4u h2) (by rw[<-hQ2x];exact m2) (by rw[<-hQ2x,l2];exact hN) sU2 sV2;rw[k9,k8,k7,<-hQ2x,<-hMx] at h;exact h
 ·rw[hLx,hQx]
  rcases h with h|h
  ·rw[nil h];simp
  ·rw[nil h];simp
 ·rw[hQ1,hQ2]
  rcases h with h|h
  ·rw[nil h,d44,d44,a5i sV1]
  ·rw[nil h,d4d,d44,a5i sU1]
 ·rw[hQ2x,hMx]
  rcases h with h|h
  ·rw[nil h,d44,d44,a5i sV2]
  ·rw[nil h,d4d,d44,a5i sU2]
 ·show j5.lt zs zm=_;rw[ltI,hs,hzm];exact d3X.2 (by omega)
 ·show j5.lt zm ze=_;rw[ltI,we,hzm];exact d3X.2 (by omega)
 ·show j5.lt za zs=_;rw[ltI,hza,hs];exact d3X.2 (by omega)
 ·show j5.lt zs zc=_;rw[ltI,hzc,hs];exact d3X.2 (by omega)
 ·show j5.lt zc ze=_;rw[ltI,hzc,we];exact d3X.2 (by omega)
 ·show j5.lt ze zb=_;rw[ltI,we,hzb];exact d3X.2 (by omega)
theorem c2G (fid:Nat) (hc:b3p fid):∀N,d1j fid N:=by
 intro N
 induction N with
 | zero=>intro P U V S h h1;omega
 | succ N ih =>
  intro P U V S hN hU0 hV0 h5 hL hU hV
  rcases (show U.length=1\/2<=U.length by omega) with hu|hu
  ·obtain⟨u,rfl⟩:=List.length_eq_one_iff.1 hu;exact c2D fid hc P V S u h5 hL hV
  ·rcases (show V.length=1\/2<=V.length by omega) with hv|hv
   ·obtain⟨v,rfl⟩:=List.length_eq_one_iff.1 hv;exact b9G fid hc P U S v h5 hL hU hu
   ·exact c5D fid hc N ih P U V S (by omega) hu hv h5 hL hU hV
theorem c2H (fid:Nat) (hc:b3p fid) (L:List Rw) (h5:∀x∈L,Ok5 x) (hN:L.length<=1048576) :
  E8 118 [.own 0,vi .i64 L.length,.cl fid []] [.row false 124 L] (λres os=>res=[]/\os=[.row false 124 (r7 H1 L)]):=by
 obtain⟨zn,hzn⟩:∃z:Int,z=(L.length:Int):=⟨_,rfl⟩;obtain⟨M,hM⟩:∃M,M=r7 H1 L:=⟨_,rfl⟩;rw[<-hzn,<-hM];refine a1B Tryz.func118 rfl (by kernel_rfl) (by kernel_rfl) (by kernel_rfl) rfl rfl (by rintro _ _ ⟨_,rfl⟩;rfl) ?_;intro qa qb _ qd _ _ _ qi qj;intros;rename_i hA K hK;cbv;refine gn ?_;try simp only[nc] at *
 obtain⟨e1,e2,e3,e4,e5,e6,e7,e8,e9⟩:=m6 hA
 refine n9 hA (γ:=Int×Int×List Rw) (λx=>[(7,vi .i64 x.1),(8,vi .i64 x.2.1)]) (λx=>[(0,.row false 124 x.2.2)])
  (λx=>∃(bl:List (List Rw)) (D R:List Rw),x.1=(bl.flatten.length:Int)/\x.2.1=((bl.flatten.length+20:Nat):Int)/\a4H 20 bl/\L=D++R/\D.length=bl.flatten.length/\Sta H1 bl.flatten D/\x.2.2=bl.flatten++R/\∀r∈x.2.2,r∈L) (λx=>L.length - x.1.toNat) (0,20,L) ?_ ?_ ?_
 ·exact⟨[],[],L,rfl,rfl,λx hx=>by simp at hx,rfl,rfl,.refl _,rfl,λr h=>h⟩
 ·cbv
 ·intro x hinv;obtain⟨zx,zy,Q⟩:=x;cbv;refine gn ?_;try simp only[nc] at *
  obtain⟨bl,D,R,hx,hy,hbk,hL,hDl,hst,hQ,hQm⟩:=hinv;have hLl:L.length=bl.flatten.length+R.length:=by rw[hL,d3K,hDl]
  have hle:qj zy zn=decide (bl.flatten.length+20<=L.length):=by rw[e8,hy,hzn];exact d3X.2 (by omega)
  have hQl:Q.length=L.length:=by rw[hQ,d3K,hLl]
  by_cases h9:bl.flatten.length+20<=L.length
  ·rw[d3S h9] at hle;obtain⟨x,R',hR,hx20⟩:=a2x (l:=R) (n:=20) (by omega);obtain⟨Q1,hQ1⟩:∃Q1,Q1=bl.flatten++(r7 H1 x++R'):=⟨_,rfl⟩;have hins:=b4K fid hc bl.flatten x R' (by rw[<-hR,<-hQ];exact λr hr=>h5 r (hQm r hr)) (by rw[<-hR,<-hQ,hQl];exact hN);rw[<-hR,<-hQ,hx20,<-hy,<-hx,<-hQ1] at hins;rw[hle];cbv;refine gn ?_;try simp only[nc] at *
   refine K6 hA [0] hins ⟨rfl,rfl,rfl,rfl,rfl,rfl,rfl⟩ ?_
   rintro res os2 ⟨rfl,rfl⟩
   cbv;refine gn ?_;try simp only[nc] at *
   have hfl:(bl++[r7 H1 x]).flatten=bl.flatten++r7 H1 x:=by simp
   have hfll:(bl++[r7 H1 x]).flatten.length=bl.flatten.length+20:=by rw[hfl,d3K,T5,hx20]
   have w1:qa .i64 (qb zy 20)=((bl.flatten.length+20+20:Nat):Int):=by rw[e1,e2,hy,IntWalk.i64_in _ (by omega)];omega
   refine⟨(zy,qa .i64 (qb zy 20),Q1),⟨bl++[r7 H1 x],D++x,R',by rw[hfll];exact hy,by rw[hfll];exact w1,hbk.snoc ⟨by rw[T5,hx20],a1E a0e x⟩,by rw[hL,hR,d4q],by rw[hfll,d3K,hDl,hx20],by rw[hfl];exact Sta.append hst (a1F a0e x),by rw[hfl,d4q];exact hQ1,?_⟩,?_,?_⟩
   ·intro r hr;refine hQm r ?_;have hr:r∈Q1:=hr;rw[hQ1] at hr;rw[hQ,hR];simp only[d4s] at hr ⊢
    rcases hr with hr|hr|hr
    ·exact .inl hr
    ·exact .inr (.inl (T4 hr))
    ·exact .inr (.inr hr)
   ·show L.length - zy.toNat<L.length - zx.toNat;omega
   ·cbv
  ·rw[d3P h9] at hle;obtain⟨y,hyy⟩:∃y,y=r7 H1 R:=⟨_,rfl⟩;obtain⟨Q1,hQ1⟩:∃Q1,Q1=bl.flatten++y:=⟨_,rfl⟩;have hins:=b4K fid hc bl.flatten R [] (by rw[d4d,<-hQ];exact λr hr=>h5 r (hQm r hr)) (by rw[d4d,<-hQ,hQl];exact hN);rw[d4d,d4d,<-hQ,<-hLl,<-hzn,<-hx,<-hyy,<-hQ1] at hins;have hys:Srt H1 y:=by rw[hyy];exact a1E a0e R
   have hyl:y.length=R.length:=by rw[hyy,T5]
   have hyst:Sta H1 (bl.flatten++y) L:=by rw[hL];exact Sta.append hst (by rw[hyy];exact a1F a0e R)
   have hm5:∀ {q:List Rw},Sta H1 q L->∀x∈q,Ok5 x:=λh x hx=>h5 x (h.mem a0e hx)
   rw[hle];cbv;refine gn ?_;try simp only[nc] at *
   refine K6 hA [0] hins ⟨rfl,rfl,rfl,rfl,rfl,rfl,rfl⟩ ?_
   rintro res os2 ⟨rfl,rfl⟩
   cbv;refine gn ?_;try simp only[nc] at *
   refine n9 hA (γ:=Int×List Rw) (λx=>[(6,vi .i64 x.1)]) (λx=>[(0,.row false 124 x.2)])
    (λx=>∃(bs:Nat) (bl:List (List Rw)) (y:List Rw),x.1=(bs:Int)/\20<=bs/\bs<=4194304/\a4H bs bl/\Srt H1 y/\y.length<bs/\Sta H1 (bl.flatten++y) L/\x.2=bl.flatten++y/\x.2.length=L.length) (λx=>L.length - x.1.toNat) (20,Q1) ?_ ?_ ?_
   ·exact⟨20,bl,y,rfl,by omega,by omega,hbk,hys,by omega,hyst,hQ1,by show Q1.length=_;rw[hQ1,d3K];omega⟩
   ·cbv
   ·intro x hinv;clear hQ1 hyst hyl hys hins hst hbk hQ hQm hQl hLl hx hy hL hDl hle;obtain⟨zs,Q2⟩:=x;cbv;refine gn ?_;try simp only[nc] at *
    obtain⟨bs,bl,y,hbs,hb1,hb2,hbk,hsy,hyl,hst,hQ,hQl⟩:=hinv;have hbl:=b0s hbk;have hLl:L.length=bl.flatten.length+y.length:=by rw[<-hQl,hQ,d3K]
    have hlt:qi zs zn=decide (bs<L.length):=by rw[e7,hbs,hzn];exact d3X.2 (by omega)
    by_cases h8:bs<L.length
    ·rw[d3S h8] at hlt;have w2:qa .i64 (qd 2 zs)=((2 * bs:Nat):Int):=by rw[e1,e4,hbs,IntWalk.i64_in _ (by omega)];omega
     rw[hlt];cbv;refine gn ?_;try simp only[nc] at *
     refine n9 hA (γ:=Int×Int×List Rw) (λx=>[(7,vi .i64 x.1),(8,vi .i64 x.2.1)]) (λx=>[(0,.row false 124 x.2.2)])
      (λx=>∃b2 b1:List (List Rw),x.1=(b2.flatten.length:Int)/\x.2.1=((b2.flatten.length+2 * bs:Nat):Int)/\a4H (2 * bs) b2/\a4H bs b1/\Sta H1 (b2.flatten++(b1.flatten++y)) L/\x.2.2=b2.flatten++(b1.flatten++y)/\x.2.2.length=L.length) (λx=>L.length - x.1.toNat) (0,qa .i64 (qd 2 zs),Q2) ?_ ?_ ?_
     ·exact⟨[],bl,rfl,by show qa .i64 (qd 2 zs)=_;rw[w2];simp,λx hx=>by simp at hx,hbk,hst,hQ,hQl⟩
     ·cbv
     ·intro x hinv;clear hst hQ hQl hLl hbk hbl;obtain⟨zx,zy,Q3⟩:=x;cbv;refine gn ?_;try simp only[nc] at *
      obtain⟨b2,b1,hx,hy,hbk2,hbk1,hst,hQ,hQl⟩:=hinv;have hl1:=b0s hbk1;have hLl:L.length=b2.flatten.length+b1.flatten.length+y.length:=by rw[<-hQl,hQ];simp only[d3K];omega
      have hle:qj zy zn=decide (b2.flatten.length+2 * bs<=L.length):=by rw[e8,hy,hzn];exact d3X.2 (by omega)
      have wm:qa .i64 (qb zx zs)=((b2.flatten.length+bs:Nat):Int):=by rw[e1,e2,hx,hbs,IntWalk.i64_in _ (by omega)];omega
      by_cases h7:b2.flatten.length+2 * bs<=L.length
      ·rw[d3S h7] at hle
       obtain⟨u,v,b1',hb1e⟩:∃u v b1',b1=u::v::b1':=by
        match b1,hl1,hLl with
        | [],h1,h2=>simp only[List.flatten_nil,d3Y] at h2;omega
        | [u],h1,h2=>simp only[d3O,d3Y,d4L,Nat.one_mul] at h1;omega
        | u::v::b1',_,_=>exact⟨u,v,b1',rfl⟩
       have hu:=hbk1 u (by rw[hb1e];simp);have hv:=hbk1 v (by rw[hb1e];simp);have hQe:Q3=b2.flatten++(u++(v++(b1'.flatten++y))):=by rw[hQ,hb1e];simp
       obtain⟨Q4,hQ4⟩:∃Q,Q=b2.flatten++(r7 H1 (u++v)++(b1'.flatten++y)):=⟨_,rfl⟩;have hsy2:=c2G fid hc (u.length+v.length) b2.flatten u v (b1'.flatten++y) (d3Q _) (by omega) (by omega) (by rw[<-hQe,hQ];exact hm5 hst) (by rw[<-hQe,hQl];exact hN) hu.2 hv.2;rw[hu.1,hv.1,show b2.flatten.length+bs+bs=b2.flatten.length+2 * bs by omega,<-hQe,<-hQ4,<-hy,<-wm,<-hx] at hsy2;have hdl:(r7 H1 (u++v)).length=2 * bs:=by rw[T5,d3K,hu.1,hv.1];omega
       have w3:qa .i64 (qb zy (qa .i64 (qd 2 zs)))=((b2.flatten.length+2 * bs+2 * bs:Nat):Int):=by rw[w2,e1,e2,hy,IntWalk.i64_in _ (by omega)];omega
       rw[hle];cbv;refine gn ?_;try simp only[nc] at *
       refine K6 hA [0] hsy2 ⟨rfl,rfl,rfl,rfl,rfl,rfl,rfl⟩ ?_
       rintro res os2 ⟨rfl,rfl⟩
       cbv;refine gn ?_;try simp only[nc] at *
       have hfl:(b2++[r7 H1 (u++v)]).flatten=b2.flatten++r7 H1 (u++v):=by simp
       have hfll:(b2++[r7 H1 (u++v)]).flatten.length=b2.flatten.length+2 * bs:=by rw[hfl,d3K,hdl]
       refine⟨(zy,qa .i64 (qb zy (qa .i64 (qd 2 zs))),Q4),⟨b2++[r7 H1 (u++v)],b1',by rw[hfll];exact hy,by rw[hfll];exact w3,hbk2.snoc ⟨hdl,a1E a0e _⟩,λx hx=>hbk1 x (by rw[hb1e];simp[hx]),?_,by rw[hfl,d4q];exact hQ4,?_⟩,?_,?_⟩
       ·rw[hfl];refine Sta.trans ?_ hst;rw[hb1e];simp only[d4D,d4q];rw[<-d4q u v];exact Sta.append (.refl _) (Sta.append (a1F a0e _) (.refl _))
       ·show Q4.length=L.length;rw[<-hQl,hQ4,hQe];simp only[d3K,T5];omega
       ·show L.length - zy.toNat<L.length - zx.toNat;omega
       ·cbv
      ·rw[d3P h7] at hle
       have hfew:b1.length<=1:=by
        rcases d4F b1.length 2 with h|h
        ·omega
        ·exfalso;have h2:2 * bs<=b1.length * bs:=d4A _ h;omega
       have hlt2:qi (qa .i64 (qb zx zs)) zn=decide (b2.flatten.length+bs<L.length):=by rw[e7,wm,hzn];exact d3X.2 (by omega)
       have w4:qa .i64 (qd zs 2)=((2 * bs:Nat):Int):=by rw[e1,e4,hbs,IntWalk.i64_in _ (by omega)];omega
       rw[hle];cbv;refine gn ?_;try simp only[nc] at *
       by_cases h6:b2.flatten.length+bs<L.length
       ·rw[d3S h6] at hlt2
        obtain⟨u,hb1e⟩:∃u,b1=[u]:=by
         match b1,hl1,hLl,hfew with
         | [],h1,h2,_=>simp only[List.flatten_nil,d3Y] at h2;omega
         | [u],_,_,_=>exact⟨u,rfl⟩
        have hu:=hbk1 u (by rw[hb1e];simp);rw[hb1e] at hl1 hLl;simp only[d3O,d3Y,d4L,Nat.one_mul] at hl1;rw[hl1] at hLl;have hQe:Q3=b2.flatten++(u++(y++[])):=by rw[hQ,hb1e];simp
        obtain⟨Q4,hQ4⟩:∃Q,Q=b2.flatten++r7 H1 (u++y):=⟨_,rfl⟩;have hsy2:=c2G fid hc (u.length+y.length) b2.flatten u y [] (d3Q _) (by omega) (by omega) (by rw[<-hQe,hQ];exact hm5 hst) (by rw[<-hQe,hQl];exact hN) hu.2 hsy;rw[hu.1,<-hLl,<-hQe,d4d,<-hQ4,<-hzn,<-wm,<-hx] at hsy2;rw[hlt2];cbv;refine gn ?_;try simp only[nc] at *
        refine K6 hA [0] hsy2 ⟨rfl,rfl,rfl,rfl,rfl,rfl,rfl⟩ ?_
        rintro res os2 ⟨rfl,rfl⟩
        cbv;refine gn ?_;try simp only[nc] at *
        refine⟨(qa .i64 (qd zs 2),Q4),⟨2 * bs,b2,r7 H1 (u++y),w4,by omega,by omega,hbk2,a1E a0e _,by rw[T5,d3K,hu.1];omega,?_,hQ4,?_⟩,?_,?_⟩
        ·refine Sta.trans ?_ hst;rw[hb1e];simp only[d4D,List.flatten_nil,d4d];exact Sta.append (.refl _) (a1F a0e _)
        ·show Q4.length=L.length;rw[hQ4,d3K,T5,d3K,hu.1];omega
        ·show L.length - (qa .i64 (qd zs 2)).toNat<L.length - zs.toNat;rw[w4,hbs];omega
        ·cbv
       ·rw[d3P h6] at hlt2
        have hy2:Srt H1 (b1.flatten++y)/\(b1.flatten++y).length<2 * bs:=by
         match b1,hl1,hLl,hfew,hbk1 with
         | [],_,_,_,_=>exact⟨hsy,by simp;omega⟩
         | [u],h1,h2,_,h3 =>
          simp only[d3O,d3Y,d4L,Nat.one_mul] at h1;have hy0:y=[]:=d4h (by omega);subst hy0;exact⟨by simpa using (h3 u (by simp)).2,by rw[d3K,h1];simp;omega⟩
        rw[hlt2];cbv;refine gn ?_;try simp only[nc] at *
        refine⟨(qa .i64 (qd zs 2),Q3),⟨2 * bs,b2,b1.flatten++y,w4,by omega,by omega,hbk2,hy2.1,hy2.2,hst,hQ,hQl⟩,?_,?_⟩
        ·show L.length - (qa .i64 (qd zs 2)).toNat<L.length - zs.toNat;rw[w4,hbs];omega
        ·cbv
    ·rw[d3P h8] at hlt;rw[hlt];cbv;refine gn ?_;try simp only[nc] at *
     have hs:Srt H1 (bl.flatten++y):=by
      match bl,hbl,hLl,hbk with
      | [],_,_,_=>exact hsy
      | [u],h1,h2,h3 =>
       simp only[d3O,d3Y,d4L,Nat.one_mul] at h1;have hy0:y=[]:=d4h (by omega);subst hy0
       simpa using (h3 u (by simp)).2
      | u::v::bl',h1,h2,_ =>
       exfalso;simp only[d3O,Nat.add_mul] at h1;omega
     have e:Q2=M:=by rw[hM,hQ];exact a6L ⟨hs,hst⟩
     rw[e];exact hK [] [.row false 124 M] ⟨rfl,rfl⟩
theorem c2I (fid:Nat) (hc:b3p fid) (L:List Rw) (h5:∀x∈L,Ok5 x) (hN:L.length<=1048576) :
  E8 106 [.own 0,.cl fid []] [.row false 124 L] (λres os=>res=[]/\os=[.row false 124 (r7 H1 L)]):=by
 have hst:=c2H fid hc L h5 hN;obtain⟨M,hM⟩:∃M,M=r7 H1 L:=⟨_,rfl⟩;rw[<-hM] at hst ⊢;refine a1B Tryz.func106 rfl (by kernel_rfl) (by kernel_rfl) (by kernel_rfl) rfl rfl (by rintro _ _ ⟨_,rfl⟩;rfl) ?_;intros;rename_i hA K hK;cbv;refine gn ?_;try simp only[nc] at *
 obtain⟨r1,-⟩:=B3 hA;rw[<-r1] at hst;refine K6 hA [0] hst ⟨rfl,rfl,rfl,rfl,rfl,rfl,rfl⟩ ?_
 rintro res os2 ⟨rfl,rfl⟩
 cbv;refine gn ?_;exact hK [] [.row false 124 M] ⟨rfl,rfl⟩
end Go.Proofs.YtdjnoafijjepcaaGreat.Vm
end

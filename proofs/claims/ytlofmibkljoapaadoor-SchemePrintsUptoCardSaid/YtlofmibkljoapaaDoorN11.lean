/- Part 11 of the proof. Conditions: none. -/
import Derived.Test.YtlofmibkljoapaaDoorN4
import Derived.Test.YtlofmibkljoapaaDoorN10
import Derived.Test.YtlofmibkljoapaaDoorN0
set_option linter.all false
set_option linter.unusedVariables false
set_option linter.unusedSimpArgs false
section
namespace Go.Proofs.YtlofmibkljoapaaDoor.Vm
open Go.RowKit
set_option maxRecDepth 100000
set_option maxHeartbeats 8000000
theorem b9A (fid:Nat) (hc:b0e fid) (N:Nat) (ih:c2w fid N) (P U V S:List Rw) (hNN:U.length+V.length<=N+1) (hU2:2<=U.length) (hV2:2<=V.length) (h5:∀x∈P++(U++(V++S)),Ok5 x) (hN:(P++(U++(V++S))).length<=1048576) (hU:P7 A9 U) (hV:P7 A9 V) :
  a0Z 81 [.own 0,vi .i64 P.length,vi .i64 (P.length+U.length:Nat),vi .i64 (P.length+U.length+V.length:Nat),.cl fid []] [.row false 73 (P++(U++(V++S)))] (λres os=>res=[]/\os=[.row false 73 (P++(d5 A9 (U++V)++S))]):=by
 obtain⟨a,ea⟩:∃a,a=P.length:=⟨_,rfl⟩;obtain⟨m,em⟩:∃m,m=P.length+U.length:=⟨_,rfl⟩;obtain⟨b,eb⟩:∃b,b=P.length+U.length+V.length:=⟨_,rfl⟩;obtain⟨mid,emid⟩:∃mid,mid=(a+b) / 2:=⟨_,rfl⟩;obtain⟨za,hza⟩:∃z:Int,z=(a:Int):=⟨_,rfl⟩;obtain⟨zm,hzm⟩:∃z:Int,z=(m:Int):=⟨_,rfl⟩;obtain⟨zb,hzb⟩:∃z:Int,z=(b:Int):=⟨_,rfl⟩;obtain⟨zc,hzc⟩:∃z:Int,z=(mid:Int):=⟨_,rfl⟩;obtain⟨zn,hzn⟩:∃z:Int,z=((mid+m:Nat):Int):=⟨_,rfl⟩;obtain⟨p,hp⟩:∃p,p+1=mid+m:=⟨mid+m - 1,by omega⟩;obtain⟨L,hL⟩:∃L,L=P++(U++(V++S)):=⟨_,rfl⟩;obtain⟨M,hM⟩:∃M,M=P++(d5 A9 (U++V)++S):=⟨_,rfl⟩;rw[<-eb,<-em,<-ea,<-hza,<-hzm,<-hzb,<-hM,<-hL];rw[<-hL] at h5 hN;have hLl:L.length=a+U.length+V.length+S.length:=by rw[hL,ea];simp only[c37];omega
 have hUL:U.length=m - a:=by omega
 have hVL:V.length=b - m:=by omega
 have ham:a<m:=by omega
 have hmb:m<b:=by omega
 have hb:Tryd.f81.body=some (.seq (I6 (Tryd.f81.body.getD .skip)) (.seq (I6 (j0 (Tryd.f81.body.getD .skip))) (.seq (I6 (j0 (j0 (Tryd.f81.body.getD .skip)))) (.seq (I6 (j0 (j0 (j0 (Tryd.f81.body.getD .skip))))) (.seq (I6 (j0 (j0 (j0 (j0 (Tryd.f81.body.getD .skip)))))) (.seq (I6 (j0 (j0 (j0 (j0 (j0 (Tryd.f81.body.getD .skip))))))) (.seq (I6 (j0 (j0 (j0 (j0 (j0 (j0 (Tryd.f81.body.getD .skip)))))))) (.seq (I6 (j0 (j0 (j0 (j0 (j0 (j0 (j0 (Tryd.f81.body.getD .skip))))))))) (.seq (I6 (j0 (j0 (j0 (j0 (j0 (j0 (j0 (j0 (Tryd.f81.body.getD .skip)))))))))) (j0 (j0 (j0 (j0 (j0 (j0 (j0 (j0 (j0 (Tryd.f81.body.getD .skip))))))))))))))))))):=by kernel_rfl
 refine a0w Tryd.func81 hb (by kernel_rfl) (by kernel_rfl) (by kernel_rfl) rfl rfl (by rintro _ _ ⟨_,rfl⟩;rfl) ?_;intros;rename_i hA K hK;have hend:∀t,a4Q a7 1 K Tryd.f81.results.toList .normal ⟨t,[.row false 73 M,.kl []]⟩:=λt=>hK [] [.row false 73 M] ⟨rfl,rfl⟩
 rw[hA];refine b7G fid _ L a m b mid za zm zb zc zn hza hzm hzb hzc hzn emid (by omega) (by omega) (by omega) _ (λs0 r0 zs0 zr0 ws wr hW hsr hrm=>?_) _ _ _ _ _ _ _ _ _ _ _ _ _ _ _ _ _ _ _ _ _ _ _ _ _ _ _ _ _ _ _ _ _ _ _ _ _ _ _ _ _ _ _ (show Ar.mk a7.wrap a7.add a7.sub a7.mul a7.quo a7.rem a7.bits a7.lt a7.le a7.eq a7.nz a7.seq a7.slt a7.bytes a7.cat a7.fits a7.slen a7.sget a7.ssub a7.txt a7.byt a7.nat a7.len a7.get a7.sub2 a7.app a7.set a7.room a7.mlook a7.mput a7.deq a7.rep a7.call a7.calld a7.callo a7.callx a7.new a7.lit a7.keep a7.next a7.ext a7.reg a7.loop=a7 from rfl);refine b2V fid hc _ P U V S L a m b mid p s0 r0 za zm zb zc zn zs0 zr0 ea hUL hVL hL h5 hN hU hV emid ham hmb hp hW hsr hrm (by omega) hzn ws wr _ (λs zs hs hs1 hs3 hlo hhi=>?_) _ _ _ _ _ _ _ _ _ _ _ _ _ _ _ _ _ _ _ _ _ _ _ _ _ _ _ _ _ _ _ _ _ _ _ _ _ _ _ _ _ _ _ (show Ar.mk a7.wrap a7.add a7.sub a7.mul a7.quo a7.rem a7.bits a7.lt a7.le a7.eq a7.nz a7.seq a7.slt a7.bytes a7.cat a7.fits a7.slen a7.sget a7.ssub a7.txt a7.byt a7.nat a7.len a7.get a7.sub2 a7.app a7.set a7.room a7.mlook a7.mput a7.deq a7.rep a7.call a7.calld a7.callo a7.callx a7.new a7.lit a7.keep a7.next a7.ext a7.reg a7.loop=a7 from rfl);have hwb:=H7 hW emid ham hmb hs1 hs3;have hpa:=c11 hU hV hUL hVL hW emid ham hmb hp hs1 hs3 hlo hhi;obtain⟨e,he⟩:∃e,e=mid+m - s:=⟨_,rfl⟩;rw[<-he] at hpa hwb;obtain⟨U1,U2,hUs,hU1⟩:=a1f (l:=U) (n:=s - a) (by omega);obtain⟨V1,V2,hVs,hV1⟩:=a1f (l:=V) (n:=e - m) (by omega);rw[hUs,hVs,c5V hU1,c5U hU1,c5V hV1,c5U hV1] at hpa;have hul:U2.length=m - s:=by rw[hUs,c37] at hUL;omega
 have hvl:V2.length=b - e:=by rw[hVs,c37] at hVL;omega
 have sU:P7 A9 (U1++U2):=by rw[<-hUs];exact hU
 have sV:P7 A9 (V1++V2):=by rw[<-hVs];exact hV
 obtain⟨sU1,sU2,-⟩:=C6.1 sU;obtain⟨sV1,sV2,-⟩:=C6.1 sV;obtain⟨Q1,hQ1⟩:∃Q,Q=P++(U1++(V1++(U2++(V2++S)))):=⟨_,rfl⟩;obtain⟨Q2,hQ2⟩:∃Q,Q=P++(d5 A9 (U1++V1)++(U2++(V2++S))):=⟨_,rfl⟩;have hLx:L=(P++U1)++(U2++(V1++(V2++S))):=by rw[hL,hUs,hVs];simp
 have hQx:Q1=(P++U1)++(V1++(U2++(V2++S))):=by rw[hQ1];simp
 have hfin:d5 A9 (U1++V1)++d5 A9 (U2++V2)=d5 A9 (U++V):=a4Y (by
  have h:=b0a M6 sU sV hpa.1 hpa.2 (M4 M6 (U1++V1)) (Y3 M6 (U1++V1)) (M4 M6 (U2++V2)) (Y3 M6 (U2++V2));rw[<-hUs,<-hVs] at h
  exact h)
 have hMx:M=(P++d5 A9 (U1++V1))++(d5 A9 (U2++V2)++S):=by rw[hM,<-hfin];simp
 have hQ2x:Q2=(P++d5 A9 (U1++V1))++(U2++(V2++S)):=by rw[hQ2];simp
 have m1:∀x∈Q1,Ok5 x:=λx hx=>h5 x (by rw[hLx];rw[hQx] at hx;simp only[c4b] at hx ⊢;grind)
 have m2:∀x∈Q2,Ok5 x:=λx hx=>m1 x (by
  rw[hQ2] at hx;rw[hQ1];simp only[c4b] at hx ⊢
  rcases hx with hx|hx|hx
  ·exact .inl hx
  ·have:=B8 hx;rw[c4b] at this
   grind
  ·grind)
 have l1:Q1.length=L.length:=by rw[hQx,hLx];simp only[c37];omega
 have l2:Q2.length=L.length:=by rw[<-l1,hQ2,hQ1];simp only[c37,I4];omega
 have we:a7.wrap .i64 (a7.sub zn zs)=(e:Int):=by
  show IntKind.i64.wrap (zn - zs)=_;rw[hzn,hs,IntWalk.i64_in _ (by omega)];omega
 generalize a7.wrap .i64 (a7.sub zn zs)=ze at we;have k1:((P++U1).length:Int)=zs:=by rw[c37];omega
 have k2:(((P++U1).length+U2.length:Nat):Int)=zm:=by rw[c37];omega
 have k3:(((P++U1).length+U2.length+V1.length:Nat):Int)=ze:=by rw[c37];omega
 have k4:(P.length:Int)=za:=by omega
 have k5:((P.length+U1.length:Nat):Int)=zs:=by omega
 have k6:((P.length+U1.length+V1.length:Nat):Int)=zc:=by omega
 have k7:((P++d5 A9 (U1++V1)).length:Int)=zc:=by rw[c37,I4,c37];omega
 have k8:(((P++d5 A9 (U1++V1)).length+U2.length:Nat):Int)=ze:=by rw[c37,I4,c37];omega
 have k9:(((P++d5 A9 (U1++V1)).length+U2.length+V2.length:Nat):Int)=zb:=by rw[c37,I4,c37];omega
 have nil:∀ {l:List Rw},decide (0<l.length)=false->l=[]:=λh2=>c3P (by have:=c49 h2;omega)
 have ltI:∀x y:Int,a7.lt x y=decide (x<y):=λ_ _=>rfl
 refine b7F fid L M Q1 Q2 za zm zb zc zs ze (decide (0<U1.length)) (decide (0<U2.length)) (decide (0<V1.length)) (decide (0<V2.length)) (λh1 h2=>?_) (λh1 h2=>?_) (λh1 h2=>?_) (λh=>?_) (λh=>?_) (λh=>?_) _ _ _ _ _ _ _ _ _ _ _ _ _ _ _ _ _ _ _ _ _ _ _ _ _ _ _ _ _ _ _ _ _ _ _ _ _ _ _ _ _ _ _ (show Ar.mk a7.wrap a7.add a7.sub a7.mul a7.quo a7.rem a7.bits a7.lt a7.le a7.eq a7.nz a7.seq a7.slt a7.bytes a7.cat a7.fits a7.slen a7.sget a7.ssub a7.txt a7.byt a7.nat a7.len a7.get a7.sub2 a7.app a7.set a7.room a7.mlook a7.mput a7.deq a7.rep a7.call a7.calld a7.callo a7.callx a7.new a7.lit a7.keep a7.next a7.ext a7.reg a7.loop=a7 from rfl) ?_ ?_ ?_ ?_ ?_ ?_ _ hend
 ·have h:=b7D (P++U1) U2 V1 (V2++S) (by rw[<-hLx];exact λx hx=>(h5 x hx).len) fid (by rw[<-hLx];exact hN) (c4d h1) (c4d h2);rw[k3,k2,k1,<-hLx,<-hQx] at h;exact h
 ·have h:=ih P U1 V1 (U2++(V2++S)) (by omega) (c4d h1) (c4d h2) (by rw[<-hQ1];exact m1) (by rw[<-hQ1,l1];exact hN) sU1 sV1;rw[k6,k5,k4,<-hQ1,<-hQ2] at h;exact h
 ·have h:=ih (P++d5 A9 (U1++V1)) U2 V2 S (by omega) (c4d h1) (c4d h2) (by rw[<-hQ2x];exact m2) (by rw[<-hQ2x,l2];exact hN) sU2 sV2;rw[k9,k8,k7,<-hQ2x,<-hMx] at h;exact h
 ·rw[hLx,hQx]
  rcases h with h|h
  ·rw[nil h];simp
  ·rw[nil h];simp
 ·rw[hQ1,hQ2]
  rcases h with h|h
  ·rw[nil h,c4t,c4t,a39 sV1]
  ·rw[nil h,c3X,c4t,a39 sU1]
 ·rw[hQ2x,hMx]
  rcases h with h|h
  ·rw[nil h,c4t,c4t,a39 sV2]
  ·rw[nil h,c3X,c4t,a39 sU2]
 ·show a7.lt zs zm=_;rw[ltI,hs,hzm];exact c3M.2 (by omega)
 ·show a7.lt zm ze=_;rw[ltI,we,hzm];exact c3M.2 (by omega)
 ·show a7.lt za zs=_;rw[ltI,hza,hs];exact c3M.2 (by omega)
 ·show a7.lt zs zc=_;rw[ltI,hzc,hs];exact c3M.2 (by omega)
 ·show a7.lt zc ze=_;rw[ltI,hzc,we];exact c3M.2 (by omega)
 ·show a7.lt ze zb=_;rw[ltI,we,hzb];exact c3M.2 (by omega)
theorem b7H (fid:Nat) (hc:b0e fid):∀N,c2w fid N:=by
 intro N
 induction N with
 | zero=>intro P U V S h h1;omega
 | succ N ih =>
  intro P U V S hN hU0 hV0 h5 hL hU hV
  rcases (show U.length=1\/2<=U.length by omega) with hu|hu
  ·obtain⟨u,rfl⟩:=c5I.1 hu;exact b7E fid hc P V S u h5 hL hV
  ·rcases (show V.length=1\/2<=V.length by omega) with hv|hv
   ·obtain⟨v,rfl⟩:=c5I.1 hv;exact b5Q fid hc P U S v h5 hL hU hu
   ·exact b9A fid hc N ih P U V S (by omega) hu hv h5 hL hU hV
theorem b7I (fid:Nat) (hc:b0e fid) (L:List Rw) (h5:∀x∈L,Ok5 x) (hN:L.length<=1048576) :
  a0Z 68 [.own 0,vi .i64 L.length,.cl fid []] [.row false 73 L] (λres os=>res=[]/\os=[.row false 73 (d5 A9 L)]):=by
 obtain⟨zn,hzn⟩:∃z:Int,z=(L.length:Int):=⟨_,rfl⟩;obtain⟨M,hM⟩:∃M,M=d5 A9 L:=⟨_,rfl⟩;rw[<-hzn,<-hM];refine a0w Tryd.func68 rfl (by kernel_rfl) (by kernel_rfl) (by kernel_rfl) rfl rfl (by rintro _ _ ⟨_,rfl⟩;rfl) ?_;intro qa qb _ qd _ _ _ qh qi;intros;rename_i hA K hK;cbv;refine gn ?_;try simp only[nc] at *
 obtain⟨e1,e2,e3,e4,e5,e6,e7,e8,e9⟩:=j3 hA
 refine l7 hA (γ:=Int×Int×List Rw) (λx=>[(7,vi .i64 x.1),(8,vi .i64 x.2.1)]) (λx=>[(0,.row false 73 x.2.2)])
  (λx=>∃(bl:List (List Rw)) (D R:List Rw),x.1=(bl.flatten.length:Int)/\x.2.1=((bl.flatten.length+20:Nat):Int)/\a3g 20 bl/\L=D++R/\D.length=bl.flatten.length/\Z5 A9 bl.flatten D/\x.2.2=bl.flatten++R/\∀r∈x.2.2,r∈L) (λx=>L.length - x.1.toNat) (0,20,L) ?_ ?_ ?_
 ·exact⟨[],[],L,rfl,rfl,λx hx=>by simp at hx,rfl,rfl,.refl _,rfl,λr h=>h⟩
 ·cbv
 ·intro x hinv;obtain⟨zx,zy,Q⟩:=x;cbv;refine gn ?_;try simp only[nc] at *
  obtain⟨bl,D,R,hx,hy,hbk,hL,hDl,hst,hQ,hQm⟩:=hinv;have hLl:L.length=bl.flatten.length+R.length:=by rw[hL,c37,hDl]
  have hle:qi zy zn=decide (bl.flatten.length+20<=L.length):=by rw[e8,hy,hzn];exact c3M.2 (by omega)
  have hQl:Q.length=L.length:=by rw[hQ,c37,hLl]
  by_cases h9:bl.flatten.length+20<=L.length
  ·rw[c3K h9] at hle;obtain⟨x,R',hR,hx20⟩:=a1f (l:=R) (n:=20) (by omega);obtain⟨Q1,hQ1⟩:∃Q1,Q1=bl.flatten++(d5 A9 x++R'):=⟨_,rfl⟩;have hins:=b17 fid hc bl.flatten x R' (by rw[<-hR,<-hQ];exact λr hr=>h5 r (hQm r hr)) (by rw[<-hR,<-hQ,hQl];exact hN);rw[<-hR,<-hQ,hx20,<-hy,<-hx,<-hQ1] at hins;rw[hle];cbv;refine gn ?_;try simp only[nc] at *
   refine F7 hA [0] hins ⟨rfl,rfl,rfl,rfl,rfl,rfl,rfl⟩ ?_
   rintro res os2 ⟨rfl,rfl⟩
   cbv;refine gn ?_;try simp only[nc] at *
   have hfl:(bl++[d5 A9 x]).flatten=bl.flatten++d5 A9 x:=by simp
   have hfll:(bl++[d5 A9 x]).flatten.length=bl.flatten.length+20:=by rw[hfl,c37,I4,hx20]
   have w1:qa .i64 (qb zy 20)=((bl.flatten.length+20+20:Nat):Int):=by rw[e1,e2,hy,IntWalk.i64_in _ (by omega)];omega
   refine⟨(zy,qa .i64 (qb zy 20),Q1),⟨bl++[d5 A9 x],D++x,R',by rw[hfll];exact hy,by rw[hfll];exact w1,hbk.snoc ⟨by rw[I4,hx20],M4 M6 x⟩,by rw[hL,hR,c4c],by rw[hfll,c37,hDl,hx20],by rw[hfl];exact Z5.append hst (Y3 M6 x),by rw[hfl,c4c];exact hQ1,?_⟩,?_,?_⟩
   ·intro r hr;refine hQm r ?_;have hr:r∈Q1:=hr;rw[hQ1] at hr;rw[hQ,hR];simp only[c4b] at hr ⊢
    rcases hr with hr|hr|hr
    ·exact .inl hr
    ·exact .inr (.inl (B8 hr))
    ·exact .inr (.inr hr)
   ·show L.length - zy.toNat<L.length - zx.toNat;omega
   ·cbv
  ·rw[c3I h9] at hle;obtain⟨y,hyy⟩:∃y,y=d5 A9 R:=⟨_,rfl⟩;obtain⟨Q1,hQ1⟩:∃Q1,Q1=bl.flatten++y:=⟨_,rfl⟩;have hins:=b17 fid hc bl.flatten R [] (by rw[c3X,<-hQ];exact λr hr=>h5 r (hQm r hr)) (by rw[c3X,<-hQ,hQl];exact hN);rw[c3X,c3X,<-hQ,<-hLl,<-hzn,<-hx,<-hyy,<-hQ1] at hins;have hys:P7 A9 y:=by rw[hyy];exact M4 M6 R
   have hyl:y.length=R.length:=by rw[hyy,I4]
   have hyst:Z5 A9 (bl.flatten++y) L:=by rw[hL];exact Z5.append hst (by rw[hyy];exact Y3 M6 R)
   have hm5:∀ {q:List Rw},Z5 A9 q L->∀x∈q,Ok5 x:=λh x hx=>h5 x (h.mem M6 hx)
   rw[hle];cbv;refine gn ?_;try simp only[nc] at *
   refine F7 hA [0] hins ⟨rfl,rfl,rfl,rfl,rfl,rfl,rfl⟩ ?_
   rintro res os2 ⟨rfl,rfl⟩
   cbv;refine gn ?_;try simp only[nc] at *
   refine l7 hA (γ:=Int×List Rw) (λx=>[(6,vi .i64 x.1)]) (λx=>[(0,.row false 73 x.2)])
    (λx=>∃(bs:Nat) (bl:List (List Rw)) (y:List Rw),x.1=(bs:Int)/\20<=bs/\bs<=4194304/\a3g bs bl/\P7 A9 y/\y.length<bs/\Z5 A9 (bl.flatten++y) L/\x.2=bl.flatten++y/\x.2.length=L.length) (λx=>L.length - x.1.toNat) (20,Q1) ?_ ?_ ?_
   ·exact⟨20,bl,y,rfl,by omega,by omega,hbk,hys,by omega,hyst,hQ1,by show Q1.length=_;rw[hQ1,c37];omega⟩
   ·cbv
   ·intro x hinv;clear hQ1 hyst hyl hys hins hst hbk hQ hQm hQl hLl hx hy hL hDl hle;obtain⟨zs,Q2⟩:=x;cbv;refine gn ?_;try simp only[nc] at *
    obtain⟨bs,bl,y,hbs,hb1,hb2,hbk,hsy,hyl,hst,hQ,hQl⟩:=hinv;have hbl:=a7L hbk;have hLl:L.length=bl.flatten.length+y.length:=by rw[<-hQl,hQ,c37]
    have hlt:qh zs zn=decide (bs<L.length):=by rw[e7,hbs,hzn];exact c3M.2 (by omega)
    by_cases h8:bs<L.length
    ·rw[c3K h8] at hlt;have w2:qa .i64 (qd 2 zs)=((2 * bs:Nat):Int):=by rw[e1,e4,hbs,IntWalk.i64_in _ (by omega)];omega
     rw[hlt];cbv;refine gn ?_;try simp only[nc] at *
     refine l7 hA (γ:=Int×Int×List Rw) (λx=>[(7,vi .i64 x.1),(8,vi .i64 x.2.1)]) (λx=>[(0,.row false 73 x.2.2)])
      (λx=>∃b2 b1:List (List Rw),x.1=(b2.flatten.length:Int)/\x.2.1=((b2.flatten.length+2 * bs:Nat):Int)/\a3g (2 * bs) b2/\a3g bs b1/\Z5 A9 (b2.flatten++(b1.flatten++y)) L/\x.2.2=b2.flatten++(b1.flatten++y)/\x.2.2.length=L.length) (λx=>L.length - x.1.toNat) (0,qa .i64 (qd 2 zs),Q2) ?_ ?_ ?_
     ·exact⟨[],bl,rfl,by show qa .i64 (qd 2 zs)=_;rw[w2];simp,λx hx=>by simp at hx,hbk,hst,hQ,hQl⟩
     ·cbv
     ·intro x hinv;clear hst hQ hQl hLl hbk hbl;obtain⟨zx,zy,Q3⟩:=x;cbv;refine gn ?_;try simp only[nc] at *
      obtain⟨b2,b1,hx,hy,hbk2,hbk1,hst,hQ,hQl⟩:=hinv;have hl1:=a7L hbk1;have hLl:L.length=b2.flatten.length+b1.flatten.length+y.length:=by rw[<-hQl,hQ];simp only[c37];omega
      have hle:qi zy zn=decide (b2.flatten.length+2 * bs<=L.length):=by rw[e8,hy,hzn];exact c3M.2 (by omega)
      have wm:qa .i64 (qb zx zs)=((b2.flatten.length+bs:Nat):Int):=by rw[e1,e2,hx,hbs,IntWalk.i64_in _ (by omega)];omega
      by_cases h7:b2.flatten.length+2 * bs<=L.length
      ·rw[c3K h7] at hle
       obtain⟨u,v,b1',hb1e⟩:∃u v b1',b1=u::v::b1':=by
        match b1,hl1,hLl with
        | [],h1,h2=>simp only[List.flatten_nil,c3H] at h2;omega
        | [u],h1,h2=>simp only[c3C,c3H,c4z,Nat.one_mul] at h1;omega
        | u::v::b1',_,_=>exact⟨u,v,b1',rfl⟩
       have hu:=hbk1 u (by rw[hb1e];simp);have hv:=hbk1 v (by rw[hb1e];simp);have hQe:Q3=b2.flatten++(u++(v++(b1'.flatten++y))):=by rw[hQ,hb1e];simp
       obtain⟨Q4,hQ4⟩:∃Q,Q=b2.flatten++(d5 A9 (u++v)++(b1'.flatten++y)):=⟨_,rfl⟩;have hsy2:=b7H fid hc (u.length+v.length) b2.flatten u v (b1'.flatten++y) (c3A _) (by omega) (by omega) (by rw[<-hQe,hQ];exact hm5 hst) (by rw[<-hQe,hQl];exact hN) hu.2 hv.2;rw[hu.1,hv.1,show b2.flatten.length+bs+bs=b2.flatten.length+2 * bs by omega,<-hQe,<-hQ4,<-hy,<-wm,<-hx] at hsy2;have hdl:(d5 A9 (u++v)).length=2 * bs:=by rw[I4,c37,hu.1,hv.1];omega
       have w3:qa .i64 (qb zy (qa .i64 (qd 2 zs)))=((b2.flatten.length+2 * bs+2 * bs:Nat):Int):=by rw[w2,e1,e2,hy,IntWalk.i64_in _ (by omega)];omega
       rw[hle];cbv;refine gn ?_;try simp only[nc] at *
       refine F7 hA [0] hsy2 ⟨rfl,rfl,rfl,rfl,rfl,rfl,rfl⟩ ?_
       rintro res os2 ⟨rfl,rfl⟩
       cbv;refine gn ?_;try simp only[nc] at *
       have hfl:(b2++[d5 A9 (u++v)]).flatten=b2.flatten++d5 A9 (u++v):=by simp
       have hfll:(b2++[d5 A9 (u++v)]).flatten.length=b2.flatten.length+2 * bs:=by rw[hfl,c37,hdl]
       refine⟨(zy,qa .i64 (qb zy (qa .i64 (qd 2 zs))),Q4),⟨b2++[d5 A9 (u++v)],b1',by rw[hfll];exact hy,by rw[hfll];exact w3,hbk2.snoc ⟨hdl,M4 M6 _⟩,λx hx=>hbk1 x (by rw[hb1e];simp[hx]),?_,by rw[hfl,c4c];exact hQ4,?_⟩,?_,?_⟩
       ·rw[hfl];refine Z5.trans ?_ hst;rw[hb1e];simp only[c4x,c4c];rw[<-c4c u v];exact Z5.append (.refl _) (Z5.append (Y3 M6 _) (.refl _))
       ·show Q4.length=L.length;rw[<-hQl,hQ4,hQe];simp only[c37,I4];omega
       ·show L.length - zy.toNat<L.length - zx.toNat;omega
       ·cbv
      ·rw[c3I h7] at hle
       have hfew:b1.length<=1:=by
        rcases c4q b1.length 2 with h|h
        ·omega
        ·exfalso;have h2:2 * bs<=b1.length * bs:=c41 _ h;omega
       have hlt2:qh (qa .i64 (qb zx zs)) zn=decide (b2.flatten.length+bs<L.length):=by rw[e7,wm,hzn];exact c3M.2 (by omega)
       have w4:qa .i64 (qd zs 2)=((2 * bs:Nat):Int):=by rw[e1,e4,hbs,IntWalk.i64_in _ (by omega)];omega
       rw[hle];cbv;refine gn ?_;try simp only[nc] at *
       by_cases h6:b2.flatten.length+bs<L.length
       ·rw[c3K h6] at hlt2
        obtain⟨u,hb1e⟩:∃u,b1=[u]:=by
         match b1,hl1,hLl,hfew with
         | [],h1,h2,_=>simp only[List.flatten_nil,c3H] at h2;omega
         | [u],_,_,_=>exact⟨u,rfl⟩
        have hu:=hbk1 u (by rw[hb1e];simp);rw[hb1e] at hl1 hLl;simp only[c3C,c3H,c4z,Nat.one_mul] at hl1;rw[hl1] at hLl;have hQe:Q3=b2.flatten++(u++(y++[])):=by rw[hQ,hb1e];simp
        obtain⟨Q4,hQ4⟩:∃Q,Q=b2.flatten++d5 A9 (u++y):=⟨_,rfl⟩;have hsy2:=b7H fid hc (u.length+y.length) b2.flatten u y [] (c3A _) (by omega) (by omega) (by rw[<-hQe,hQ];exact hm5 hst) (by rw[<-hQe,hQl];exact hN) hu.2 hsy;rw[hu.1,<-hLl,<-hQe,c3X,<-hQ4,<-hzn,<-wm,<-hx] at hsy2;rw[hlt2];cbv;refine gn ?_;try simp only[nc] at *
        refine F7 hA [0] hsy2 ⟨rfl,rfl,rfl,rfl,rfl,rfl,rfl⟩ ?_
        rintro res os2 ⟨rfl,rfl⟩
        cbv;refine gn ?_;try simp only[nc] at *
        refine⟨(qa .i64 (qd zs 2),Q4),⟨2 * bs,b2,d5 A9 (u++y),w4,by omega,by omega,hbk2,M4 M6 _,by rw[I4,c37,hu.1];omega,?_,hQ4,?_⟩,?_,?_⟩
        ·refine Z5.trans ?_ hst;rw[hb1e];simp only[c4x,List.flatten_nil,c3X];exact Z5.append (.refl _) (Y3 M6 _)
        ·show Q4.length=L.length;rw[hQ4,c37,I4,c37,hu.1];omega
        ·show L.length - (qa .i64 (qd zs 2)).toNat<L.length - zs.toNat;rw[w4,hbs];omega
        ·cbv
       ·rw[c3I h6] at hlt2
        have hy2:P7 A9 (b1.flatten++y)/\(b1.flatten++y).length<2 * bs:=by
         match b1,hl1,hLl,hfew,hbk1 with
         | [],_,_,_,_=>exact⟨hsy,by simp;omega⟩
         | [u],h1,h2,_,h3 =>
          simp only[c3C,c3H,c4z,Nat.one_mul] at h1;have hy0:y=[]:=c3P (by omega);subst hy0;exact⟨by simpa using (h3 u (by simp)).2,by rw[c37,h1];simp;omega⟩
        rw[hlt2];cbv;refine gn ?_;try simp only[nc] at *
        refine⟨(qa .i64 (qd zs 2),Q3),⟨2 * bs,b2,b1.flatten++y,w4,by omega,by omega,hbk2,hy2.1,hy2.2,hst,hQ,hQl⟩,?_,?_⟩
        ·show L.length - (qa .i64 (qd zs 2)).toNat<L.length - zs.toNat;rw[w4,hbs];omega
        ·cbv
    ·rw[c3I h8] at hlt;rw[hlt];cbv;refine gn ?_;try simp only[nc] at *
     have hs:P7 A9 (bl.flatten++y):=by
      match bl,hbl,hLl,hbk with
      | [],_,_,_=>exact hsy
      | [u],h1,h2,h3 =>
       simp only[c3C,c3H,c4z,Nat.one_mul] at h1;have hy0:y=[]:=c3P (by omega);subst hy0
       simpa using (h3 u (by simp)).2
      | u::v::bl',h1,h2,_ =>
       exfalso;simp only[c3C,c5Z] at h1;omega
     have e:Q2=M:=by rw[hM,hQ];exact a4Y ⟨hs,hst⟩
     rw[e];exact hK [] [.row false 73 M] ⟨rfl,rfl⟩
theorem b7J (fid:Nat) (hc:b0e fid) (L:List Rw) (h5:∀x∈L,Ok5 x) (hN:L.length<=1048576) :
  a0Z 43 [.own 0,.cl fid []] [.row false 73 L] (λres os=>res=[]/\os=[.row false 73 (d5 A9 L)]):=by
 have hst:=b7I fid hc L h5 hN;obtain⟨M,hM⟩:∃M,M=d5 A9 L:=⟨_,rfl⟩;rw[<-hM] at hst ⊢;refine a0w Tryd.func43 rfl (by kernel_rfl) (by kernel_rfl) (by kernel_rfl) rfl rfl (by rintro _ _ ⟨_,rfl⟩;rfl) ?_;intros;rename_i hA K hK;cbv;refine gn ?_;try simp only[nc] at *
 obtain⟨r1,-⟩:=m8 hA;rw[<-r1] at hst;refine F7 hA [0] hst ⟨rfl,rfl,rfl,rfl,rfl,rfl,rfl⟩ ?_
 rintro res os2 ⟨rfl,rfl⟩
 cbv;refine gn ?_;exact hK [] [.row false 73 M] ⟨rfl,rfl⟩
end Go.Proofs.YtlofmibkljoapaaDoor.Vm
end

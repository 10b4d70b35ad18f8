/- Part 11 of the proof. Conditions: none. -/
import Derived.Test.YtlofmibkljoapaaDoorO4
import Derived.Test.YtlofmibkljoapaaDoorO10
import Derived.Test.YtlofmibkljoapaaDoorO0
set_option linter.all false
set_option linter.unusedVariables false
set_option linter.unusedSimpArgs false
section
namespace Go.Proofs.YtlofmibkljoapaaDoor.Vm
open Go.RowKit
set_option maxRecDepth 100000
set_option maxHeartbeats 8000000
theorem b8O (fid:Nat) (hc:a8m fid) (N:Nat) (ih:c13 fid N) (P U V S:List Rw) (hNN:U.length+V.length<=N+1) (hU2:2<=U.length) (hV2:2<=V.length) (h5:∀x∈P++(U++(V++S)),Ok5 x) (hN:(P++(U++(V++S))).length<=1048576) (hU:N5 z7 U) (hV:N5 z7 V) :
  a0W 81 [.own 0,vi .i64 P.length,vi .i64 (P.length+U.length:Nat),vi .i64 (P.length+U.length+V.length:Nat),.cl fid []] [.row false 73 (P++(U++(V++S)))] (λres os=>res=[]/\os=[.row false 73 (P++(i6 z7 (U++V)++S))]):=by
 obtain⟨a,ea⟩:∃a,a=P.length:=⟨_,rfl⟩;obtain⟨m,em⟩:∃m,m=P.length+U.length:=⟨_,rfl⟩;obtain⟨b,eb⟩:∃b,b=P.length+U.length+V.length:=⟨_,rfl⟩;obtain⟨mid,emid⟩:∃mid,mid=(a+b) / 2:=⟨_,rfl⟩;obtain⟨za,hza⟩:∃z:Int,z=(a:Int):=⟨_,rfl⟩;obtain⟨zm,hzm⟩:∃z:Int,z=(m:Int):=⟨_,rfl⟩;obtain⟨zb,hzb⟩:∃z:Int,z=(b:Int):=⟨_,rfl⟩;obtain⟨zc,hzc⟩:∃z:Int,z=(mid:Int):=⟨_,rfl⟩;obtain⟨zn,hzn⟩:∃z:Int,z=((mid+m:Nat):Int):=⟨_,rfl⟩;obtain⟨p,hp⟩:∃p,p+1=mid+m:=⟨mid+m - 1,by omega⟩;obtain⟨L,hL⟩:∃L,L=P++(U++(V++S)):=⟨_,rfl⟩;obtain⟨M,hM⟩:∃M,M=P++(i6 z7 (U++V)++S):=⟨_,rfl⟩;rw[<-eb,<-em,<-ea,<-hza,<-hzm,<-hzb,<-hM,<-hL];rw[<-hL] at h5 hN;have hLl:L.length=a+U.length+V.length+S.length:=by rw[hL,ea];simp only[c29];omega
 have hUL:U.length=m - a:=by omega
 have hVL:V.length=b - m:=by omega
 have ham:a<m:=by omega
 have hmb:m<b:=by omega
 have hb:Tryd.f81.body=some (.seq (H7 (Tryd.f81.body.getD .skip)) (.seq (H7 (f7 (Tryd.f81.body.getD .skip))) (.seq (H7 (f7 (f7 (Tryd.f81.body.getD .skip)))) (.seq (H7 (f7 (f7 (f7 (Tryd.f81.body.getD .skip))))) (.seq (H7 (f7 (f7 (f7 (f7 (Tryd.f81.body.getD .skip)))))) (.seq (H7 (f7 (f7 (f7 (f7 (f7 (Tryd.f81.body.getD .skip))))))) (.seq (H7 (f7 (f7 (f7 (f7 (f7 (f7 (Tryd.f81.body.getD .skip)))))))) (.seq (H7 (f7 (f7 (f7 (f7 (f7 (f7 (f7 (Tryd.f81.body.getD .skip))))))))) (.seq (H7 (f7 (f7 (f7 (f7 (f7 (f7 (f7 (f7 (Tryd.f81.body.getD .skip)))))))))) (f7 (f7 (f7 (f7 (f7 (f7 (f7 (f7 (f7 (Tryd.f81.body.getD .skip))))))))))))))))))):=by kernel_rfl
 refine a0q Tryd.func81 hb (by kernel_rfl) (by kernel_rfl) (by kernel_rfl) rfl rfl (by rintro _ _ ⟨_,rfl⟩;rfl) ?_;intros;rename_i hA K hK;have hend:∀t,a3Z a7 1 K Tryd.f81.results.toList .normal ⟨t,[.row false 73 M,.kl []]⟩:=λt=>hK [] [.row false 73 M] ⟨rfl,rfl⟩
 rw[hA];refine b7c fid _ L a m b mid za zm zb zc zn hza hzm hzb hzc hzn emid (by omega) (by omega) (by omega) _ (λs0 r0 zs0 zr0 ws wr hW hsr hrm=>?_) _ _ _ _ _ _ _ _ _ _ _ _ _ _ _ _ _ _ _ _ _ _ _ _ _ _ _ _ _ _ _ _ _ _ _ _ _ _ _ _ _ _ _ (show Ar.mk a7.wrap a7.add a7.sub a7.mul a7.quo a7.rem a7.bits a7.lt a7.le a7.eq a7.nz a7.seq a7.slt a7.bytes a7.cat a7.fits a7.slen a7.sget a7.ssub a7.txt a7.byt a7.nat a7.len a7.get a7.sub2 a7.app a7.set a7.room a7.mlook a7.mput a7.deq a7.rep a7.call a7.calld a7.callo a7.callx a7.new a7.lit a7.keep a7.next a7.ext a7.reg a7.loop=a7 from rfl);refine b27 fid hc _ P U V S L a m b mid p s0 r0 za zm zb zc zn zs0 zr0 ea hUL hVL hL h5 hN hU hV emid ham hmb hp hW hsr hrm (by omega) hzn ws wr _ (λs zs hs hs1 hs3 hlo hhi=>?_) _ _ _ _ _ _ _ _ _ _ _ _ _ _ _ _ _ _ _ _ _ _ _ _ _ _ _ _ _ _ _ _ _ _ _ _ _ _ _ _ _ _ _ (show Ar.mk a7.wrap a7.add a7.sub a7.mul a7.quo a7.rem a7.bits a7.lt a7.le a7.eq a7.nz a7.seq a7.slt a7.bytes a7.cat a7.fits a7.slen a7.sget a7.ssub a7.txt a7.byt a7.nat a7.len a7.get a7.sub2 a7.app a7.set a7.room a7.mlook a7.mput a7.deq a7.rep a7.call a7.calld a7.callo a7.callx a7.new a7.lit a7.keep a7.next a7.ext a7.reg a7.loop=a7 from rfl);have hwb:=G4 hW emid ham hmb hs1 hs3;have hpa:=c0B hU hV hUL hVL hW emid ham hmb hp hs1 hs3 hlo hhi;obtain⟨e,he⟩:∃e,e=mid+m - s:=⟨_,rfl⟩;rw[<-he] at hpa hwb;obtain⟨U1,U2,hUs,hU1⟩:=a1a (l:=U) (n:=s - a) (by omega);obtain⟨V1,V2,hVs,hV1⟩:=a1a (l:=V) (n:=e - m) (by omega);rw[hUs,hVs,c4R hU1,c4Q hU1,c4R hV1,c4Q hV1] at hpa;have hul:U2.length=m - s:=by rw[hUs,c29] at hUL;omega
 have hvl:V2.length=b - e:=by rw[hVs,c29] at hVL;omega
 have sU:N5 z7 (U1++U2):=by rw[<-hUs];exact hU
 have sV:N5 z7 (V1++V2):=by rw[<-hVs];exact hV
 obtain⟨sU1,sU2,-⟩:=C0.1 sU;obtain⟨sV1,sV2,-⟩:=C0.1 sV;obtain⟨Q1,hQ1⟩:∃Q,Q=P++(U1++(V1++(U2++(V2++S)))):=⟨_,rfl⟩;obtain⟨Q2,hQ2⟩:∃Q,Q=P++(i6 z7 (U1++V1)++(U2++(V2++S))):=⟨_,rfl⟩;have hLx:L=(P++U1)++(U2++(V1++(V2++S))):=by rw[hL,hUs,hVs];simp
 have hQx:Q1=(P++U1)++(V1++(U2++(V2++S))):=by rw[hQ1];simp
 have hfin:i6 z7 (U1++V1)++i6 z7 (U2++V2)=i6 z7 (U++V):=a4Q (by
  have h:=a9P L4 sU sV hpa.1 hpa.2 (J5 L4 (U1++V1)) (J6 L4 (U1++V1)) (J5 L4 (U2++V2)) (J6 L4 (U2++V2));rw[<-hUs,<-hVs] at h
  exact h)
 have hMx:M=(P++i6 z7 (U1++V1))++(i6 z7 (U2++V2)++S):=by rw[hM,<-hfin];simp
 have hQ2x:Q2=(P++i6 z7 (U1++V1))++(U2++(V2++S)):=by rw[hQ2];simp
 have m1:∀x∈Q1,Ok5 x:=λx hx=>h5 x (by rw[hLx];rw[hQx] at hx;simp only[c2W] at hx ⊢;grind)
 have m2:∀x∈Q2,Ok5 x:=λx hx=>m1 x (by
  rw[hQ2] at hx;rw[hQ1];simp only[c2W] at hx ⊢
  rcases hx with hx|hx|hx
  ·exact .inl hx
  ·have:=A7 hx;rw[c2W] at this
   grind
  ·grind)
 have l1:Q1.length=L.length:=by rw[hQx,hLx];simp only[c29];omega
 have l2:Q2.length=L.length:=by rw[<-l1,hQ2,hQ1];simp only[c29,H3];omega
 have we:a7.wrap .i64 (a7.sub zn zs)=(e:Int):=by
  show IntKind.i64.wrap (zn - zs)=_;rw[hzn,hs,IntWalk.i64_in _ (by omega)];omega
 generalize a7.wrap .i64 (a7.sub zn zs)=ze at we;have k1:((P++U1).length:Int)=zs:=by rw[c29];omega
 have k2:(((P++U1).length+U2.length:Nat):Int)=zm:=by rw[c29];omega
 have k3:(((P++U1).length+U2.length+V1.length:Nat):Int)=ze:=by rw[c29];omega
 have k4:(P.length:Int)=za:=by omega
 have k5:((P.length+U1.length:Nat):Int)=zs:=by omega
 have k6:((P.length+U1.length+V1.length:Nat):Int)=zc:=by omega
 have k7:((P++i6 z7 (U1++V1)).length:Int)=zc:=by rw[c29,H3,c29];omega
 have k8:(((P++i6 z7 (U1++V1)).length+U2.length:Nat):Int)=ze:=by rw[c29,H3,c29];omega
 have k9:(((P++i6 z7 (U1++V1)).length+U2.length+V2.length:Nat):Int)=zb:=by rw[c29,H3,c29];omega
 have nil:∀ {l:List Rw},decide (0<l.length)=false->l=[]:=λh2=>c2M (by have:=c35 h2;omega)
 have ltI:∀x y:Int,a7.lt x y=decide (x<y):=λ_ _=>rfl
 refine b7b fid L M Q1 Q2 za zm zb zc zs ze (decide (0<U1.length)) (decide (0<U2.length)) (decide (0<V1.length)) (decide (0<V2.length)) (λh1 h2=>?_) (λh1 h2=>?_) (λh1 h2=>?_) (λh=>?_) (λh=>?_) (λh=>?_) _ _ _ _ _ _ _ _ _ _ _ _ _ _ _ _ _ _ _ _ _ _ _ _ _ _ _ _ _ _ _ _ _ _ _ _ _ _ _ _ _ _ _ (show Ar.mk a7.wrap a7.add a7.sub a7.mul a7.quo a7.rem a7.bits a7.lt a7.le a7.eq a7.nz a7.seq a7.slt a7.bytes a7.cat a7.fits a7.slen a7.sget a7.ssub a7.txt a7.byt a7.nat a7.len a7.get a7.sub2 a7.app a7.set a7.room a7.mlook a7.mput a7.deq a7.rep a7.call a7.calld a7.callo a7.callx a7.new a7.lit a7.keep a7.next a7.ext a7.reg a7.loop=a7 from rfl) ?_ ?_ ?_ ?_ ?_ ?_ _ hend
 ·have h:=b6Z (P++U1) U2 V1 (V2++S) (by rw[<-hLx];exact λx hx=>(h5 x hx).len) fid (by rw[<-hLx];exact hN) (c3c h1) (c3c h2);rw[k3,k2,k1,<-hLx,<-hQx] at h;exact h
 ·have h:=ih P U1 V1 (U2++(V2++S)) (by omega) (c3c h1) (c3c h2) (by rw[<-hQ1];exact m1) (by rw[<-hQ1,l1];exact hN) sU1 sV1;rw[k6,k5,k4,<-hQ1,<-hQ2] at h;exact h
 ·have h:=ih (P++i6 z7 (U1++V1)) U2 V2 S (by omega) (c3c h1) (c3c h2) (by rw[<-hQ2x];exact m2) (by rw[<-hQ2x,l2];exact hN) sU2 sV2;rw[k9,k8,k7,<-hQ2x,<-hMx] at h;exact h
 ·rw[hLx,hQx]
  rcases h with h|h
  ·rw[nil h];simp
  ·rw[nil h];simp
 ·rw[hQ1,hQ2]
  rcases h with h|h
  ·rw[nil h,c3t,c3t,a3y sV1]
  ·rw[nil h,c3b,c3t,a3y sU1]
 ·rw[hQ2x,hMx]
  rcases h with h|h
  ·rw[nil h,c3t,c3t,a3y sV2]
  ·rw[nil h,c3b,c3t,a3y sU2]
 ·show a7.lt zs zm=_;rw[ltI,hs,hzm];exact c2Q.2 (by omega)
 ·show a7.lt zm ze=_;rw[ltI,we,hzm];exact c2Q.2 (by omega)
 ·show a7.lt za zs=_;rw[ltI,hza,hs];exact c2Q.2 (by omega)
 ·show a7.lt zs zc=_;rw[ltI,hzc,hs];exact c2Q.2 (by omega)
 ·show a7.lt zc ze=_;rw[ltI,hzc,we];exact c2Q.2 (by omega)
 ·show a7.lt ze zb=_;rw[ltI,we,hzb];exact c2Q.2 (by omega)
theorem b7d (fid:Nat) (hc:a8m fid):∀N,c13 fid N:=by
 intro N
 induction N with
 | zero=>intro P U V S h h1;omega
 | succ N ih =>
  intro P U V S hN hU0 hV0 h5 hL hU hV
  rcases (show U.length=1\/2<=U.length by omega) with hu|hu
  ·obtain⟨u,rfl⟩:=c4D.1 hu;exact b7a fid hc P V S u h5 hL hV
  ·rcases (show V.length=1\/2<=V.length by omega) with hv|hv
   ·obtain⟨v,rfl⟩:=c4D.1 hv;exact b5s fid hc P U S v h5 hL hU hu
   ·exact b8O fid hc N ih P U V S (by omega) hu hv h5 hL hU hV
theorem b7e (fid:Nat) (hc:a8m fid) (L:List Rw) (h5:∀x∈L,Ok5 x) (hN:L.length<=1048576) :
  a0W 68 [.own 0,vi .i64 L.length,.cl fid []] [.row false 73 L] (λres os=>res=[]/\os=[.row false 73 (i6 z7 L)]):=by
 obtain⟨zn,hzn⟩:∃z:Int,z=(L.length:Int):=⟨_,rfl⟩;obtain⟨M,hM⟩:∃M,M=i6 z7 L:=⟨_,rfl⟩;rw[<-hzn,<-hM];refine a0q Tryd.func68 rfl (by kernel_rfl) (by kernel_rfl) (by kernel_rfl) rfl rfl (by rintro _ _ ⟨_,rfl⟩;rfl) ?_;intro qa qb _ qd _ _ _ qh qi;intros;rename_i hA K hK;cbv;refine gn ?_;try simp only[nc] at *
 obtain⟨e1,e2,e3,e4,e5,e6,e7,e8,e9⟩:=j8 hA
 refine l9 hA (γ:=Int×Int×List Rw) (λx=>[(7,vi .i64 x.1),(8,vi .i64 x.2.1)]) (λx=>[(0,.row false 73 x.2.2)])
  (λx=>∃(bl:List (List Rw)) (D R:List Rw),x.1=(bl.flatten.length:Int)/\x.2.1=((bl.flatten.length+20:Nat):Int)/\a2Z 20 bl/\L=D++R/\D.length=bl.flatten.length/\W8 z7 bl.flatten D/\x.2.2=bl.flatten++R/\∀r∈x.2.2,r∈L) (λx=>L.length - x.1.toNat) (0,20,L) ?_ ?_ ?_
 ·exact⟨[],[],L,rfl,rfl,λx hx=>by simp at hx,rfl,rfl,.refl _,rfl,λr h=>h⟩
 ·cbv
 ·intro x hinv;obtain⟨zx,zy,Q⟩:=x;cbv;refine gn ?_;try simp only[nc] at *
  obtain⟨bl,D,R,hx,hy,hbk,hL,hDl,hst,hQ,hQm⟩:=hinv;have hLl:L.length=bl.flatten.length+R.length:=by rw[hL,c29,hDl]
  have hle:qi zy zn=decide (bl.flatten.length+20<=L.length):=by rw[e8,hy,hzn];exact c2Q.2 (by omega)
  have hQl:Q.length=L.length:=by rw[hQ,c29,hLl]
  by_cases h9:bl.flatten.length+20<=L.length
  ·rw[c2J h9] at hle;obtain⟨x,R',hR,hx20⟩:=a1a (l:=R) (n:=20) (by omega);obtain⟨Q1,hQ1⟩:∃Q1,Q1=bl.flatten++(i6 z7 x++R'):=⟨_,rfl⟩;have hins:=b1k fid hc bl.flatten x R' (by rw[<-hR,<-hQ];exact λr hr=>h5 r (hQm r hr)) (by rw[<-hR,<-hQ,hQl];exact hN);rw[<-hR,<-hQ,hx20,<-hy,<-hx,<-hQ1] at hins;rw[hle];cbv;refine gn ?_;try simp only[nc] at *
   refine C3 hA [0] hins ⟨rfl,rfl,rfl,rfl,rfl,rfl,rfl⟩ ?_
   rintro res os2 ⟨rfl,rfl⟩
   cbv;refine gn ?_;try simp only[nc] at *
   have hfl:(bl++[i6 z7 x]).flatten=bl.flatten++i6 z7 x:=by simp
   have hfll:(bl++[i6 z7 x]).flatten.length=bl.flatten.length+20:=by rw[hfl,c29,H3,hx20]
   have w1:qa .i64 (qb zy 20)=((bl.flatten.length+20+20:Nat):Int):=by rw[e1,e2,hy,IntWalk.i64_in _ (by omega)];omega
   refine⟨(zy,qa .i64 (qb zy 20),Q1),⟨bl++[i6 z7 x],D++x,R',by rw[hfll];exact hy,by rw[hfll];exact w1,hbk.snoc ⟨by rw[H3,hx20],J5 L4 x⟩,by rw[hL,hR,c3m],by rw[hfll,c29,hDl,hx20],by rw[hfl];exact W8.append hst (J6 L4 x),by rw[hfl,c3m];exact hQ1,?_⟩,?_,?_⟩
   ·intro r hr;refine hQm r ?_;have hr:r∈Q1:=hr;rw[hQ1] at hr;rw[hQ,hR];simp only[c2W] at hr ⊢
    rcases hr with hr|hr|hr
    ·exact .inl hr
    ·exact .inr (.inl (A7 hr))
    ·exact .inr (.inr hr)
   ·show L.length - zy.toNat<L.length - zx.toNat;omega
   ·cbv
  ·rw[c2G h9] at hle;obtain⟨y,hyy⟩:∃y,y=i6 z7 R:=⟨_,rfl⟩;obtain⟨Q1,hQ1⟩:∃Q1,Q1=bl.flatten++y:=⟨_,rfl⟩;have hins:=b1k fid hc bl.flatten R [] (by rw[c3b,<-hQ];exact λr hr=>h5 r (hQm r hr)) (by rw[c3b,<-hQ,hQl];exact hN);rw[c3b,c3b,<-hQ,<-hLl,<-hzn,<-hx,<-hyy,<-hQ1] at hins;have hys:N5 z7 y:=by rw[hyy];exact J5 L4 R
   have hyl:y.length=R.length:=by rw[hyy,H3]
   have hyst:W8 z7 (bl.flatten++y) L:=by rw[hL];exact W8.append hst (by rw[hyy];exact J6 L4 R)
   have hm5:∀ {q:List Rw},W8 z7 q L->∀x∈q,Ok5 x:=λh x hx=>h5 x (h.mem L4 hx)
   rw[hle];cbv;refine gn ?_;try simp only[nc] at *
   refine C3 hA [0] hins ⟨rfl,rfl,rfl,rfl,rfl,rfl,rfl⟩ ?_
   rintro res os2 ⟨rfl,rfl⟩
   cbv;refine gn ?_;try simp only[nc] at *
   refine l9 hA (γ:=Int×List Rw) (λx=>[(6,vi .i64 x.1)]) (λx=>[(0,.row false 73 x.2)])
    (λx=>∃(bs:Nat) (bl:List (List Rw)) (y:List Rw),x.1=(bs:Int)/\20<=bs/\bs<=4194304/\a2Z bs bl/\N5 z7 y/\y.length<bs/\W8 z7 (bl.flatten++y) L/\x.2=bl.flatten++y/\x.2.length=L.length) (λx=>L.length - x.1.toNat) (20,Q1) ?_ ?_ ?_
   ·exact⟨20,bl,y,rfl,by omega,by omega,hbk,hys,by omega,hyst,hQ1,by show Q1.length=_;rw[hQ1,c29];omega⟩
   ·cbv
   ·intro x hinv;clear hQ1 hyst hyl hys hins hst hbk hQ hQm hQl hLl hx hy hL hDl hle;obtain⟨zs,Q2⟩:=x;cbv;refine gn ?_;try simp only[nc] at *
    obtain⟨bs,bl,y,hbs,hb1,hb2,hbk,hsy,hyl,hst,hQ,hQl⟩:=hinv;have hbl:=a73 hbk;have hLl:L.length=bl.flatten.length+y.length:=by rw[<-hQl,hQ,c29]
    have hlt:qh zs zn=decide (bs<L.length):=by rw[e7,hbs,hzn];exact c2Q.2 (by omega)
    by_cases h8:bs<L.length
    ·rw[c2J h8] at hlt;have w2:qa .i64 (qd 2 zs)=((2 * bs:Nat):Int):=by rw[e1,e4,hbs,IntWalk.i64_in _ (by omega)];omega
     rw[hlt];cbv;refine gn ?_;try simp only[nc] at *
     refine l9 hA (γ:=Int×Int×List Rw) (λx=>[(7,vi .i64 x.1),(8,vi .i64 x.2.1)]) (λx=>[(0,.row false 73 x.2.2)])
      (λx=>∃b2 b1:List (List Rw),x.1=(b2.flatten.length:Int)/\x.2.1=((b2.flatten.length+2 * bs:Nat):Int)/\a2Z (2 * bs) b2/\a2Z bs b1/\W8 z7 (b2.flatten++(b1.flatten++y)) L/\x.2.2=b2.flatten++(b1.flatten++y)/\x.2.2.length=L.length) (λx=>L.length - x.1.toNat) (0,qa .i64 (qd 2 zs),Q2) ?_ ?_ ?_
     ·exact⟨[],bl,rfl,by show qa .i64 (qd 2 zs)=_;rw[w2];simp,λx hx=>by simp at hx,hbk,hst,hQ,hQl⟩
     ·cbv
     ·intro x hinv;clear hst hQ hQl hLl hbk hbl;obtain⟨zx,zy,Q3⟩:=x;cbv;refine gn ?_;try simp only[nc] at *
      obtain⟨b2,b1,hx,hy,hbk2,hbk1,hst,hQ,hQl⟩:=hinv;have hl1:=a73 hbk1;have hLl:L.length=b2.flatten.length+b1.flatten.length+y.length:=by rw[<-hQl,hQ];simp only[c29];omega
      have hle:qi zy zn=decide (b2.flatten.length+2 * bs<=L.length):=by rw[e8,hy,hzn];exact c2Q.2 (by omega)
      have wm:qa .i64 (qb zx zs)=((b2.flatten.length+bs:Nat):Int):=by rw[e1,e2,hx,hbs,IntWalk.i64_in _ (by omega)];omega
      by_cases h7:b2.flatten.length+2 * bs<=L.length
      ·rw[c2J h7] at hle
       obtain⟨u,v,b1',hb1e⟩:∃u v b1',b1=u::v::b1':=by
        match b1,hl1,hLl with
        | [],h1,h2=>simp only[List.flatten_nil,c2N] at h2;omega
        | [u],h1,h2=>simp only[c2D,c2N,c3v,c4W] at h1;omega
        | u::v::b1',_,_=>exact⟨u,v,b1',rfl⟩
       have hu:=hbk1 u (by rw[hb1e];simp);have hv:=hbk1 v (by rw[hb1e];simp);have hQe:Q3=b2.flatten++(u++(v++(b1'.flatten++y))):=by rw[hQ,hb1e];simp
       obtain⟨Q4,hQ4⟩:∃Q,Q=b2.flatten++(i6 z7 (u++v)++(b1'.flatten++y)):=⟨_,rfl⟩;have hsy2:=b7d fid hc (u.length+v.length) b2.flatten u v (b1'.flatten++y) (c2A _) (by omega) (by omega) (by rw[<-hQe,hQ];exact hm5 hst) (by rw[<-hQe,hQl];exact hN) hu.2 hv.2;rw[hu.1,hv.1,show b2.flatten.length+bs+bs=b2.flatten.length+2 * bs by omega,<-hQe,<-hQ4,<-hy,<-wm,<-hx] at hsy2;have hdl:(i6 z7 (u++v)).length=2 * bs:=by rw[H3,c29,hu.1,hv.1];omega
       have w3:qa .i64 (qb zy (qa .i64 (qd 2 zs)))=((b2.flatten.length+2 * bs+2 * bs:Nat):Int):=by rw[w2,e1,e2,hy,IntWalk.i64_in _ (by omega)];omega
       rw[hle];cbv;refine gn ?_;try simp only[nc] at *
       refine C3 hA [0] hsy2 ⟨rfl,rfl,rfl,rfl,rfl,rfl,rfl⟩ ?_
       rintro res os2 ⟨rfl,rfl⟩
       cbv;refine gn ?_;try simp only[nc] at *
       have hfl:(b2++[i6 z7 (u++v)]).flatten=b2.flatten++i6 z7 (u++v):=by simp
       have hfll:(b2++[i6 z7 (u++v)]).flatten.length=b2.flatten.length+2 * bs:=by rw[hfl,c29,hdl]
       refine⟨(zy,qa .i64 (qb zy (qa .i64 (qd 2 zs))),Q4),⟨b2++[i6 z7 (u++v)],b1',by rw[hfll];exact hy,by rw[hfll];exact w3,hbk2.snoc ⟨hdl,J5 L4 _⟩,λx hx=>hbk1 x (by rw[hb1e];simp[hx]),?_,by rw[hfl,c3m];exact hQ4,?_⟩,?_,?_⟩
       ·rw[hfl];refine W8.trans ?_ hst;rw[hb1e];simp only[c3x,c3m];rw[<-c3m u v];exact W8.append (.refl _) (W8.append (J6 L4 _) (.refl _))
       ·show Q4.length=L.length;rw[<-hQl,hQ4,hQe];simp only[c29,H3];omega
       ·show L.length - zy.toNat<L.length - zx.toNat;omega
       ·cbv
      ·rw[c2G h7] at hle
       have hfew:b1.length<=1:=by
        rcases c3o b1.length 2 with h|h
        ·omega
        ·exfalso;have h2:2 * bs<=b1.length * bs:=c31 _ h;omega
       have hlt2:qh (qa .i64 (qb zx zs)) zn=decide (b2.flatten.length+bs<L.length):=by rw[e7,wm,hzn];exact c2Q.2 (by omega)
       have w4:qa .i64 (qd zs 2)=((2 * bs:Nat):Int):=by rw[e1,e4,hbs,IntWalk.i64_in _ (by omega)];omega
       rw[hle];cbv;refine gn ?_;try simp only[nc] at *
       by_cases h6:b2.flatten.length+bs<L.length
       ·rw[c2J h6] at hlt2
        obtain⟨u,hb1e⟩:∃u,b1=[u]:=by
         match b1,hl1,hLl,hfew with
         | [],h1,h2,_=>simp only[List.flatten_nil,c2N] at h2;omega
         | [u],_,_,_=>exact⟨u,rfl⟩
        have hu:=hbk1 u (by rw[hb1e];simp);rw[hb1e] at hl1 hLl;simp only[c2D,c2N,c3v,c4W] at hl1;rw[hl1] at hLl;have hQe:Q3=b2.flatten++(u++(y++[])):=by rw[hQ,hb1e];simp
        obtain⟨Q4,hQ4⟩:∃Q,Q=b2.flatten++i6 z7 (u++y):=⟨_,rfl⟩;have hsy2:=b7d fid hc (u.length+y.length) b2.flatten u y [] (c2A _) (by omega) (by omega) (by rw[<-hQe,hQ];exact hm5 hst) (by rw[<-hQe,hQl];exact hN) hu.2 hsy;rw[hu.1,<-hLl,<-hQe,c3b,<-hQ4,<-hzn,<-wm,<-hx] at hsy2;rw[hlt2];cbv;refine gn ?_;try simp only[nc] at *
        refine C3 hA [0] hsy2 ⟨rfl,rfl,rfl,rfl,rfl,rfl,rfl⟩ ?_
        rintro res os2 ⟨rfl,rfl⟩
        cbv;refine gn ?_;try simp only[nc] at *
        refine⟨(qa .i64 (qd zs 2),Q4),⟨2 * bs,b2,i6 z7 (u++y),w4,by omega,by omega,hbk2,J5 L4 _,by rw[H3,c29,hu.1];omega,?_,hQ4,?_⟩,?_,?_⟩
        ·refine W8.trans ?_ hst;rw[hb1e];simp only[c3x,List.flatten_nil,c3b];exact W8.append (.refl _) (J6 L4 _)
        ·show Q4.length=L.length;rw[hQ4,c29,H3,c29,hu.1];omega
        ·show L.length - (qa .i64 (qd zs 2)).toNat<L.length - zs.toNat;rw[w4,hbs];omega
        ·cbv
       ·rw[c2G h6] at hlt2
        have hy2:N5 z7 (b1.flatten++y)/\(b1.flatten++y).length<2 * bs:=by
         match b1,hl1,hLl,hfew,hbk1 with
         | [],_,_,_,_=>exact⟨hsy,by simp;omega⟩
         | [u],h1,h2,_,h3 =>
          simp only[c2D,c2N,c3v,c4W] at h1;have hy0:y=[]:=c2M (by omega);subst hy0;exact⟨by simpa using (h3 u (by simp)).2,by rw[c29,h1];simp;omega⟩
        rw[hlt2];cbv;refine gn ?_;try simp only[nc] at *
        refine⟨(qa .i64 (qd zs 2),Q3),⟨2 * bs,b2,b1.flatten++y,w4,by omega,by omega,hbk2,hy2.1,hy2.2,hst,hQ,hQl⟩,?_,?_⟩
        ·show L.length - (qa .i64 (qd zs 2)).toNat<L.length - zs.toNat;rw[w4,hbs];omega
        ·cbv
    ·rw[c2G h8] at hlt;rw[hlt];cbv;refine gn ?_;try simp only[nc] at *
     have hs:N5 z7 (bl.flatten++y):=by
      match bl,hbl,hLl,hbk with
      | [],_,_,_=>exact hsy
      | [u],h1,h2,h3 =>
       simp only[c2D,c2N,c3v,c4W] at h1;have hy0:y=[]:=c2M (by omega);subst hy0
       simpa using (h3 u (by simp)).2
      | u::v::bl',h1,h2,_ =>
       exfalso;simp only[c2D,c46] at h1;omega
     have e:Q2=M:=by rw[hM,hQ];exact a4Q ⟨hs,hst⟩
     rw[e];exact hK [] [.row false 73 M] ⟨rfl,rfl⟩
theorem b1l (fid:Nat) (hc:a8m fid) (L:List Rw) (h5:∀x∈L,Ok5 x) (hN:L.length<=1048576) :
  a0W 43 [.own 0,.cl fid []] [.row false 73 L] (λres os=>res=[]/\os=[.row false 73 (i6 z7 L)]):=by
 have hst:=b7e fid hc L h5 hN;obtain⟨M,hM⟩:∃M,M=i6 z7 L:=⟨_,rfl⟩;rw[<-hM] at hst ⊢;refine a0q Tryd.func43 rfl (by kernel_rfl) (by kernel_rfl) (by kernel_rfl) rfl rfl (by rintro _ _ ⟨_,rfl⟩;rfl) ?_;intros;rename_i hA K hK;cbv;refine gn ?_;try simp only[nc] at *
 obtain⟨r1,-⟩:=n9 hA;rw[<-r1] at hst;refine C3 hA [0] hst ⟨rfl,rfl,rfl,rfl,rfl,rfl,rfl⟩ ?_
 rintro res os2 ⟨rfl,rfl⟩
 cbv;refine gn ?_;exact hK [] [.row false 73 M] ⟨rfl,rfl⟩
end Go.Proofs.YtlofmibkljoapaaDoor.Vm
end

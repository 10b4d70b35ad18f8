/- Part 9 of the proof. Conditions: none. -/
import Derived.Test.YtahpnackkmbmgaaF4
import Derived.Test.YtahpnackkmbmgaaF8
import Derived.Test.YtahpnackkmbmgaaF0
set_option linter.all false
set_option linter.unusedVariables false
set_option linter.unusedSimpArgs false
section
namespace Go.Proofs.Ytahpnackkmbmgaa.Vm
open Go.RowKit
set_option maxRecDepth 100000
set_option maxHeartbeats 8000000
theorem c2c (fid:Nat) (hc:b1g fid) (N:Nat) (ih:c68 fid N) (P U V S:List Rw) (hNN:U.length+V.length≤N+1) (hU2:2≤U.length) (hV2:2≤V.length) (h5:∀x∈P++(U++(V++S)),Ok5 x) (hN:(P++(U++(V++S))).length≤1048576) (hU:Srt C3 U) (hV:Srt C3 V) :
  A4 156 [.own 0,vi .i64 P.length,vi .i64 (P.length+U.length:Nat),vi .i64 (P.length+U.length+V.length:Nat),.cl fid []] [.row false 163 (P++(U++(V++S)))] (fun res os=>res=[]∧os=[.row false 163 (P++(o8 C3 (U++V)++S))]):=by
 obtain ⟨a,ea⟩:∃a,a=P.length:=⟨_,rfl⟩
 obtain ⟨m,em⟩:∃m,m=P.length+U.length:=⟨_,rfl⟩
 obtain ⟨b,eb⟩:∃b,b=P.length+U.length+V.length:=⟨_,rfl⟩
 obtain ⟨mid,emid⟩:∃mid,mid=(a+b) / 2:=⟨_,rfl⟩
 obtain ⟨za,hza⟩:∃z:Int,z=(a:Int):=⟨_,rfl⟩
 obtain ⟨zm,hzm⟩:∃z:Int,z=(m:Int):=⟨_,rfl⟩
 obtain ⟨zb,hzb⟩:∃z:Int,z=(b:Int):=⟨_,rfl⟩
 obtain ⟨zc,hzc⟩:∃z:Int,z=(mid:Int):=⟨_,rfl⟩
 obtain ⟨zn,hzn⟩:∃z:Int,z=((mid+m:Nat):Int):=⟨_,rfl⟩
 obtain ⟨p,hp⟩:∃p,p+1=mid+m:=⟨mid+m - 1,by omega⟩
 obtain ⟨L,hL⟩:∃L,L=P++(U++(V++S)):=⟨_,rfl⟩
 obtain ⟨M,hM⟩:∃M,M=P++(o8 C3 (U++V)++S):=⟨_,rfl⟩
 rw [←eb,←em,←ea,←hza,←hzm,←hzb,←hM,←hL]
 rw [←hL] at h5 hN
 have hLl:L.length=a+U.length+V.length+S.length:=by rw [hL,ea];simp only [c8U];omega
 have hUL:U.length=m - a:=by omega
 have hVL:V.length=b - m:=by omega
 have ham:a<m:=by omega
 have hmb:m<b:=by omega
 have hb:Try.f156.body=some (.seq (K2 (Try.f156.body.getD .skip)) (.seq (K2 (j6 (Try.f156.body.getD .skip))) (.seq (K2 (j6 (j6 (Try.f156.body.getD .skip)))) (.seq (K2 (j6 (j6 (j6 (Try.f156.body.getD .skip))))) (.seq (K2 (j6 (j6 (j6 (j6 (Try.f156.body.getD .skip)))))) (.seq (K2 (j6 (j6 (j6 (j6 (j6 (Try.f156.body.getD .skip))))))) (.seq (K2 (j6 (j6 (j6 (j6 (j6 (j6 (Try.f156.body.getD .skip)))))))) (.seq (K2 (j6 (j6 (j6 (j6 (j6 (j6 (j6 (Try.f156.body.getD .skip))))))))) (.seq (K2 (j6 (j6 (j6 (j6 (j6 (j6 (j6 (j6 (Try.f156.body.getD .skip)))))))))) (j6 (j6 (j6 (j6 (j6 (j6 (j6 (j6 (j6 (Try.f156.body.getD .skip))))))))))))))))))):=by kernel_rfl
 refine a06 Try.func156 hb (by kernel_rfl) (by kernel_rfl) (by kernel_rfl) rfl rfl (by rintro _ _ ⟨_,rfl⟩;rfl) ?_;intros;rename_i hA K hK
 have hend:∀t,c1C f7 1 K Try.f156.results.toList .normal ⟨t,[.row false 163 M,.kl []]⟩:=fun t=>hK [] [.row false 163 M] ⟨rfl,rfl⟩
 rw [hA]
 refine b93 fid _ L a m b mid za zm zb zc zn hza hzm hzb hzc hzn emid (by omega) (by omega) (by omega) _ (fun s0 r0 zs0 zr0 ws wr hW hsr hrm=>?_) _ _ _ _ _ _ _ _ _ _ _ _ _ _ _ _ _ _ _ _ _ _ _ _ _ _ _ _ _ _ _ _ _ _ _ _ _ _ _ _ _ _ _ (show Ar.mk f7.wrap f7.add f7.sub f7.mul f7.quo f7.rem f7.bits f7.lt f7.le f7.eq f7.nz f7.seq f7.slt f7.bytes f7.cat f7.fits f7.slen f7.sget f7.ssub f7.txt f7.byt f7.nat f7.len f7.get f7.sub2 f7.app f7.set f7.room f7.mlook f7.mput f7.deq f7.rep f7.call f7.calld f7.callo f7.callx f7.new f7.lit f7.keep f7.next f7.ext f7.reg f7.loop=f7 from rfl)
 refine b3U fid hc _ P U V S L a m b mid p s0 r0 za zm zb zc zn zs0 zr0 ea hUL hVL hL h5 hN hU hV emid ham hmb hp hW hsr hrm (by omega) hzn ws wr _ (fun s zs hs hs1 hs3 hlo hhi=>?_) _ _ _ _ _ _ _ _ _ _ _ _ _ _ _ _ _ _ _ _ _ _ _ _ _ _ _ _ _ _ _ _ _ _ _ _ _ _ _ _ _ _ _ (show Ar.mk f7.wrap f7.add f7.sub f7.mul f7.quo f7.rem f7.bits f7.lt f7.le f7.eq f7.nz f7.seq f7.slt f7.bytes f7.cat f7.fits f7.slen f7.sget f7.ssub f7.txt f7.byt f7.nat f7.len f7.get f7.sub2 f7.app f7.set f7.room f7.mlook f7.mput f7.deq f7.rep f7.call f7.calld f7.callo f7.callx f7.new f7.lit f7.keep f7.next f7.ext f7.reg f7.loop=f7 from rfl)
 have hwb:=I6 hW emid ham hmb hs1 hs3
 have hpa:=c4V hU hV hUL hVL hW emid ham hmb hp hs1 hs3 hlo hhi
 obtain ⟨e,he⟩:∃e,e=mid+m - s:=⟨_,rfl⟩
 rw [←he] at hpa hwb
 obtain ⟨U1,U2,hUs,hU1⟩:=a1q (l:=U) (n:=s - a) (by omega)
 obtain ⟨V1,V2,hVs,hV1⟩:=a1q (l:=V) (n:=e - m) (by omega)
 rw [hUs,hVs,d0Q hU1,d0P hU1,d0Q hV1,d0P hV1] at hpa
 have hul:U2.length=m - s:=by rw [hUs,c8U] at hUL;omega
 have hvl:V2.length=b - e:=by rw [hVs,c8U] at hVL;omega
 have sU:Srt C3 (U1++U2):=by rw [←hUs];exact hU
 have sV:Srt C3 (V1++V2):=by rw [←hVs];exact hV
 obtain ⟨sU1,sU2,-⟩:=E8.1 sU
 obtain ⟨sV1,sV2,-⟩:=E8.1 sV
 obtain ⟨Q1,hQ1⟩:∃Q,Q=P++(U1++(V1++(U2++(V2++S)))):=⟨_,rfl⟩
 obtain ⟨Q2,hQ2⟩:∃Q,Q=P++(o8 C3 (U1++V1)++(U2++(V2++S))):=⟨_,rfl⟩
 have hLx:L=(P++U1)++(U2++(V1++(V2++S))):=by rw [hL,hUs,hVs];simp
 have hQx:Q1=(P++U1)++(V1++(U2++(V2++S))):=by rw [hQ1];simp
 have hfin:o8 C3 (U1++V1)++o8 C3 (U2++V2)=o8 C3 (U++V):=a5p (by
  have h:=b1e N0 sU sV hpa.1 hpa.2 (a0A N0 (U1++V1)) (a0B N0 (U1++V1)) (a0A N0 (U2++V2)) (a0B N0 (U2++V2))
  rw [←hUs,←hVs] at h
  exact h)
 have hMx:M=(P++o8 C3 (U1++V1))++(o8 C3 (U2++V2)++S):=by rw [hM,←hfin];simp
 have hQ2x:Q2=(P++o8 C3 (U1++V1))++(U2++(V2++S)):=by rw [hQ2];simp
 have m1:∀x∈Q1,Ok5 x:=fun x hx=>h5 x (by rw [hLx];rw [hQx] at hx;simp only [c99] at hx ⊢;grind)
 have m2:∀x∈Q2,Ok5 x:=fun x hx=>m1 x (by
  rw [hQ2] at hx
  rw [hQ1]
  simp only [c99] at hx ⊢
  rcases hx with hx|hx|hx
  ·exact .inl hx
  ·have:=a0k hx
   rw [c99] at this
   grind
  ·grind)
 have l1:Q1.length=L.length:=by rw [hQx,hLx];simp only [c8U];omega
 have l2:Q2.length=L.length:=by rw [←l1,hQ2,hQ1];simp only [c8U,J7];omega
 have we:f7.wrap .i64 (f7.sub zn zs)=(e:Int):=by
  show IntKind.i64.wrap (zn - zs)=_
  rw [hzn,hs,IntWalk.i64_in _ (by omega)];omega
 generalize f7.wrap .i64 (f7.sub zn zs)=ze at we
 have k1:((P++U1).length:Int)=zs:=by rw [c8U];omega
 have k2:(((P++U1).length+U2.length:Nat):Int)=zm:=by rw [c8U];omega
 have k3:(((P++U1).length+U2.length+V1.length:Nat):Int)=ze:=by rw [c8U];omega
 have k4:(P.length:Int)=za:=by omega
 have k5:((P.length+U1.length:Nat):Int)=zs:=by omega
 have k6:((P.length+U1.length+V1.length:Nat):Int)=zc:=by omega
 have k7:((P++o8 C3 (U1++V1)).length:Int)=zc:=by rw [c8U,J7,c8U];omega
 have k8:(((P++o8 C3 (U1++V1)).length+U2.length:Nat):Int)=ze:=by rw [c8U,J7,c8U];omega
 have k9:(((P++o8 C3 (U1++V1)).length+U2.length+V2.length:Nat):Int)=zb:=by rw [c8U,J7,c8U];omega
 have nil:∀ {l:List Rw},decide (0<l.length)=false→l=[]:=fun h2=>c9t (by have:=c9V h2;omega)
 have ltI:∀x y:Int,f7.lt x y=decide (x<y):=fun _ _=>rfl
 refine b92 fid L M Q1 Q2 za zm zb zc zs ze (decide (0<U1.length)) (decide (0<U2.length)) (decide (0<V1.length)) (decide (0<V2.length)) (fun h1 h2=>?_) (fun h1 h2=>?_) (fun h1 h2=>?_) (fun h=>?_) (fun h=>?_) (fun h=>?_) _ _ _ _ _ _ _ _ _ _ _ _ _ _ _ _ _ _ _ _ _ _ _ _ _ _ _ _ _ _ _ _ _ _ _ _ _ _ _ _ _ _ _ (show Ar.mk f7.wrap f7.add f7.sub f7.mul f7.quo f7.rem f7.bits f7.lt f7.le f7.eq f7.nz f7.seq f7.slt f7.bytes f7.cat f7.fits f7.slen f7.sget f7.ssub f7.txt f7.byt f7.nat f7.len f7.get f7.sub2 f7.app f7.set f7.room f7.mlook f7.mput f7.deq f7.rep f7.call f7.calld f7.callo f7.callx f7.new f7.lit f7.keep f7.next f7.ext f7.reg f7.loop=f7 from rfl) ?_ ?_ ?_ ?_ ?_ ?_ _ hend
 ·have h:=b90 (P++U1) U2 V1 (V2++S) (by rw [←hLx];exact fun x hx=>(h5 x hx).len) fid (by rw [←hLx];exact hN) (c9B h1) (c9B h2)
  rw [k3,k2,k1,←hLx,←hQx] at h
  exact h
 ·have h:=ih P U1 V1 (U2++(V2++S)) (by omega) (c9B h1) (c9B h2) (by rw [←hQ1];exact m1) (by rw [←hQ1,l1];exact hN) sU1 sV1
  rw [k6,k5,k4,←hQ1,←hQ2] at h
  exact h
 ·have h:=ih (P++o8 C3 (U1++V1)) U2 V2 S (by omega) (c9B h1) (c9B h2) (by rw [←hQ2x];exact m2) (by rw [←hQ2x,l2];exact hN) sU2 sV2
  rw [k9,k8,k7,←hQ2x,←hMx] at h
  exact h
 ·rw [hLx,hQx]
  rcases h with h|h
  ·rw [nil h];simp
  ·rw [nil h];simp
 ·rw [hQ1,hQ2]
  rcases h with h|h
  ·rw [nil h,c9I,c9I,a3F sV1]
  ·rw [nil h,c9i,c9I,a3F sU1]
 ·rw [hQ2x,hMx]
  rcases h with h|h
  ·rw [nil h,c9I,c9I,a3F sV2]
  ·rw [nil h,c9i,c9I,a3F sU2]
 ·show f7.lt zs zm=_
  rw [ltI,hs,hzm];exact c9w.2 (by omega)
 ·show f7.lt zm ze=_
  rw [ltI,we,hzm];exact c9w.2 (by omega)
 ·show f7.lt za zs=_
  rw [ltI,hza,hs];exact c9w.2 (by omega)
 ·show f7.lt zs zc=_
  rw [ltI,hzc,hs];exact c9w.2 (by omega)
 ·show f7.lt zc ze=_
  rw [ltI,hzc,we];exact c9w.2 (by omega)
 ·show f7.lt ze zb=_
  rw [ltI,we,hzb];exact c9w.2 (by omega)
theorem b94 (fid:Nat) (hc:b1g fid):∀N,c68 fid N:=by
 intro N
 induction N with
 | zero=>intro P U V S h h1;omega
 | succ N ih =>
  intro P U V S hN hU0 hV0 h5 hL hU hV
  rcases (show U.length=1∨2≤U.length by omega) with hu|hu
  ·obtain ⟨u,rfl⟩:=List.length_eq_one_iff.1 hu
   exact b91 fid hc P V S u h5 hL hV
  ·rcases (show V.length=1∨2≤V.length by omega) with hv|hv
   ·obtain ⟨v,rfl⟩:=List.length_eq_one_iff.1 hv
    exact b6J fid hc P U S v h5 hL hU hu
   ·exact c2c fid hc N ih P U V S (by omega) hu hv h5 hL hU hV
theorem b95 (fid:Nat) (hc:b1g fid) (L:List Rw) (h5:∀x∈L,Ok5 x) (hN:L.length≤1048576) :
  A4 143 [.own 0,vi .i64 L.length,.cl fid []] [.row false 163 L] (fun res os=>res=[]∧os=[.row false 163 (o8 C3 L)]):=by
 obtain ⟨zn,hzn⟩:∃z:Int,z=(L.length:Int):=⟨_,rfl⟩
 obtain ⟨M,hM⟩:∃M,M=o8 C3 L:=⟨_,rfl⟩
 rw [←hzn,←hM]
 refine a06 Try.func143 rfl (by kernel_rfl) (by kernel_rfl) (by kernel_rfl) rfl rfl (by rintro _ _ ⟨_,rfl⟩;rfl) ?_;intro qa qb _ qd _ _ _ qi qj;intros;rename_i hA K hK
 cbv;refine gn ?_;try simp only [nc] at *
 obtain ⟨e1,e2,e3,e4,e5,e6,e7,e8,e9⟩:=m6 hA
 refine o7 hA (γ:=Int×Int×List Rw) (fun x=>[(7,vi .i64 x.1),(8,vi .i64 x.2.1)]) (fun x=>[(0,.row false 163 x.2.2)])
  (fun x=>∃(bl:List (List Rw)) (D R:List Rw),x.1=(bl.flatten.length:Int)∧x.2.1=((bl.flatten.length+20:Nat):Int)∧a3s 20 bl∧L=D++R∧D.length=bl.flatten.length∧Sta C3 bl.flatten D∧x.2.2=bl.flatten++R∧∀r∈x.2.2,r∈L) (fun x=>L.length - x.1.toNat) (0,20,L) ?_ ?_ ?_
 ·exact ⟨[],[],L,rfl,rfl,fun x hx=>by simp at hx,rfl,rfl,.refl _,rfl,fun r h=>h⟩
 ·cbv
 ·intro x hinv
  obtain ⟨zx,zy,Q⟩:=x
  cbv;refine gn ?_;try simp only [nc] at *
  obtain ⟨bl,D,R,hx,hy,hbk,hL,hDl,hst,hQ,hQm⟩:=hinv
  have hLl:L.length=bl.flatten.length+R.length:=by rw [hL,c8U,hDl]
  have hle:qj zy zn=decide (bl.flatten.length+20≤L.length):=by rw [e8,hy,hzn];exact c9w.2 (by omega)
  have hQl:Q.length=L.length:=by rw [hQ,c8U,hLl]
  by_cases h9:bl.flatten.length+20≤L.length
  ·rw [c9j h9] at hle
   obtain ⟨x,R',hR,hx20⟩:=a1q (l:=R) (n:=20) (by omega)
   obtain ⟨Q1,hQ1⟩:∃Q1,Q1=bl.flatten++(o8 C3 x++R'):=⟨_,rfl⟩
   have hins:=b2H fid hc bl.flatten x R' (by rw [←hR,←hQ];exact fun r hr=>h5 r (hQm r hr)) (by rw [←hR,←hQ,hQl];exact hN)
   rw [←hR,←hQ,hx20,←hy,←hx,←hQ1] at hins
   rw [hle]
   cbv;refine gn ?_;try simp only [nc] at *
   refine F0 hA [0] hins ⟨rfl,rfl,rfl,rfl,rfl,rfl,rfl⟩ ?_
   rintro res os2 ⟨rfl,rfl⟩
   cbv;refine gn ?_;try simp only [nc] at *
   have hfl:(bl++[o8 C3 x]).flatten=bl.flatten++o8 C3 x:=by simp
   have hfll:(bl++[o8 C3 x]).flatten.length=bl.flatten.length+20:=by rw [hfl,c8U,J7,hx20]
   have w1:qa .i64 (qb zy 20)=((bl.flatten.length+20+20:Nat):Int):=by rw [e1,e2,hy,IntWalk.i64_in _ (by omega)];omega
   refine ⟨(zy,qa .i64 (qb zy 20),Q1),⟨bl++[o8 C3 x],D++x,R',by rw [hfll];exact hy,by rw [hfll];exact w1,hbk.snoc ⟨by rw [J7,hx20],a0A N0 x⟩,by rw [hL,hR,c90],by rw [hfll,c8U,hDl,hx20],by rw [hfl];exact Sta.append hst (a0B N0 x),by rw [hfl,c90];exact hQ1,?_⟩,?_,?_⟩
   ·intro r hr
    refine hQm r ?_
    have hr:r∈Q1:=hr
    rw [hQ1] at hr
    rw [hQ,hR]
    simp only [c99] at hr ⊢
    rcases hr with hr|hr|hr
    ·exact .inl hr
    ·exact .inr (.inl (a0k hr))
    ·exact .inr (.inr hr)
   ·show L.length - zy.toNat<L.length - zx.toNat
    omega
   ·cbv
  ·rw [c9d h9] at hle
   obtain ⟨y,hyy⟩:∃y,y=o8 C3 R:=⟨_,rfl⟩
   obtain ⟨Q1,hQ1⟩:∃Q1,Q1=bl.flatten++y:=⟨_,rfl⟩
   have hins:=b2H fid hc bl.flatten R [] (by rw [c9i,←hQ];exact fun r hr=>h5 r (hQm r hr)) (by rw [c9i,←hQ,hQl];exact hN)
   rw [c9i,c9i,←hQ,←hLl,←hzn,←hx,←hyy,←hQ1] at hins
   have hys:Srt C3 y:=by rw [hyy];exact a0A N0 R
   have hyl:y.length=R.length:=by rw [hyy,J7]
   have hyst:Sta C3 (bl.flatten++y) L:=by rw [hL];exact Sta.append hst (by rw [hyy];exact a0B N0 R)
   have hm5:∀ {q:List Rw},Sta C3 q L→∀x∈q,Ok5 x:=fun h x hx=>h5 x (h.mem N0 hx)
   rw [hle]
   cbv;refine gn ?_;try simp only [nc] at *
   refine F0 hA [0] hins ⟨rfl,rfl,rfl,rfl,rfl,rfl,rfl⟩ ?_
   rintro res os2 ⟨rfl,rfl⟩
   cbv;refine gn ?_;try simp only [nc] at *
   refine o7 hA (γ:=Int×List Rw) (fun x=>[(6,vi .i64 x.1)]) (fun x=>[(0,.row false 163 x.2)])
    (fun x=>∃(bs:Nat) (bl:List (List Rw)) (y:List Rw),x.1=(bs:Int)∧20≤bs∧bs≤4194304∧a3s bs bl∧Srt C3 y∧y.length<bs∧Sta C3 (bl.flatten++y) L∧x.2=bl.flatten++y∧x.2.length=L.length) (fun x=>L.length - x.1.toNat) (20,Q1) ?_ ?_ ?_
   ·exact ⟨20,bl,y,rfl,by omega,by omega,hbk,hys,by omega,hyst,hQ1,by show Q1.length=_;rw [hQ1,c8U];omega⟩
   ·cbv
   ·intro x hinv
    clear hQ1 hyst hyl hys hins hst hbk hQ hQm hQl hLl hx hy hL hDl hle
    obtain ⟨zs,Q2⟩:=x
    cbv;refine gn ?_;try simp only [nc] at *
    obtain ⟨bs,bl,y,hbs,hb1,hb2,hbk,hsy,hyl,hst,hQ,hQl⟩:=hinv
    have hbl:=a87 hbk
    have hLl:L.length=bl.flatten.length+y.length:=by rw [←hQl,hQ,c8U]
    have hlt:qi zs zn=decide (bs<L.length):=by rw [e7,hbs,hzn];exact c9w.2 (by omega)
    by_cases h8:bs<L.length
    ·rw [c9j h8] at hlt
     have w2:qa .i64 (qd 2 zs)=((2 * bs:Nat):Int):=by rw [e1,e4,hbs,IntWalk.i64_in _ (by omega)];omega
     rw [hlt]
     cbv;refine gn ?_;try simp only [nc] at *
     refine o7 hA (γ:=Int×Int×List Rw) (fun x=>[(7,vi .i64 x.1),(8,vi .i64 x.2.1)]) (fun x=>[(0,.row false 163 x.2.2)])
      (fun x=>∃b2 b1:List (List Rw),x.1=(b2.flatten.length:Int)∧x.2.1=((b2.flatten.length+2 * bs:Nat):Int)∧a3s (2 * bs) b2∧a3s bs b1∧Sta C3 (b2.flatten++(b1.flatten++y)) L∧x.2.2=b2.flatten++(b1.flatten++y)∧x.2.2.length=L.length) (fun x=>L.length - x.1.toNat) (0,qa .i64 (qd 2 zs),Q2) ?_ ?_ ?_
     ·exact ⟨[],bl,rfl,by show qa .i64 (qd 2 zs)=_;rw [w2];simp,fun x hx=>by simp at hx,hbk,hst,hQ,hQl⟩
     ·cbv
     ·intro x hinv
      clear hst hQ hQl hLl hbk hbl
      obtain ⟨zx,zy,Q3⟩:=x
      cbv;refine gn ?_;try simp only [nc] at *
      obtain ⟨b2,b1,hx,hy,hbk2,hbk1,hst,hQ,hQl⟩:=hinv
      have hl1:=a87 hbk1
      have hLl:L.length=b2.flatten.length+b1.flatten.length+y.length:=by rw [←hQl,hQ];simp only [c8U];omega
      have hle:qj zy zn=decide (b2.flatten.length+2 * bs≤L.length):=by rw [e8,hy,hzn];exact c9w.2 (by omega)
      have wm:qa .i64 (qb zx zs)=((b2.flatten.length+bs:Nat):Int):=by rw [e1,e2,hx,hbs,IntWalk.i64_in _ (by omega)];omega
      by_cases h7:b2.flatten.length+2 * bs≤L.length
      ·rw [c9j h7] at hle
       obtain ⟨u,v,b1',hb1e⟩:∃u v b1',b1=u::v::b1':=by
        match b1,hl1,hLl with
        | [],h1,h2=>simp only [List.flatten_nil,c9n] at h2;omega
        | [u],h1,h2=>simp only [c9a,c9n,c9L,Nat.one_mul] at h1;omega
        | u::v::b1',_,_=>exact ⟨u,v,b1',rfl⟩
       have hu:=hbk1 u (by rw [hb1e];simp)
       have hv:=hbk1 v (by rw [hb1e];simp)
       have hQe:Q3=b2.flatten++(u++(v++(b1'.flatten++y))):=by rw [hQ,hb1e];simp
       obtain ⟨Q4,hQ4⟩:∃Q,Q=b2.flatten++(o8 C3 (u++v)++(b1'.flatten++y)):=⟨_,rfl⟩
       have hsy2:=b94 fid hc (u.length+v.length) b2.flatten u v (b1'.flatten++y) (c9c _) (by omega) (by omega) (by rw [←hQe,hQ];exact hm5 hst) (by rw [←hQe,hQl];exact hN) hu.2 hv.2
       rw [hu.1,hv.1,show b2.flatten.length+bs+bs=b2.flatten.length+2 * bs by omega,←hQe,←hQ4,←hy,←wm,←hx] at hsy2
       have hdl:(o8 C3 (u++v)).length=2 * bs:=by rw [J7,c8U,hu.1,hv.1];omega
       have w3:qa .i64 (qb zy (qa .i64 (qd 2 zs)))=((b2.flatten.length+2 * bs+2 * bs:Nat):Int):=by rw [w2,e1,e2,hy,IntWalk.i64_in _ (by omega)];omega
       rw [hle]
       cbv;refine gn ?_;try simp only [nc] at *
       refine F0 hA [0] hsy2 ⟨rfl,rfl,rfl,rfl,rfl,rfl,rfl⟩ ?_
       rintro res os2 ⟨rfl,rfl⟩
       cbv;refine gn ?_;try simp only [nc] at *
       have hfl:(b2++[o8 C3 (u++v)]).flatten=b2.flatten++o8 C3 (u++v):=by simp
       have hfll:(b2++[o8 C3 (u++v)]).flatten.length=b2.flatten.length+2 * bs:=by rw [hfl,c8U,hdl]
       refine ⟨(zy,qa .i64 (qb zy (qa .i64 (qd 2 zs))),Q4),⟨b2++[o8 C3 (u++v)],b1',by rw [hfll];exact hy,by rw [hfll];exact w3,hbk2.snoc ⟨hdl,a0A N0 _⟩,fun x hx=>hbk1 x (by rw [hb1e];simp [hx]),?_,by rw [hfl,c90];exact hQ4,?_⟩,?_,?_⟩
       ·rw [hfl]
        refine Sta.trans ?_ hst
        rw [hb1e]
        simp only [c9F,c90]
        rw [←c90 u v]
        exact Sta.append (.refl _) (Sta.append (a0B N0 _) (.refl _))
       ·show Q4.length=L.length
        rw [←hQl,hQ4,hQe]
        simp only [c8U,J7]
        omega
       ·show L.length - zy.toNat<L.length - zx.toNat
        omega
       ·cbv
      ·rw [c9d h7] at hle
       have hfew:b1.length≤1:=by
        rcases c9N b1.length 2 with h|h
        ·omega
        ·exfalso
         have h2:2 * bs≤b1.length * bs:=c9C _ h
         omega
       have hlt2:qi (qa .i64 (qb zx zs)) zn=decide (b2.flatten.length+bs<L.length):=by rw [e7,wm,hzn];exact c9w.2 (by omega)
       have w4:qa .i64 (qd zs 2)=((2 * bs:Nat):Int):=by rw [e1,e4,hbs,IntWalk.i64_in _ (by omega)];omega
       rw [hle]
       cbv;refine gn ?_;try simp only [nc] at *
       by_cases h6:b2.flatten.length+bs<L.length
       ·rw [c9j h6] at hlt2
        obtain ⟨u,hb1e⟩:∃u,b1=[u]:=by
         match b1,hl1,hLl,hfew with
         | [],h1,h2,_=>simp only [List.flatten_nil,c9n] at h2;omega
         | [u],_,_,_=>exact ⟨u,rfl⟩
        have hu:=hbk1 u (by rw [hb1e];simp)
        rw [hb1e] at hl1 hLl
        simp only [c9a,c9n,c9L,Nat.one_mul] at hl1
        rw [hl1] at hLl
        have hQe:Q3=b2.flatten++(u++(y++[])):=by rw [hQ,hb1e];simp
        obtain ⟨Q4,hQ4⟩:∃Q,Q=b2.flatten++o8 C3 (u++y):=⟨_,rfl⟩
        have hsy2:=b94 fid hc (u.length+y.length) b2.flatten u y [] (c9c _) (by omega) (by omega) (by rw [←hQe,hQ];exact hm5 hst) (by rw [←hQe,hQl];exact hN) hu.2 hsy
        rw [hu.1,←hLl,←hQe,c9i,←hQ4,←hzn,←wm,←hx] at hsy2
        rw [hlt2]
        cbv;refine gn ?_;try simp only [nc] at *
        refine F0 hA [0] hsy2 ⟨rfl,rfl,rfl,rfl,rfl,rfl,rfl⟩ ?_
        rintro res os2 ⟨rfl,rfl⟩
        cbv;refine gn ?_;try simp only [nc] at *
        refine ⟨(qa .i64 (qd zs 2),Q4),⟨2 * bs,b2,o8 C3 (u++y),w4,by omega,by omega,hbk2,a0A N0 _,by rw [J7,c8U,hu.1];omega,?_,hQ4,?_⟩,?_,?_⟩
        ·refine Sta.trans ?_ hst
         rw [hb1e]
         simp only [c9F,List.flatten_nil,c9i]
         exact Sta.append (.refl _) (a0B N0 _)
        ·show Q4.length=L.length
         rw [hQ4,c8U,J7,c8U,hu.1]
         omega
        ·show L.length - (qa .i64 (qd zs 2)).toNat<L.length - zs.toNat
         rw [w4,hbs]
         omega
        ·cbv
       ·rw [c9d h6] at hlt2
        have hy2:Srt C3 (b1.flatten++y)∧(b1.flatten++y).length<2 * bs:=by
         match b1,hl1,hLl,hfew,hbk1 with
         | [],_,_,_,_=>exact ⟨hsy,by simp;omega⟩
         | [u],h1,h2,_,h3 =>
          simp only [c9a,c9n,c9L,Nat.one_mul] at h1
          have hy0:y=[]:=c9t (by omega)
          subst hy0
          exact ⟨by simpa using (h3 u (by simp)).2,by rw [c8U,h1];simp;omega⟩
        rw [hlt2]
        cbv;refine gn ?_;try simp only [nc] at *
        refine ⟨(qa .i64 (qd zs 2),Q3),⟨2 * bs,b2,b1.flatten++y,w4,by omega,by omega,hbk2,hy2.1,hy2.2,hst,hQ,hQl⟩,?_,?_⟩
        ·show L.length - (qa .i64 (qd zs 2)).toNat<L.length - zs.toNat
         rw [w4,hbs]
         omega
        ·cbv
    ·rw [c9d h8] at hlt
     rw [hlt]
     cbv;refine gn ?_;try simp only [nc] at *
     have hs:Srt C3 (bl.flatten++y):=by
      match bl,hbl,hLl,hbk with
      | [],_,_,_=>exact hsy
      | [u],h1,h2,h3 =>
       simp only [c9a,c9n,c9L,Nat.one_mul] at h1
       have hy0:y=[]:=c9t (by omega)
       subst hy0
       simpa using (h3 u (by simp)).2
      | u::v::bl',h1,h2,_ =>
       exfalso
       simp only [c9a,d1q] at h1
       omega
     have e:Q2=M:=by rw [hM,hQ];exact a5p ⟨hs,hst⟩
     rw [e]
     exact hK [] [.row false 163 M] ⟨rfl,rfl⟩
theorem b96 (fid:Nat) (hc:b1g fid) (L:List Rw) (h5:∀x∈L,Ok5 x) (hN:L.length≤1048576) :
  A4 131 [.own 0,.cl fid []] [.row false 163 L] (fun res os=>res=[]∧os=[.row false 163 (o8 C3 L)]):=by
 have hst:=b95 fid hc L h5 hN
 obtain ⟨M,hM⟩:∃M,M=o8 C3 L:=⟨_,rfl⟩
 rw [←hM] at hst ⊢
 refine a06 Try.func131 rfl (by kernel_rfl) (by kernel_rfl) (by kernel_rfl) rfl rfl (by rintro _ _ ⟨_,rfl⟩;rfl) ?_;intros;rename_i hA K hK
 cbv;refine gn ?_;try simp only [nc] at *
 obtain ⟨r1,-⟩:=C7 hA
 rw [←r1] at hst
 refine F0 hA [0] hst ⟨rfl,rfl,rfl,rfl,rfl,rfl,rfl⟩ ?_
 rintro res os2 ⟨rfl,rfl⟩
 cbv;refine gn ?_
 exact hK [] [.row false 163 M] ⟨rfl,rfl⟩
end Go.Proofs.Ytahpnackkmbmgaa.Vm
end

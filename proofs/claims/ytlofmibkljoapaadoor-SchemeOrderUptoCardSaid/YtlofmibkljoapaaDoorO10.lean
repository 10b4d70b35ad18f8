/- Part 10 of the proof. Conditions: none. -/
import Derived.Test.YtlofmibkljoapaaDoorO4
import Derived.Test.YtlofmibkljoapaaDoorO9
import Derived.Test.YtlofmibkljoapaaDoorO0
set_option linter.all false
set_option linter.unusedVariables false
set_option linter.unusedSimpArgs false
section
namespace Go.Proofs.YtlofmibkljoapaaDoor.Vm
open Go.RowKit
set_option maxRecDepth 100000
set_option maxHeartbeats 8000000
def c13 (fid N:Nat):Prop:=∀(P U V S:List Rw),U.length+V.length<=N->0<U.length->0<V.length->(∀x∈P++(U++(V++S)),Ok5 x)->(P++(U++(V++S))).length<=1048576->N5 z7 U->N5 z7 V ->
 a0W 81 [.own 0,vi .i64 P.length,vi .i64 (P.length+U.length:Nat),vi .i64 (P.length+U.length+V.length:Nat),.cl fid []] [.row false 73 (P++(U++(V++S)))] (λres os=>res=[]/\os=[.row false 73 (P++(i6 z7 (U++V)++S))])
theorem a3y {l:List Rw} (h:N5 z7 l):i6 z7 l=l:=(a4Q ⟨h,.refl l⟩).symm
theorem H3 (l:List Rw):(i6 z7 l).length=l.length:=a0M l
def jks:Nat->List V
 | 0=>[]
 | n+1=>.jk::jks n
def a9R (fid:Nat) (za zm zb:Int) (l:List (Nat×V)) (L:List Rw):S:=⟨b3R l (b3R [(0,.own 0),(1,vi .i64 za),(2,vi .i64 zm),(3,vi .i64 zb),(4,.cl fid [])] (jks 220)),[.row false 73 L,.kl []]⟩
theorem b7b (fid:Nat) (L M Q1 Q2:List Rw) (za zm zb zc zs ze:Int) (bu1 bu2 bv1 bv2:Bool)
  (c1:bu2=true->bv1=true->a0W 89 [.own 0,vi .i64 zs,vi .i64 zm,vi .i64 ze,.cl fid []] [.row false 73 L] (λres os=>res=[]/\os=[.row false 73 Q1]))
  (c2:bu1=true->bv1=true->a0W 81 [.own 0,vi .i64 za,vi .i64 zs,vi .i64 zc,.cl fid []] [.row false 73 Q1] (λres os=>res=[]/\os=[.row false 73 Q2]))
  (c3:bu2=true->bv2=true->a0W 81 [.own 0,vi .i64 zc,vi .i64 ze,vi .i64 zb,.cl fid []] [.row false 73 Q2] (λres os=>res=[]/\os=[.row false 73 M]))
  (d1:bu2=false\/bv1=false->L=Q1) (d2:bu1=false\/bv1=false->Q1=Q2) (d3:bu2=false\/bv2=false->Q2=M):∀qa qb qc qd qe qf qg qh qi qj qk ql qm qo qp qq qs qt qu qv qw qx qy qz va vc vd ve vf vg vh vj vk vl vp vq vr vt vu vv vw vx vy,Ar.mk qa qb qc qd qe qf qg qh qi qj qk ql qm qo qp qq qs qt qu qv qw qx qy qz va vc vd ve vf vg vh vj vk vl vp vq vr vt vu vv vw vx vy=a7 ->
  qh zs zm=bu2->qh zm ze=bv1->qh za zs=bu1->qh zs zc=bv1->qh zc ze=bu2->qh ze zb=bv2->∀Kc:Vm.X->Vm.S->Prop,(∀t,Kc .normal ⟨t,[.row false 73 M,.kl []]⟩) ->
  w5 (Ar.mk qa qb qc qd qe qf qg qh qi qj qk ql qm qo qp qq qs qt qu qv qw qx qy qz va vc vd ve vf vg vh vj vk vl vp vq vr vt vu vv vw vx vy) (f7 (f7 (f7 (f7 (f7 (f7 (f7 (f7 (f7 (Tryd.f81.body.getD .skip)))))))))) (a9R fid za zm zb [(18,vi .i64 zc),(20,vi .i64 zs),(24,vi .i64 ze)] L) Kc:=by
 intro qa qb qc qd qe qf qg qh qi qj qk ql qm qo qp qq qs qt qu qv qw qx qy qz va vc vd ve vf vg vh vj vk vl vp vq vr vt vu vv vw vx vy hA t1 t2 t3 t4 t5 t6 Kc hK;cases bu2
 ·obtain rfl:=d1 (.inl rfl);obtain rfl:=d3 (.inl rfl);cbv;rw[t1];cbv;refine gn ?_;cases bv1
  ·obtain rfl:=d2 (.inr rfl);cases bu1
   all_goals
    rw[t3];cbv;refine gn ?_
    first|done|(rw[t4];cbv;repeat ((with_reducible apply b5 hA);cbv))|skip
    rw[t5];cbv;refine gn ?_;exact hK _
  ·cases bu1
   ·obtain rfl:=d2 (.inl rfl);rw[t3];cbv;refine gn ?_;rw[t5];cbv;refine gn ?_;exact hK _
   ·rw[t3];cbv;refine gn ?_;rw[t4];cbv;refine gn ?_;refine C3 hA [0] (c2 rfl rfl) ⟨rfl,rfl,rfl,rfl,rfl,rfl,rfl⟩ ?_
    rintro res os2 ⟨rfl,rfl⟩
    cbv;refine gn ?_;rw[t5];cbv;refine gn ?_;exact hK _
 ·cbv;rw[t1];cbv;refine gn ?_;cases bv1
  ·obtain rfl:=d1 (.inr rfl);obtain rfl:=d2 (.inr rfl);rw[t2];cbv;refine gn ?_;rw[t3];cases bu1
   all_goals
    cbv;refine gn ?_
    first|done|(rw[t4];cbv;repeat ((with_reducible apply b5 hA);cbv))|skip
    rw[t5];cbv;refine gn ?_;rw[t6];cases bv2
    ·obtain rfl:=d3 (.inr rfl);cbv;refine gn ?_;exact hK _
    ·cbv;refine gn ?_;refine C3 hA [0] (c3 rfl rfl) ⟨rfl,rfl,rfl,rfl,rfl,rfl,rfl⟩ ?_
     rintro res os2 ⟨rfl,rfl⟩
     cbv;refine gn ?_;exact hK _
  ·rw[t2];cbv;refine gn ?_;refine C3 hA [0] (c1 rfl rfl) ⟨rfl,rfl,rfl,rfl,rfl,rfl,rfl⟩ ?_
   rintro res os2 ⟨rfl,rfl⟩
   cbv;refine gn ?_;rw[t3];cases bu1
   ·obtain rfl:=d2 (.inl rfl);cbv;refine gn ?_;rw[t5];cbv;refine gn ?_;rw[t6];cases bv2
    ·obtain rfl:=d3 (.inr rfl);cbv;refine gn ?_;exact hK _
    ·cbv;refine gn ?_;refine C3 hA [0] (c3 rfl rfl) ⟨rfl,rfl,rfl,rfl,rfl,rfl,rfl⟩ ?_
     rintro res os2 ⟨rfl,rfl⟩
     cbv;refine gn ?_;exact hK _
   ·cbv;refine gn ?_;rw[t4];cbv;refine gn ?_;refine C3 hA [0] (c2 rfl rfl) ⟨rfl,rfl,rfl,rfl,rfl,rfl,rfl⟩ ?_
    rintro res os2 ⟨rfl,rfl⟩
    cbv;refine gn ?_;rw[t5];cbv;refine gn ?_;rw[t6];cases bv2
    ·obtain rfl:=d3 (.inr rfl);cbv;refine gn ?_;exact hK _
    ·cbv;refine gn ?_;refine C3 hA [0] (c3 rfl rfl) ⟨rfl,rfl,rfl,rfl,rfl,rfl,rfl⟩ ?_
     rintro res os2 ⟨rfl,rfl⟩
     cbv;refine gn ?_;exact hK _
theorem b27 (fid:Nat) (hc:a8m fid) (r:Code) (P U V S L:List Rw) (a m b mid p s0 r0:Nat) (za zm zb zc zn zs0 zr0:Int) (ea:a=P.length) (hUL:U.length=m - a) (hVL:V.length=b - m) (hL:L=P++(U++(V++S))) (h5:∀x∈L,Ok5 x) (hN:L.length<=1048576) (hU:N5 z7 U) (hV:N5 z7 V)
  (emid:mid=(a+b) / 2) (ham:a<m) (hmb:m<b) (hp:p+1=mid+m) (hW:a4f a m b mid s0 r0) (hsr:s0<=r0) (hrm:r0<=m/\r0<=mid) (hbL:b<=L.length)
  (wn:zn=((mid+m:Nat):Int)) (ws:zs0=(s0:Int)) (wr:zr0=(r0:Int)) (Kc:Vm.X->Vm.S->Prop)
  (hgo:∀(s:Nat) (zs:Int),zs=(s:Int)->s0<=s->s<=r0->b6Y U V a m p s0 s->b1j U V a m p s r0->w5 a7 r (a9R fid za zm zb [(18,vi .i64 zc),(20,vi .i64 zs),(24,vi .i64 (a7.wrap .i64 (a7.sub zn zs)))] L) Kc):∀qa qb qc qd qe qf qg qh qi qj qk ql qm qo qp qq qs qt qu qv qw qx qy qz va vc vd ve vf vg vh vj vk vl vp vq vr vt vu vv vw vx vy,Ar.mk qa qb qc qd qe qf qg qh qi qj qk ql qm qo qp qq qs qt qu qv qw qx qy qz va vc vd ve vf vg vh vj vk vl vp vq vr vt vu vv vw vx vy=a7 ->
  w5 (Ar.mk qa qb qc qd qe qf qg qh qi qj qk ql qm qo qp qq qs qt qu qv qw qx qy qz va vc vd ve vf vg vh vj vk vl vp vq vr vt vu vv vw vx vy) (.seq (H7 (f7 (f7 (f7 (f7 (f7 (f7 (Tryd.f81.body.getD .skip)))))))) (.seq (H7 (f7 (f7 (f7 (f7 (f7 (f7 (f7 (Tryd.f81.body.getD .skip))))))))) (.seq (H7 (f7 (f7 (f7 (f7 (f7 (f7 (f7 (f7 (Tryd.f81.body.getD .skip)))))))))) r))) (a9R fid za zm zb [(18,vi .i64 zc),(19,vi .i64 zn),(20,vi .i64 zs0),(21,vi .i64 zr0)] L) Kc:=by
 intro qa qb qc qd qe qf qg qh qi qj qk ql qm qo qp qq qs qt qu qv qw qx qy qz va vc vd ve vf vg vh vj vk vl vp vq vr vt vu vv vw vx vy hA;obtain⟨e1,e2,e3,e4,e5,e6,e7,e8,e9⟩:=j8 hA;obtain⟨r1,r2,r3,r4⟩:=n9 hA;have hbt:=a4K hA
 have hgo2:∀(s:Nat) (zs:Int),zs=(s:Int)->s0<=s->s<=r0->b6Y U V a m p s0 s->b1j U V a m p s r0->w5 (Ar.mk qa qb qc qd qe qf qg qh qi qj qk ql qm qo qp qq qs qt qu qv qw qx qy qz va vc vd ve vf vg vh vj vk vl vp vq vr vt vu vv vw vx vy) r (a9R fid za zm zb [(18,vi .i64 zc),(20,vi .i64 zs),(24,vi .i64 (qa .i64 (qc zn zs)))] L) Kc:=λs zs h1 h2 h3 h4 h5=>by
  rw[e1,e3,hA];exact hgo s zs h1 h2 h3 h4 h5
 clear hgo;have wp:qa .i64 (qc zn 1)=(p:Int):=by rw[e1,e3,wn,IntWalk.i64_in _ (by omega)];omega
 cbv;refine gn ?_;try simp only[nc] at *
 refine l9 hA (γ:=Int×Int) (λx=>[(20,vi .i64 x.1),(21,vi .i64 x.2)]) (λx=>[])
  (λx=>∃s r:Nat,x.1=(s:Int)/\x.2=(r:Int)/\s0<=s/\s<=r/\r<=r0/\b6Y U V a m p s0 s/\b1j U V a m p r r0) (λx=>x.2.toNat - x.1.toNat) (zs0,zr0) ?_ ?_ ?_
 ·exact⟨s0,r0,ws,wr,c2A _,hsr,c2A _,λc x y h1 h2=>by omega,λc x y h1 h2=>by omega⟩
 ·cbv
 ·intro x hinv;obtain⟨zs,zr⟩:=x;cbv;refine gn ?_;try simp only[nc] at *
  obtain⟨s,q,hs,hr,hs1,hs2,hs3,hlo,hhi⟩:=hinv;have hlt:qh zs zr=decide (s<q):=by rw[e7,hs,hr];exact c2Q.2 (by omega)
  by_cases h9:s<q
  ·rw[c2J h9] at hlt;obtain⟨c,hcc⟩:∃c,c=(s+q) / 2:=⟨_,rfl⟩;have hwb:=G4 hW emid ham hmb (s:=c) (by omega) (by omega);obtain⟨x,hx⟩:∃x,U[c - a]?=some x:=⟨_,c28 (by omega)⟩;obtain⟨y,hy⟩:∃y,V[p - c - m]?=some y:=⟨_,c28 (by omega)⟩
   have hLx:L[c]?=some x:=by
    rw[hL,c2P (by omega),<-ea,c2R (by omega)];exact hx
   have hLy:L[p - c]?=some y:=by
    rw[hL,c2P (by omega),<-ea,c2P (by omega),c2R (by omega),show p - c - a - U.length=p - c - m by omega];exact hy
   obtain⟨nx,x1,x2,x3,x4,hxx⟩:=h5 x (c2F hLx);obtain⟨ny,y1,y2,y3,y4,hyy⟩:=h5 y (c2F hLy);obtain⟨zh,hzh⟩:∃z:Int,z=(c:Int):=⟨_,rfl⟩
   have hb:qg .shr .u64 (qa .u64 (qa .i64 (qb zs zr))) .u64 1=some zh:=by
    rw[hbt,a6q,e1,e1,e2,hs,hr,IntWalk.i64_in _ (by omega),IntWalk.u64_in _ (by omega),hzh]
    congr 1
    omega
   have w2:qa .i64 zh=zh:=by rw[e1,hzh,IntWalk.i64_in _ (by omega)]
   have w3:qa .i64 (qc (qa .i64 (qc zn 1)) zh)=((p - c:Nat):Int):=by rw[wp,e1,e3,hzh,IntWalk.i64_in _ (by omega)];omega
   have gx:qz L zh=some [.sc (.string nx),x1,x2,x3,x4]:=by rw[r2,c2E (by omega),hzh,c2T,hLx,hxx]
   have gy:qz L (qa .i64 (qc (qa .i64 (qc zn 1)) zh))=some [.sc (.string ny),y1,y2,y3,y4]:=by rw[w3,r2,c2E (by omega),c2T,hLy,hyy]
   have hcmp:=hc ny nx y1 y2 y3 y4 x1 x2 x3 x4;have hneg:qh (a2q ny.toList nx.toList) 0=z7 y x:=by rw[e7,a4P,hyy,hxx];rfl
   generalize a2q ny.toList nx.toList=cv at *;rw[hlt];cbv;refine gn ?_;try simp only[nc] at *
   rw[hb];cbv;refine gn ?_;try simp only[nc] at *
   rw[w2];cbv
   repeat (first|(rw[gy];cbv)|(rw[gx];cbv)|(with_reducible apply b5 hA;cbv))
   refine c5 hA _ hcmp ?_;cbv;cases hbb:z7 y x
   ·rw[hbb] at hneg;rw[hneg];cbv;refine gn ?_;try simp only[nc] at *
    have w4:qa .i64 (qb zh 1)=((c+1:Nat):Int):=by rw[e1,e2,hzh,IntWalk.i64_in _ (by omega)];omega
    refine⟨(qa .i64 (qb zh 1),zr),⟨c+1,q,w4,hr,by omega,by omega,hs3,b8N hU hV hW emid ham hmb hp (by omega) (by omega) hx hy hbb,hhi⟩,?_,?_⟩
    ·show zr.toNat - (qa .i64 (qb zh 1)).toNat<zr.toNat - zs.toNat;rw[w4];omega
    ·cbv
   ·rw[hbb] at hneg;rw[hneg];cbv;refine gn ?_;try simp only[nc] at *
    refine⟨(zs,zh),⟨s,c,hs,hzh,hs1,by omega,by omega,hlo,b24 hU hV hW emid ham hmb hp (by omega) (by omega) hx hy hbb⟩,?_,?_⟩
    ·show zh.toNat - zs.toNat<zr.toNat - zs.toNat;omega
    ·cbv
  ·rw[c2G h9] at hlt;obtain rfl:s=q:=by omega
   have hk:=hgo2 s zs hs hs1 hs3 hlo hhi;rw[hlt];cbv
   repeat (first|(refine A4 hA _ (v7.weaker _ (a9R fid za zm zb [(18,vi .i64 zc),(20,vi .i64 zs),(24,vi .i64 (qa .i64 (qc zn zs)))] L) (by cbv) rfl) ?_;exact hk)|((with_reducible apply b5 hA);cbv))
theorem b7c (fid:Nat) (r:Code) (L:List Rw) (a m b mid:Nat) (za zm zb zc zn:Int) (hza:za=(a:Int)) (hzm:zm=(m:Int)) (hzb:zb=(b:Int)) (hzc:zc=(mid:Int)) (hzn:zn=((mid+m:Nat):Int)) (emid:mid=(a+b) / 2) (ham:a+2<=m) (hmb:m+2<=b) (hbL:b<=1048576) (Kc:Vm.X->Vm.S->Prop)
  (hgo:∀(s0 r0:Nat) (zs0 zr0:Int),zs0=(s0:Int)->zr0=(r0:Int)->a4f a m b mid s0 r0->s0<=r0->r0<=m/\r0<=mid->w5 a7 r (a9R fid za zm zb [(18,vi .i64 zc),(19,vi .i64 zn),(20,vi .i64 zs0),(21,vi .i64 zr0)] L) Kc):∀qa qb qc qd qe qf qg qh qi qj qk ql qm qo qp qq qs qt qu qv qw qx qy qz va vc vd ve vf vg vh vj vk vl vp vq vr vt vu vv vw vx vy,Ar.mk qa qb qc qd qe qf qg qh qi qj qk ql qm qo qp qq qs qt qu qv qw qx qy qz va vc vd ve vf vg vh vj vk vl vp vq vr vt vu vv vw vx vy=a7 ->
  w5 (Ar.mk qa qb qc qd qe qf qg qh qi qj qk ql qm qo qp qq qs qt qu qv qw qx qy qz va vc vd ve vf vg vh vj vk vl vp vq vr vt vu vv vw vx vy) (.seq (H7 (Tryd.f81.body.getD .skip)) (.seq (H7 (f7 (Tryd.f81.body.getD .skip))) (.seq (H7 (f7 (f7 (Tryd.f81.body.getD .skip)))) (.seq (H7 (f7 (f7 (f7 (Tryd.f81.body.getD .skip))))) (.seq (H7 (f7 (f7 (f7 (f7 (Tryd.f81.body.getD .skip)))))) (.seq (H7 (f7 (f7 (f7 (f7 (f7 (Tryd.f81.body.getD .skip))))))) r)))))) (L3 [.own 0,vi .i64 za,vi .i64 zm,vi .i64 zb,.cl fid []] [.row false 73 L] (Tryd.f81.ntmps - m9 [V.own 0,vi .i64 za,vi .i64 zm,vi .i64 zb,.cl fid []])) Kc:=by
 intro qa qb qc qd qe qf qg qh qi qj qk ql qm qo qp qq qs qt qu qv qw qx qy qz va vc vd ve vf vg vh vj vk vl vp vq vr vt vu vv vw vx vy hA;obtain⟨e1,e2,e3,e4,e5,e6,e7,e8,e9⟩:=j8 hA;have hbt:=a4K hA
 have hgo2:∀(s0 r0:Nat) (zs0 zr0:Int),zs0=(s0:Int)->zr0=(r0:Int)->a4f a m b mid s0 r0->s0<=r0->r0<=m/\r0<=mid->w5 (Ar.mk qa qb qc qd qe qf qg qh qi qj qk ql qm qo qp qq qs qt qu qv qw qx qy qz va vc vd ve vf vg vh vj vk vl vp vq vr vt vu vv vw vx vy) r (a9R fid za zm zb [(18,vi .i64 zc),(19,vi .i64 zn),(20,vi .i64 zs0),(21,vi .i64 zr0)] L) Kc:=by
  rw[hA];exact hgo
 clear hgo;have w0:qj (qa .i64 (qc zm za)) 1=false:=by rw[e9,e1,e3,hzm,hza,IntWalk.i64_in _ (by omega),c2O];omega
 have w1:qj (qa .i64 (qc zb zm)) 1=false:=by rw[e9,e1,e3,hzm,hzb,IntWalk.i64_in _ (by omega),c2O];omega
 have hb0:qg .shr .u64 (qa .u64 (qa .i64 (qb za zb))) .u64 1=some zc:=by
  rw[hbt,a6q,e1,e1,e2,hza,hzb,IntWalk.i64_in _ (by omega),IntWalk.u64_in _ (by omega),hzc]
  congr 1
  omega
 have wc:qa .i64 zc=zc:=by rw[e1,hzc,IntWalk.i64_in _ (by omega)]
 have wn:qa .i64 (qb zc zm)=zn:=by rw[e1,e2,hzc,hzm,hzn,IntWalk.i64_in _ (by omega)];omega
 have hgt:qh zc zm=decide (mid<m):=by rw[e7,hzm,hzc];exact c2Q.2 (by omega)
 have ws:mid<m->qa .i64 (qc zn zb)=((mid+m - b:Nat):Int):=λh=>by rw[e1,e3,hzn,hzb,IntWalk.i64_in _ (by omega)];omega
 cbv
 repeat (first|(rw[w0];cbv)|(rw[w1];cbv)|(rw[hb0];cbv)|(rw[wc];cbv)|(rw[wn];cbv)|((with_reducible apply b5 hA);cbv))
 by_cases hbr:mid<m
 ·rw[c2J hbr] at hgt;have hk:=hgo2 (mid+m - b) mid _ zc (ws hbr) hzc (.inr ⟨hbr,by omega,rfl⟩) (by omega) (by omega);rw[hgt];cbv
  repeat (first|(refine A4 hA _ (v7.weaker _ (a9R fid za zm zb [(18,vi .i64 zc),(19,vi .i64 zn),(20,vi .i64 (qa .i64 (qc zn zb))),(21,vi .i64 zc)] L) (by cbv) rfl) ?_;exact hk)|((with_reducible apply b5 hA);cbv))
 ·rw[c2G hbr] at hgt;have hk:=hgo2 a m za zm hza hzm (.inl ⟨by omega,rfl,rfl⟩) (by omega) (by omega);rw[hgt];cbv
  repeat (first|(refine A4 hA _ (v7.weaker _ (a9R fid za zm zb [(18,vi .i64 zc),(19,vi .i64 zn),(20,vi .i64 za),(21,vi .i64 zm)] L) (by cbv) rfl) ?_;exact hk)|((with_reducible apply b5 hA);cbv))
end Go.Proofs.YtlofmibkljoapaaDoor.Vm
end

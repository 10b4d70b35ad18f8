/- Part 9 of the proof. Conditions: none. -/
import Derived.Test.YtlofmibkljoapaaDoorO4
import Derived.Test.YtlofmibkljoapaaDoorO8
import Derived.Test.YtlofmibkljoapaaDoorO0
set_option linter.all false
set_option linter.unusedVariables false
set_option linter.unusedSimpArgs false
section
namespace Go.Proofs.YtlofmibkljoapaaDoor.Vm
open Go.RowKit
set_option maxRecDepth 100000
set_option maxHeartbeats 4000000
theorem a4Q {L m:List Rw} (h:N5 z7 m/\W8 z7 m L):m=i6 z7 L:=a4M L4 h.1 h.2
theorem b7a (fid:Nat) (hc:a8m fid) (P V S:List Rw) (u:Rw) (h5:∀x∈P++(u::(V++S)),Ok5 x) (hN:(P++(u::(V++S))).length<=1048576) (hV:N5 z7 V) :
  a0W 81 [.own 0,vi .i64 P.length,vi .i64 (P.length+1:Nat),vi .i64 (P.length+1+V.length:Nat),.cl fid []] [.row false 73 (P++(u::(V++S)))] (λres os=>res=[]/\os=[.row false 73 (P++(i6 z7 (u::V)++S))]):=by
 obtain⟨za,hza⟩:∃z:Int,z=(P.length:Int):=⟨_,rfl⟩;obtain⟨zm,hzm⟩:∃z:Int,z=((P.length+1:Nat):Int):=⟨_,rfl⟩;obtain⟨zb,hzb⟩:∃z:Int,z=((P.length+1+V.length:Nat):Int):=⟨_,rfl⟩;obtain⟨L,hL⟩:∃L,L=P++(u::(V++S)):=⟨_,rfl⟩;obtain⟨M,hM⟩:∃M,M=P++(i6 z7 (u::V)++S):=⟨_,rfl⟩;rw[<-hza,<-hzm,<-hzb,<-hM,<-hL];rw[<-hL] at h5 hN;have hLl:L.length=P.length+1+V.length+S.length:=by rw[hL];simp only[c29,c2D];omega
 have hum:u∈L:=by rw[hL];simp
 obtain⟨nu,u1,u2,u3,u4,huu⟩:=h5 u hum;have hLu:L[P.length]?=some u:=by rw[hL];simp
 refine a0q Tryd.func81 rfl (by kernel_rfl) (by kernel_rfl) (by kernel_rfl) rfl rfl (by rintro _ _ ⟨_,rfl⟩;rfl) ?_;intro qa qb qc _ _ _ qg qh _ qj _ _ _ _ _ _ _ _ _ _ _ _ _ qz _ _ vd;intros;rename_i hA K hK;cbv;refine gn ?_;try simp only[nc] at *
 obtain⟨e1,e2,e3,e4,e5,e6,e7,e8,e9⟩:=j8 hA;obtain⟨r1,r2,r3,r4⟩:=n9 hA;obtain⟨m1,m2,m3,m4⟩:=H2 hA;have hbt:=a4K hA;have w1:qj (qa .i64 (qc zm za)) 1=true:=by rw[e9,e1,e3,hzm,hza,IntWalk.i64_in _ (by omega),c3q];omega
 have gu:qz L za=some [.sc (.string nu),u1,u2,u3,u4]:=by rw[r2,c2E (by omega),hza,c2T,hLu,huu]
 rw[w1];cbv;refine gn ?_;try simp only[nc] at *
 refine l9 hA (γ:=Int×Int) (λx=>[(10,vi .i64 x.1),(11,vi .i64 x.2)]) (λx=>[])
  (λx=>∃i j:Nat,x.1=((P.length+1+i:Nat):Int)/\x.2=((P.length+1+j:Nat):Int)/\i<=j/\j<=V.length/\(∀y∈V.take i,z7 y u=true)/\∀y∈V.drop j,z7 y u=false) (λx=>x.2.toNat - x.1.toNat) (zm,zb) ?_ ?_ ?_
 ·exact⟨0,V.length,hzm,hzb,c3d _,c2A _,by simp,by simp⟩
 ·cbv
 ·intro x hinv;obtain⟨zi,zj⟩:=x;cbv;refine gn ?_;try simp only[nc] at *
  obtain⟨i,j,hi,hj,hij,hjb,hlo,hhi⟩:=hinv;have hlt:qh zi zj=decide (i<j):=by rw[e7,hi,hj];exact c2Q.2 (by omega)
  by_cases h9:i<j
  ·rw[c2J h9] at hlt;obtain⟨h,hh⟩:∃h,P.length+1+h=(P.length+1+i+(P.length+1+j)) / 2:=⟨(P.length+1+i+(P.length+1+j)) / 2 - (P.length+1),by omega⟩;have hh1:i<=h/\h<j:=by omega
   obtain⟨y,hy⟩:∃y,V[h]?=some y:=⟨_,c28 (by omega)⟩
   have hLy:L[P.length+1+h]?=some y:=by
    rw[hL,c2P (by omega),show P.length+1+h - P.length=h+1 by omega,c47,c2R (by omega)];exact hy
   obtain⟨ny,y1,y2,y3,y4,hyy⟩:=h5 y (c2F hLy)
   have hb:qg .shr .u64 (qa .u64 (qa .i64 (qb zi zj))) .u64 1=some (((P.length+1+h:Nat)):Int):=by
    rw[hbt,a6q,e1,e1,e2,hi,hj,IntWalk.i64_in _ (by omega),IntWalk.u64_in _ (by omega)]
    congr 1
    omega
   obtain⟨zh,hzh⟩:∃z:Int,z=((P.length+1+h:Nat):Int):=⟨_,rfl⟩;rw[<-hzh] at hb;have w2:qa .i64 zh=zh:=by rw[e1,hzh,IntWalk.i64_in _ (by omega)]
   have gy:qz L zh=some [.sc (.string ny),y1,y2,y3,y4]:=by rw[r2,c2E (by omega),hzh,c2T,hLy,hyy]
   have hcmp:=hc ny nu y1 y2 y3 y4 u1 u2 u3 u4;have hneg:qh (a2q ny.toList nu.toList) 0=z7 y u:=by rw[e7,a4P,hyy,huu];rfl
   generalize a2q ny.toList nu.toList=cv at *;rw[hlt];cbv;refine gn ?_;try simp only[nc] at *
   rw[hb];cbv;refine gn ?_;try simp only[nc] at *
   rw[w2];cbv
   repeat (first|(rw[gy];cbv)|(rw[gu];cbv)|(with_reducible apply b5 hA;cbv))
   refine c5 hA _ hcmp ?_;cbv;cases hbb:z7 y u
   ·rw[hbb] at hneg;rw[hneg];cbv;refine gn ?_;try simp only[nc] at *
    refine⟨(zi,zh),⟨i,h,hi,hzh,hh1.1,by omega,hlo,b1i hV hy hbb⟩,?_,?_⟩
    ·show zh.toNat - zi.toNat<zj.toNat - zi.toNat;omega
    ·cbv
   ·rw[hbb] at hneg;rw[hneg];cbv;refine gn ?_;try simp only[nc] at *
    have w3:qa .i64 (qb zh 1)=((P.length+1+(h+1):Nat):Int):=by rw[e1,e2,hzh,IntWalk.i64_in _ (by omega)];omega
    refine⟨(qa .i64 (qb zh 1),zj),⟨h+1,j,w3,hj,by omega,hjb,b5q hV hy hbb,hhi⟩,?_,?_⟩
    ·show zj.toNat - (qa .i64 (qb zh 1)).toNat<zj.toNat - zi.toNat;rw[w3];omega
    ·cbv
  ·rw[c2G h9] at hlt;obtain rfl:i=j:=by omega
   obtain⟨V1,V2,hV12,hV1⟩:=a1a (l:=V) (n:=i) (by omega);have hpl:=a4N L4 (x:=u) (v1:=V1) (v2:=V2) (by rw[<-hV12];exact hV) (by rw[hV12,c4Q hV1] at hlo;exact hlo) (by rw[hV12,c4R hV1] at hhi;exact hhi);have hfin:V1++u::V2=i6 z7 (u::V):=a4Q ⟨hpl.1,by rw[hV12];exact hpl.2⟩;rw[hlt];cbv;refine gn ?_;try simp only[nc] at *
   have w4:qa .i64 (qc zi 1)=((P.length+i:Nat):Int):=by rw[e1,e3,hi,IntWalk.i64_in _ (by omega)];omega
   refine l9 hA (γ:=Int×List Rw) (λx=>[(13,vi .i64 x.1)]) (λx=>[(0,.row false 73 x.2)])
    (λx=>∃X Y:List Rw,x.1=((P.length+X.length:Nat):Int)/\V1=X++Y/\x.2=(P++X)++u::(Y++(V2++S))/\x.2.length=L.length/\∀r∈x.2,r∈L) (λx=>L.length - x.1.toNat) (za,L) ?_ ?_ ?_
   ·exact⟨[],V1,hza,rfl,by rw[c3b,hL,hV12,c3m],rfl,λr h=>h⟩
   ·cbv
   ·intro x hinv;obtain⟨zk,Q⟩:=x;cbv;refine gn ?_;try simp only[nc] at *
    obtain⟨X,Y,hk,hXY,hQ,hQl,hQm⟩:=hinv;have hxl:X.length+Y.length=i:=by rw[<-c29,<-hXY,hV1]
    have hlt2:qh zk (qa .i64 (qc zi 1))=decide (0<Y.length):=by rw[e7,hk,w4];exact c2Q.2 (by omega)
    cases Y with
    | nil =>
     rw[c2N,c2G (c4J 0)] at hlt2;rw[hlt2];cbv;refine gn ?_;try simp only[nc] at *
     have e:Q=M:=by rw[hQ,hM,<-hfin,hXY];simp
     rw[e];exact hK [] [.row false 73 M] ⟨rfl,rfl⟩
    | cons y Y =>
     rw[c2J (show 0<(y::Y).length by simp)] at hlt2;rw[c2D] at hxl;obtain⟨ny,y1,y2,y3,y4,hyy⟩:=h5 y (hQm y (by rw[hQ];simp));have hpl:(P++X).length=P.length+X.length:=c29;have wk:qa .i64 (qb zk 1)=((P.length+X.length+1:Nat):Int):=by rw[e1,e2,hk,IntWalk.i64_in _ (by omega)];omega
     have gk:qz Q zk=some [.sc (.string nu),u1,u2,u3,u4]:=by
      rw[r2,c2E (by omega),hk,c2T,hQ,c2P (by omega),hpl,c4e,<-huu];rfl
     have gk1:qz Q (qa .i64 (qb zk 1))=some [.sc (.string ny),y1,y2,y3,y4]:=by
      rw[wk,r2,c2E (by omega),c2T,hQ,c2P (by omega),hpl,show P.length+X.length+1 - (P.length+X.length)=1 by omega,<-hyy];rfl
     have gk2:∀v,qz (vd Q zk v) (qa .i64 (qb zk 1))=some [.sc (.string ny),y1,y2,y3,y4]:=λv=>by
      rw[<-gk1,r2,r2,m4,wk,hk,c2T,c2T,c2L (by omega)]
     rw[hlt2];cbv;refine gn ?_;try simp only[nc] at *
     repeat (first|(rw[gk1];cbv)|(rw[gk];cbv)|(rw[gk2];cbv)|(with_reducible apply b5 hA;cbv))
     try simp only[nc] at *
     refine⟨(qa .i64 (qb zk 1),vd (vd Q zk [.sc (.string ny),y1,y2,y3,y4]) (qa .i64 (qb zk 1)) [.sc (.string nu),u1,u2,u3,u4]),⟨X++[y],Y,?_,?_,?_,?_,?_⟩,?_,?_⟩
     ·show qa .i64 (qb zk 1)=_;rw[wk,c29];rfl
     ·rw[hXY];simp
     ·show vd (vd Q zk _) _ _=_;rw[m4,m4,wk,hk,c2T,c2T,hQ,<-huu,<-hyy,c3C,b5r _ _ _ _ hpl]
      simp
     ·show (vd (vd Q zk _) _ _).length=_;rw[m4,m4,c2K,c2K];exact hQl
     ·intro r hr;have hr:r∈vd (vd Q zk [.sc (.string ny),y1,y2,y3,y4]) (qa .i64 (qb zk 1)) [.sc (.string nu),u1,u2,u3,u4]:=hr;rw[m4,m4,<-huu,<-hyy] at hr
      rcases c36 hr with hr|rfl
      ·rcases c36 hr with hr|rfl
       ·exact hQm r hr
       ·exact hQm _ (by rw[hQ];simp)
      ·exact hum
     ·show L.length - (qa .i64 (qb zk 1)).toNat<L.length - zk.toNat;rw[wk,hk];omega
     ·cbv
theorem b5s (fid:Nat) (hc:a8m fid) (P U S:List Rw) (v:Rw) (h5:∀x∈P++(U++(v::S)),Ok5 x) (hN:(P++(U++(v::S))).length<=1048576) (hU:N5 z7 U) (hU2:2<=U.length) :
  a0W 81 [.own 0,vi .i64 P.length,vi .i64 (P.length+U.length:Nat),vi .i64 (P.length+U.length+1:Nat),.cl fid []] [.row false 73 (P++(U++(v::S)))] (λres os=>res=[]/\os=[.row false 73 (P++(i6 z7 (U++[v])++S))]):=by
 obtain⟨za,hza⟩:∃z:Int,z=(P.length:Int):=⟨_,rfl⟩;obtain⟨zm,hzm⟩:∃z:Int,z=((P.length+U.length:Nat):Int):=⟨_,rfl⟩;obtain⟨zb,hzb⟩:∃z:Int,z=((P.length+U.length+1:Nat):Int):=⟨_,rfl⟩;obtain⟨L,hL⟩:∃L,L=P++(U++(v::S)):=⟨_,rfl⟩;obtain⟨M,hM⟩:∃M,M=P++(i6 z7 (U++[v])++S):=⟨_,rfl⟩;rw[<-hza,<-hzm,<-hzb,<-hM,<-hL];rw[<-hL] at h5 hN;have hLl:L.length=P.length+U.length+1+S.length:=by rw[hL];simp only[c29,c2D];omega
 have hvm:v∈L:=by rw[hL];simp
 obtain⟨nv,v1,v2,v3,v4,hvv⟩:=h5 v hvm;have hLv:L[P.length+U.length]?=some v:=by rw[hL,c2P (by omega),c2P (by omega),show P.length+U.length - P.length - U.length=0 by omega];rfl
 refine a0q Tryd.func81 rfl (by kernel_rfl) (by kernel_rfl) (by kernel_rfl) rfl rfl (by rintro _ _ ⟨_,rfl⟩;rfl) ?_;intro qa qb qc _ _ _ qg qh _ qj _ _ _ _ _ _ _ _ _ _ _ _ _ qz _ _ vd;intros;rename_i hA K hK;cbv;refine gn ?_;try simp only[nc] at *
 obtain⟨e1,e2,e3,e4,e5,e6,e7,e8,e9⟩:=j8 hA;obtain⟨r1,r2,r3,r4⟩:=n9 hA;obtain⟨m1,m2,m3,m4⟩:=H2 hA;have hbt:=a4K hA;have w0:qj (qa .i64 (qc zm za)) 1=false:=by rw[e9,e1,e3,hzm,hza,IntWalk.i64_in _ (by omega),c2O];omega
 have w1:qj (qa .i64 (qc zb zm)) 1=true:=by rw[e9,e1,e3,hzm,hzb,IntWalk.i64_in _ (by omega),c3q];omega
 have gv:qz L zm=some [.sc (.string nv),v1,v2,v3,v4]:=by rw[r2,c2E (by omega),hzm,c2T,hLv,hvv]
 rw[w0];cbv;refine gn ?_;try simp only[nc] at *
 rw[w1];cbv;refine gn ?_;try simp only[nc] at *
 refine l9 hA (γ:=Int×Int) (λx=>[(14,vi .i64 x.1),(15,vi .i64 x.2)]) (λx=>[])
  (λx=>∃i j:Nat,x.1=((P.length+i:Nat):Int)/\x.2=((P.length+j:Nat):Int)/\i<=j/\j<=U.length/\(∀y∈U.take i,z7 v y=false)/\∀y∈U.drop j,z7 v y=true) (λx=>x.2.toNat - x.1.toNat) (za,zm) ?_ ?_ ?_
 ·exact⟨0,U.length,hza,hzm,c3d _,c2A _,by simp,by simp⟩
 ·cbv
 ·intro x hinv;obtain⟨zi,zj⟩:=x;cbv;refine gn ?_;try simp only[nc] at *
  obtain⟨i,j,hi,hj,hij,hjb,hlo,hhi⟩:=hinv;have hlt:qh zi zj=decide (i<j):=by rw[e7,hi,hj];exact c2Q.2 (by omega)
  by_cases h9:i<j
  ·rw[c2J h9] at hlt;obtain⟨h,hh⟩:∃h,P.length+h=(P.length+i+(P.length+j)) / 2:=⟨(P.length+i+(P.length+j)) / 2 - P.length,by omega⟩;have hh1:i<=h/\h<j:=by omega
   obtain⟨y,hy⟩:∃y,U[h]?=some y:=⟨_,c28 (by omega)⟩
   have hLy:L[P.length+h]?=some y:=by
    rw[hL,c2P (by omega),show P.length+h - P.length=h by omega,c2R (by omega)];exact hy
   obtain⟨ny,y1,y2,y3,y4,hyy⟩:=h5 y (c2F hLy)
   have hb:qg .shr .u64 (qa .u64 (qa .i64 (qb zi zj))) .u64 1=some (((P.length+h:Nat)):Int):=by
    rw[hbt,a6q,e1,e1,e2,hi,hj,IntWalk.i64_in _ (by omega),IntWalk.u64_in _ (by omega)]
    congr 1
    omega
   obtain⟨zh,hzh⟩:∃z:Int,z=((P.length+h:Nat):Int):=⟨_,rfl⟩;rw[<-hzh] at hb;have w2:qa .i64 zh=zh:=by rw[e1,hzh,IntWalk.i64_in _ (by omega)]
   have gy:qz L zh=some [.sc (.string ny),y1,y2,y3,y4]:=by rw[r2,c2E (by omega),hzh,c2T,hLy,hyy]
   have hcmp:=hc nv ny v1 v2 v3 v4 y1 y2 y3 y4;have hneg:qh (a2q nv.toList ny.toList) 0=z7 v y:=by rw[e7,a4P,hyy,hvv];rfl
   generalize a2q nv.toList ny.toList=cv at *;rw[hlt];cbv;refine gn ?_;try simp only[nc] at *
   rw[hb];cbv;refine gn ?_;try simp only[nc] at *
   rw[w2];cbv
   repeat (first|(rw[gy];cbv)|(rw[gv];cbv)|(with_reducible apply b5 hA;cbv))
   refine c5 hA _ hcmp ?_;cbv;cases hbb:z7 v y
   ·rw[hbb] at hneg;rw[hneg];cbv;refine gn ?_;try simp only[nc] at *
    have w3:qa .i64 (qb zh 1)=((P.length+(h+1):Nat):Int):=by rw[e1,e2,hzh,IntWalk.i64_in _ (by omega)];omega
    refine⟨(qa .i64 (qb zh 1),zj),⟨h+1,j,w3,hj,by omega,hjb,b23 hU hy hbb,hhi⟩,?_,?_⟩
    ·show zj.toNat - (qa .i64 (qb zh 1)).toNat<zj.toNat - zi.toNat;rw[w3];omega
    ·cbv
   ·rw[hbb] at hneg;rw[hneg];cbv;refine gn ?_;try simp only[nc] at *
    refine⟨(zi,zh),⟨i,h,hi,hzh,hh1.1,by omega,hlo,a9Q hU hy hbb⟩,?_,?_⟩
    ·show zh.toNat - zi.toNat<zj.toNat - zi.toNat;omega
    ·cbv
  ·rw[c2G h9] at hlt;obtain rfl:i=j:=by omega
   obtain⟨U1,U2,hU12,hU1⟩:=a1a (l:=U) (n:=i) (by omega);have hpl:=a3K L4 (x:=v) (u1:=U1) (u2:=U2) (by rw[<-hU12];exact hU) (by rw[hU12,c4Q hU1] at hlo;exact hlo) (by rw[hU12,c4R hU1] at hhi;exact hhi);have hfin:U1++v::U2=i6 z7 (U++[v]):=a4Q ⟨hpl.1,by rw[hU12];exact hpl.2⟩;have hul:U1.length+U2.length=U.length:=by rw[<-c29,<-hU12]
   rw[hlt];cbv;refine gn ?_;try simp only[nc] at *
   refine l9 hA (γ:=Int×List Rw) (λx=>[(17,vi .i64 x.1)]) (λx=>[(0,.row false 73 x.2)])
    (λx=>∃X Y:List Rw,x.1=((P.length+U1.length+X.length:Nat):Int)/\U2=X++Y/\x.2=P++(U1++(X++(v::(Y++S))))/\x.2.length=L.length/\∀r∈x.2,r∈L) (λx=>x.1.toNat) (zm,L) ?_ ?_ ?_
   ·exact⟨U2,[],by show zm=_;rw[hzm];congr 1;omega,by simp,by rw[hL,hU12];simp,rfl,λr h=>h⟩
   ·cbv
   ·intro x hinv;obtain⟨zk,Q⟩:=x;cbv;refine gn ?_;try simp only[nc] at *
    obtain⟨X,Y,hk,hXY,hQ,hQl,hQm⟩:=hinv;have hxl:X.length+Y.length=U2.length:=by rw[<-c29,<-hXY]
    have hlt2:qh zi zk=decide (0<X.length):=by rw[e7,hk,hi];exact c2Q.2 (by omega)
    rcases (show X=[]\/∃X0 y,X=X0++[y] by simpa [List.concat_eq_append] using List.eq_nil_or_concat X) with hnil|⟨X0,y,hsn⟩
    ·rw[hnil,c2N,c2G (c4J 0)] at hlt2;rw[hlt2];cbv;refine gn ?_;try simp only[nc] at *
     have e:Q=M:=by rw[hQ,hM,<-hfin,hXY,hnil];simp
     rw[e];exact hK [] [.row false 73 M] ⟨rfl,rfl⟩
    ·have hx1:X.length=X0.length+1:=by rw[hsn];simp
     rw[c2J (show 0<X.length by omega)] at hlt2;obtain⟨ny,y1,y2,y3,y4,hyy⟩:=h5 y (hQm y (by rw[hQ,hsn];simp));have hQ2:Q=(P++(U1++X0))++y::v::(Y++S):=by rw[hQ,hsn];simp
     have hpl:(P++(U1++X0)).length=P.length+U1.length+X0.length:=by simp only[c29];omega
     have wk:qa .i64 (qc zk 1)=((P.length+U1.length+X0.length:Nat):Int):=by rw[e1,e3,hk,IntWalk.i64_in _ (by omega)];omega
     have gk:qz Q zk=some [.sc (.string nv),v1,v2,v3,v4]:=by
      rw[r2,c2E (by omega),hk,c2T,hQ2,c2P (by omega),hpl,show P.length+U1.length+X.length - (P.length+U1.length+X0.length)=1 by omega,<-hvv];rfl
     have gk1:qz Q (qa .i64 (qc zk 1))=some [.sc (.string ny),y1,y2,y3,y4]:=by
      rw[wk,r2,c2E (by omega),c2T,hQ2,c2P (by omega),hpl,c4e,<-hyy];rfl
     have gk2:∀v,qz (vd Q zk v) (qa .i64 (qc zk 1))=some [.sc (.string ny),y1,y2,y3,y4]:=λv=>by
      rw[<-gk1,r2,r2,m4,wk,hk,c2T,c2T,c2L (by omega)]
     rw[hlt2];cbv;refine gn ?_;try simp only[nc] at *
     repeat (first|(rw[gk1];cbv)|(rw[gk];cbv)|(rw[gk2];cbv)|(with_reducible apply b5 hA;cbv))
     try simp only[nc] at *
     refine⟨(qa .i64 (qc zk 1),vd (vd Q zk [.sc (.string ny),y1,y2,y3,y4]) (qa .i64 (qc zk 1)) [.sc (.string nv),v1,v2,v3,v4]),⟨X0,y::Y,wk,?_,?_,?_,?_⟩,?_,?_⟩
     ·rw[hXY,hsn];simp
     ·show vd (vd Q zk _) _ _=_;rw[m4,m4,wk,hk,c2T,c2T,hQ2,<-hvv,<-hyy,show P.length+U1.length+X.length=P.length+U1.length+X0.length+1 by omega,b1h _ _ _ _ hpl]
      simp
     ·show (vd (vd Q zk _) _ _).length=_;rw[m4,m4,c2K,c2K];exact hQl
     ·intro r hr;have hr:r∈vd (vd Q zk [.sc (.string ny),y1,y2,y3,y4]) (qa .i64 (qc zk 1)) [.sc (.string nv),v1,v2,v3,v4]:=hr;rw[m4,m4,<-hvv,<-hyy] at hr
      rcases c36 hr with hr|rfl
      ·rcases c36 hr with hr|rfl
       ·exact hQm r hr
       ·exact hQm _ (by rw[hQ2];simp)
      ·exact hvm
     ·show (qa .i64 (qc zk 1)).toNat<zk.toNat;rw[wk,hk];omega
     ·cbv
end Go.Proofs.YtlofmibkljoapaaDoor.Vm
end

/- Part 20 of the proof. Conditions: none. -/
import Derived.Test.YtlofmibkljoapaaDoorO19
import Derived.Test.YtlofmibkljoapaaDoorO0
set_option linter.all false
set_option linter.unusedVariables false
set_option linter.unusedSimpArgs false
section
namespace Go.Proofs.YtlofmibkljoapaaDoor.Vm
open Go.RowKit
set_option maxRecDepth 100000
set_option maxHeartbeats 8000000
theorem a35 {α:Type} {l:List α} {k:Nat} {x:α} (h:l[k]?=some x):l.drop k=x::l.drop (k+1):=by
 obtain⟨hk,e⟩:=c25.1 h;rw[c2X hk,e]
theorem c0S (T:Ty->Ty->List (Int×Ty)->Option (List (Int×Ty))) (g s:Ty) (c0:List (Int×Ty)) (hg:Ok1 114 g) (hs:Ok1 114 s) (hc0:CB c0)
  (hT:∀f∈c6 g,∀x∈c6 s,∀c,CB c->j3 28 [.ag [.mp 0],.ag (ofD (cT f.2)),.ag (ofD (cT x.2))] [.mp 3 (esT c)] (a3j (T f.2 x.2 c))/\∀c',T f.2 x.2 c=some c'->CB c') :
  j3 50 [.ag [.mp 0],.ag (ofD (cT g)),.ag (ofD (cT s))] [.mp 3 (esT c0)] (a3j (a6a T g s c0)):=by
 have hF1:=b77 g hg.sm hg.1;have hF2:=b77 s hs.sm hs.1;have hcg:=J8 hg.shape hg.2.1;have hcs:=J8 hs.shape hs.2.1;rw[a2e hcg.1] at hF1;rw[a2e hcs.1] at hF2;have hgl:=L5 _ g (c2A _);have hsl:=L5 _ s (c2A _);have hgN:=hg.2.2;have hsN:=hs.2.2;obtain⟨gop,gnm,gn,gks,hgt⟩:∃op nm n ks,j0 g=.mk op nm n ks:=⟨_,_,_,_,Ty.eta _⟩;obtain⟨sop,snm,sn,sks,hst⟩:∃op nm n ks,j0 s=.mk op nm n ks:=⟨_,_,_,_,Ty.eta _⟩;have hrest:∀left:List (ByteArray×Ty),left.Sublist (c6 s)->Ok1 114 (x8 left (j0 s)):=λleft hl=>hs.rest hl
 have hjoin:∀left:List (ByteArray×Ty),left.Sublist (c6 s)->m6 45 [.one (.sl 5 (rF left)),.ag (cT (j0 s))] [.ag (cT (x8 left (j0 s)))]:=λleft hl=>by
  obtain⟨d0,d1,d2,d3,hd⟩:=d6 (j0 s);have hj:=a4Z (j0 s) left;rw[hd] at hj ⊢;rw[<-hj];refine b2E (rF left) d0 d1 d2 d3 (by rw[U3];have:=hl.length_le;omega) ?_ ?_
  ·rw[<-hd];exact a1F _ (c3E (b1m (a4O (j5 hs.shape).self)) hs.2.2)
  ·intro r hr;obtain⟨f,hf,rfl⟩:=c3k.1 hr;obtain⟨e0,e1,e2,e3,he⟩:=d6 f.2;refine⟨_,e0,e1,e2,e3,by show D.sc _::cT f.2=_;rw[he],?_⟩;rw[<-he];exact a1F _ (hs.field (hl.subset hf)).2.2
 have hrc:a6a T g s c0=(goC T (c6 g) (c6 s) [] c0).bind (b1n (j0 g) (j0 s)):=rfl;have hfm:∀f∈c6 g,Ok1 116 f.2:=λf hf=>hg.field hf
 generalize c6 g=gl at *;generalize c6 s=ml at *;obtain⟨Z,hR⟩:∃Z,Z=a6a T g s c0:=⟨_,rfl⟩;rw[<-hR] at hrc ⊢;have hcgt:cT (j0 g)=[.sc (.int .u8 gop),.sc (.string gnm),.sc (.int .i64 gn),.sl 4 (rT gks)]:=by rw[hgt,cT]
 have hcst:cT (j0 s)=[.sc (.int .u8 sop),.sc (.string snm),.sc (.int .i64 sn),.sl 4 (rT sks)]:=by rw[hst,cT]
 have hgo:(j0 g).op=gop:=by rw[hgt];rfl
 have hgn:(j0 g).n=gn:=by rw[hgt];rfl
 have hso:(j0 s).op=sop:=by rw[hst];rfl
 rw[hcgt] at hF1;rw[hcst] at hF2;simp only[hcst] at hjoin;obtain⟨Q,hQ⟩:∃Q,Q=a3j Z:=⟨_,rfl⟩;rw[<-hQ];obtain⟨G,hG⟩:∃G,G=rF gl:=⟨_,rfl⟩;obtain⟨M,hM⟩:∃M,M=rF ml:=⟨_,rfl⟩;rw[<-hG] at hF1;rw[<-hM] at hF2;obtain⟨g0,g1,g2,g3,hgg⟩:=d6 g;obtain⟨s0,s1,s2,s3,hss⟩:=d6 s;rw[hgg] at hF1 ⊢;rw[hss] at hF2 ⊢;obtain⟨E0,hE0⟩:∃E,E=esT c0:=⟨_,rfl⟩;rw[<-hE0];generalize rT gks=GK at *;generalize rT sks=SK at *;refine so9 Tryd.func50 rfl ?_;intro qa qb _ _ _ _ _ qh _ qj _ ql qm qo _ _ _ _ _ _ _ _ qy qz _ vc;intros;rename_i hA;cbv
 repeat (first|(refine c7 hA [] hF1 ⟨rfl,rfl,rfl,rfl,rfl,rfl,rfl⟩ ?_;rintro res os2 ⟨rfl,rfl⟩;cbv)|(refine c7 hA [] hF2 ⟨rfl,rfl,rfl,rfl,rfl,rfl,rfl⟩ ?_;rintro res os2 ⟨rfl,rfl⟩;cbv)|(refine a55 hA 11 73 true rfl ?_;cbv)|(with_reducible apply b5 hA;cbv))
 obtain⟨e1,e2,e3,e4,e5,e6,e7,e8,e9⟩:=j8 hA;obtain⟨s1',s2',s3',-⟩:=A3 hA;obtain⟨r1,r2,r3,r4⟩:=n9 hA;have hQ1:∀c',Z=some c'->Q [vb true] [.mp 3 (esT c')]:=λc' h=>by rw[hQ];exact .inl ⟨c',h,rfl,rfl⟩
 have hQ0:Z=none->∀es,Q [vb false] [.mp 3 es]:=λh es=>by rw[hQ];exact .inr ⟨h,rfl,es,rfl⟩
 clear hQ hR hF1 hF2;have hlG:qy G=(gl.length:Int):=by rw[r1,hG,U3]
 have hlM:qy M=(ml.length:Int):=by rw[r1,hM,U3]
 refine l9 hA (γ:=Int×Int×List (R×R)×List (List D)) (λx=>[(27,vi .i64 x.1),(12,vi .i64 x.2.1),(11,.own 8),(15,.jk),(17,.jk),(20,.jk),(22,.jk)]) (λx=>[(0,.mp 3 x.2.2.1),(8,.row true 73 x.2.2.2)])
  (λx=>∃(k i:Nat) (left:List (ByteArray×Ty)) (c:List (Int×Ty)),x.1=(k:Int)/\x.2.1=(i:Int)/\k<=ml.length/\i<=gl.length/\left.Sublist (ml.take k)/\CB c/\x.2.2.1=esT c/\x.2.2.2=rF left/\(goC T (gl.drop i) (ml.drop k) left c).bind (b1n (j0 g) (j0 s))=Z) (λx=>ml.length - x.1.toNat) (0,0,E0,[]) ?_ ?_ ?_
 ·exact⟨0,0,[],c0,rfl,rfl,c3d _,c3d _,List.nil_sublist _,hc0,hE0,rfl,hrc.symm⟩
 ·cbv
 ·intro x hinv;obtain⟨z,zi,E,L⟩:=x;cbv
  repeat ((with_reducible apply b5 hA);cbv)
  try simp (maxSteps:=4000000) only [nc] at *
  obtain⟨k,i,left,c,hz,hzi,hk,hi,hsub,hcb,hE,hL,hgo2⟩:=hinv;have hlt:qh z (qy M)=decide (k<ml.length):=by rw[e7,hlM,hz];exact c2Q.2 (by omega)
  have hll:left.length<=k:=by have:=hsub.length_le;rw[c3h] at this;omega
  have hLl:L.length<=1048576:=by rw[hL,U3];omega
  by_cases h9:k<ml.length
  ·rw[c2J h9] at hlt;obtain⟨x,hx⟩:∃x,ml[k]?=some x:=⟨_,c28 h9⟩;rw[a35 hx] at hgo2;have hxm:=c2F hx;obtain⟨xn,xt⟩:=x;obtain⟨x0,x1,x2,x3,hxx⟩:=d6 xt;have gx:qz M z=some [.sc (.string xn),x0,x1,x2,x3]:=by rw[r2,hz,c2E (by omega),hM,c2T,a7x hx,hxx]
   have hz1:qa .i64 (qb z 1)=((k+1:Nat):Int):=by rw[e1,e2,hz,IntWalk.i64_in _ (by omega)];omega
   have hmu:ml.length - (qa .i64 (qb z 1)).toNat<ml.length - z.toNat:=by rw[hz1,hz];omega
   have hadd:vc L [[.sc (.string xn),x0,x1,x2,x3]]=rF (left++[(xn,xt)]):=by rw[r4,a9V,hL,hxx]
   have hsub2:(left++[(xn,xt)]).Sublist (ml.take (k+1)):=by rw[a2X hx];exact hsub.append (List.Sublist.refl _)
   by_cases hil:i<gl.length
   ·obtain⟨f,hf⟩:∃f,gl[i]?=some f:=⟨_,c28 hil⟩;rw[a35 hf,goC] at hgo2;have hfmm:=c2F hf;obtain⟨fn,ft⟩:=f;obtain⟨f0,f1,f2,f3,hff⟩:=d6 ft;have gf:qz G zi=some [.sc (.string fn),f0,f1,f2,f3]:=by rw[r2,hzi,c2E (by omega),hG,c2T,a7x hf,hff]
    have t1:qh zi (qy G)=true:=by rw[e7,hlG,hzi];exact c2J (by omega)
    have t2:qj zi (qy G)=false:=by rw[e9,hlG,hzi,c2O];omega
    have t3:qm (qo fn) (qo xn)=K5 (fn,ft) (xn,xt):=by rw[s2',s3',s3'];rfl
    have t4:ql (qo fn) (qo xn)=decide (fn=xn):=by
     rw[s1',s3',s3']
     by_cases h:fn=xn
     ·rw[c2J h,h];exact c4a _
     ·rw[c2G h,c2O];exact λe=>h (a0F.1 e)
    rw[hlt];cases hlf:K5 (fn,ft) (xn,xt)
    ·rw[hlf] at t3 hgo2;rw[c2H (by simp)] at hgo2
     by_cases hne:fn=xn
     ·rw[c2J hne] at t4;rw[c2H (λh=>h hne)] at hgo2;obtain⟨hty,htc⟩:=hT (fn,ft) hfmm (xn,xt) hxm c hcb;simp only at hty hgo2 htc;rw[hff,hxx,<-hE] at hty;have hi1:qa .i64 (qb zi 1)=((i+1:Nat):Int):=by rw[e1,e2,hzi,IntWalk.i64_in _ (by omega)];omega
      iterate 2 (try cbv;repeat ((first|with_reducible apply b5 hA|rw[gx]|rw[gf]|rw[t1]|rw[t2]|rw[t3]|rw[t4]);cbv))
      try simp (maxSteps:=4000000) only [nc] at *
      refine c7 hA [0] hty ⟨rfl,rfl,rfl,rfl,rfl,rfl,rfl⟩ ?_
      rintro res os2 (⟨c',hc',rfl,rfl⟩|⟨hc',rfl,es',rfl⟩)
      ·rw[hc'] at hgo2;simp only[c3A] at hgo2;have hcb':=htc c' hc';obtain⟨E',hE'⟩:∃E,E=esT c':=⟨_,rfl⟩;rw[<-hE'];cbv
       repeat ((with_reducible apply b5 hA);cbv)
       refine⟨(qa .i64 (qb z 1),qa .i64 (qb zi 1),E',L),⟨k+1,i+1,left,c',hz1,hi1,h9,hil,hsub.trans (List.take_sublist_take_left (by omega)),hcb',hE',hL,hgo2⟩,hmu,?_⟩;cbv
      ·rw[hc'] at hgo2;replace hQ0:=hQ0 hgo2.symm es';cbv
       repeat ((with_reducible apply b5 hA);cbv)
       exact d7 hA [0] ⟨rfl,rfl,rfl,rfl,rfl,rfl,rfl,rfl⟩ hQ0
     ·rw[c2G hne] at t4;rw[c2E hne,<-a35 hf] at hgo2
      iterate 2 (try cbv;repeat ((first|with_reducible apply b5 hA|rw[gx]|rw[gf]|rw[t1]|rw[t2]|rw[t3]|rw[t4]|refine P5 hA true ?_|(refine K4 hA (by simp only[c2D,c2N];omega) ?_));cbv))
      try simp (maxSteps:=4000000) only [nc] at *
      refine⟨(qa .i64 (qb z 1),zi,E,vc L [[.sc (.string xn),x0,x1,x2,x3]]),⟨k+1,i,left++[(xn,xt)],c,hz1,hzi,h9,hi,hsub2,hcb,hE,hadd,hgo2⟩,hmu,?_⟩;cbv
    ·rw[hlf] at t3 hgo2;rw[c2E rfl] at hgo2;replace hQ0:=hQ0 hgo2.symm E
     iterate 2 (try cbv;repeat ((first|with_reducible apply b5 hA|rw[gx]|rw[gf]|rw[t1]|rw[t3]);cbv))
     try simp (maxSteps:=4000000) only [nc] at *
     exact d7 hA [0] ⟨rfl,rfl,rfl,rfl,rfl,rfl,rfl,rfl⟩ hQ0
   ·have hi0:gl.drop i=[]:=c3j (by omega);rw[hi0,goC] at hgo2;have t1:qh zi (qy G)=false:=by rw[e7,hlG,hzi];exact c2G (by omega)
    have t2:qj zi (qy G)=true:=by rw[e9,hlG,hzi,c3q];omega
    rw[hlt]
    iterate 2 (try cbv;repeat ((first|with_reducible apply b5 hA|rw[gx]|rw[t1]|rw[t2]|refine P5 hA true ?_|(refine K4 hA (by simp only[c2D,c2N];omega) ?_));cbv))
    try simp (maxSteps:=4000000) only [nc] at *
    refine⟨(qa .i64 (qb z 1),zi,E,vc L [[.sc (.string xn),x0,x1,x2,x3]]),⟨k+1,i,left++[(xn,xt)],c,hz1,hzi,h9,hi,hsub2,hcb,hE,hadd,by rw[hi0];exact hgo2⟩,hmu,?_⟩;cbv
  ·rw[c2G h9] at hlt;rw[c3j (show ml.length<=k by omega)] at hgo2;have hsubm:left.Sublist ml:=hsub.trans (List.take_sublist _ _);rw[hlt]
   by_cases hil:i<gl.length
   ·obtain⟨f,hf⟩:∃f,gl[i]?=some f:=⟨_,c28 hil⟩;rw[a35 hf,goC] at hgo2;have t1:qh zi (qy G)=true:=by rw[e7,hlG,hzi];exact c2J (by omega)
    replace hQ0:=hQ0 hgo2.symm E
    iterate 2 (try cbv;repeat ((first|with_reducible apply b5 hA|rw[t1]);cbv))
    try simp (maxSteps:=4000000) only [nc] at *
    exact d7 hA [0] ⟨rfl,rfl,rfl,rfl,rfl,rfl,rfl,rfl⟩ hQ0
   ·have hi0:gl.drop i=[]:=c3j (by omega);rw[hi0,goC] at hgo2;simp only[c3A] at hgo2;unfold b1n at hgo2;rw[hgo,hgn,hso] at hgo2;simp only at hgo2;have t1:qh zi (qy G)=false:=by rw[e7,hlG,hzi];exact c2G (by omega)
    have t10:qj gop 10=decide (gop=10):=e9 _ _
    by_cases h10:gop=10
    ·rw[c2J h10] at t10;rw[c2E h10] at hgo2;have hJ:=hjoin left hsubm;have hB:=b7L c gn (x8 left (j0 s)) hcb (.inr (hrest left hsubm));rw[<-hL] at hJ;rw[<-hE,hgo2] at hB;obtain⟨y0,y1,y2,y3,hyy⟩:=d6 (x8 left (j0 s));rw[hyy] at hJ hB
     iterate 2 (try cbv;repeat ((first|with_reducible apply b5 hA|rw[t1]|rw[t10]|refine c5 hA _ hJ ?_);cbv))
     try simp (maxSteps:=4000000) only [nc] at *
     refine c7 hA [0] hB ⟨rfl,rfl,rfl,rfl,rfl,rfl,rfl⟩ ?_
     rintro res os2 (⟨c',hc',rfl,rfl⟩|⟨hc',rfl,es',rfl⟩)
     ·replace hQ1:=hQ1 c' hc';generalize esT c'=E' at *;cbv
      repeat ((with_reducible apply b5 hA);cbv)
      exact d7 hA [0] ⟨rfl,rfl,rfl,rfl,rfl,rfl,rfl,rfl⟩ hQ1
     ·replace hQ0:=hQ0 hc' es';cbv
      repeat ((with_reducible apply b5 hA);cbv)
      exact d7 hA [0] ⟨rfl,rfl,rfl,rfl,rfl,rfl,rfl,rfl⟩ hQ0
    ·rw[c2G h10] at t10;rw[c2H h10] at hgo2;have hlL:qy L=(left.length:Int):=by rw[r1,hL,U3]
     have t0:qj (qy L) 0=decide (left=[]):=by
      rw[e9,hlL];cases left with
      | nil=>rfl
      | cons a l=>rw[c2G (by simp),c2O];simp only[c2D];omega
     have tt:qj gop sop=decide (gop=sop):=e9 _ _
     by_cases hle:left=[]
     ·rw[c2J hle] at t0
      by_cases hop:gop=sop
      ·rw[c2J hop] at tt;rw[c2E ⟨hle,hop⟩] at hgo2;replace hQ1:=hQ1 c hgo2.symm;rw[<-hE] at hQ1
       iterate 2 (try cbv;repeat ((first|with_reducible apply b5 hA|rw[t1]|rw[t10]|rw[t0]|rw[tt]);cbv))
       try simp (maxSteps:=4000000) only [nc] at *
       exact d7 hA [0] ⟨rfl,rfl,rfl,rfl,rfl,rfl,rfl,rfl⟩ hQ1
      ·rw[c2G hop] at tt;rw[c2H (λh=>hop h.2)] at hgo2;replace hQ0:=hQ0 hgo2.symm E
       iterate 2 (try cbv;repeat ((first|with_reducible apply b5 hA|rw[t1]|rw[t10]|rw[t0]|rw[tt]);cbv))
       try simp (maxSteps:=4000000) only [nc] at *
       exact d7 hA [0] ⟨rfl,rfl,rfl,rfl,rfl,rfl,rfl,rfl⟩ hQ0
     ·rw[c2G hle] at t0;rw[c2H (λh=>hle h.1)] at hgo2;replace hQ0:=hQ0 hgo2.symm E
      iterate 2 (try cbv;repeat ((first|with_reducible apply b5 hA|rw[t1]|rw[t10]|rw[t0]|rw[tt]);cbv))
      try simp (maxSteps:=4000000) only [nc] at *
      exact d7 hA [0] ⟨rfl,rfl,rfl,rfl,rfl,rfl,rfl,rfl⟩ hQ0
end Go.Proofs.YtlofmibkljoapaaDoor.Vm
end

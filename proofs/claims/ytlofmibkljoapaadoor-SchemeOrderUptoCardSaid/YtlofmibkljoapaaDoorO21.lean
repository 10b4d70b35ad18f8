/- Part 21 of the proof. Conditions: none. -/
import Derived.Test.YtlofmibkljoapaaDoorO20
import Derived.Test.YtlofmibkljoapaaDoorO0
set_option linter.all false
set_option linter.unusedVariables false
set_option linter.unusedSimpArgs false
section
namespace Go.Proofs.YtlofmibkljoapaaDoor.Vm
open Go.RowKit
set_option maxRecDepth 100000
set_option maxHeartbeats 8000000
theorem c1G {T:Ty->Ty->List (Int×Ty)->Option (List (Int×Ty))}:∀(ml gl left:List (ByteArray×Ty)) (c:List (Int×Ty)) (p:List (Int×Ty)×List (ByteArray×Ty)),
  (∀f∈gl,∀x∈ml,∀c c',CB c->T f.2 x.2 c=some c'->CB c')->CB c->goC T gl ml left c=some p->CB p.1/\∃r,p.2=left++r/\r.Sublist ml:=by
 intro ml
 induction ml with
 | nil =>
  intro gl left c p hT hc h;cases gl with
  | nil=>rw[goC] at h;injection h with h;subst h;exact⟨hc,[],by simp,List.Sublist.refl _⟩
  | cons g gl=>rw[goC] at h;cases h
 | cons x ml ih =>
  intro gl left c p hT hc h;cases gl with
  | nil =>
   rw[goC] at h;obtain⟨h1,r,h2,h3⟩:=ih [] (left++[x]) c p (λf hf=>by simp at hf) hc h;exact⟨h1,x::r,by rw[h2];simp,h3.cons_cons x⟩
  | cons g gl =>
   rw[goC] at h
   split at h
   ·cases h
   ·split at h
    ·obtain⟨h1,r,h2,h3⟩:=ih (g::gl) (left++[x]) c p (λf hf y hy=>hT f hf y (c26 _ hy)) hc h;exact⟨h1,x::r,by rw[h2];simp,h3.cons_cons x⟩
    ·cases h1:T g.2 x.2 c with
     | none=>rw[h1] at h;cases h
     | some c1 =>
      rw[h1] at h;have hc1:=hT g (c27 ..) x (c27 ..) c c1 hc h1;obtain⟨h2,r,h3,h4⟩:=ih gl left c1 p (λf hf y hy=>hT f (c26 _ hf) y (c26 _ hy)) hc1 h;exact⟨h2,r,h3,h4.cons x⟩
theorem b9o {T:Ty->Ty->List (Int×Ty)->Option (List (Int×Ty))} {g s:Ty} {c c':List (Int×Ty)} (hs:Ok1 114 s) (hT:∀f∈c6 g,∀x∈c6 s,∀c c',CB c->T f.2 x.2 c=some c'->CB c') (hc:CB c) (h:a6a T g s c=some c'):CB c':=by
 unfold a6a at h;cases h1:goC T (c6 g) (c6 s) [] c with
 | none=>rw[h1] at h;cases h
 | some p =>
  rw[h1] at h;obtain⟨h2,r,h3,h4⟩:=c1G _ _ _ _ _ hT hc h1;simp only[c3A,c3t] at h h3;unfold b1n at h
  split at h
  ·exact b1H h h2 (.inr (by rw[h3];exact hs.rest h4))
  ·split at h
   ·injection h with h;subst h;exact h2
   ·cases h
theorem Ok1.kid_row {t a:Ty} (h:Ok1 116 t) (h5:t.op=5\/t.op=6) (hk:t.kids=[a]):Ok1 114 a:=by
 obtain⟨k,hk1,h1,h2,h3,h4,h5',h6⟩:=f8 h.shape;have e:x6 t.op=some [114]:=by unfold x6;rw[c2H (by omega),c2H (by omega),c2E h5]
 rw[e] at hk1;injection hk1 with hk1;subst hk1;rw[hk,n6,c2B] at h6;exact h.part (a5c (by rw[hk];simp)) (a1r (by omega) h.2.1 a (by rw[hk];simp)) h6.1
theorem Ok1.kids_row {t:Ty} (h:Ok1 116 t) (h5:t.op=5\/t.op=6):∃a,t.kids=[a]:=by
 obtain⟨k,hk1,h1,h2,-⟩:=f8 h.shape;have e:x6 t.op=some [114]:=by unfold x6;rw[c2H (by omega),c2H (by omega),c2E h5]
 rw[e] at hk1;injection hk1 with hk1;subst hk1;exact c4D.1 h2
theorem Ok1.kids_fun {t:Ty} (h:Ok1 116 t) (h4:t.op=4):∃a b,t.kids=[a,b]/\Ok1 116 a/\Ok1 116 b:=by
 obtain⟨k,hk1,h1,h2,h3,h4',h5',h6⟩:=f8 h.shape;have e:x6 t.op=some [116,116]:=by rw[h4];decide
 rw[e] at hk1;injection hk1 with hk1;subst hk1
 obtain⟨a,b,hk⟩:∃a b,t.kids=[a,b]:=by
  match t.kids,h2 with
  | [a,b],_=>exact⟨a,b,rfl⟩
 rw[hk,n6,c2B,n6,c2B] at h6;have hc:=a1r (by omega) h.2.1;exact⟨a,b,hk,h.part (a5c (by rw[hk];simp)) (hc a (by rw[hk];simp)) h6.1,h.part (a5c (by rw[hk];simp)) (hc b (by rw[hk];simp)) h6.2.1⟩
theorem a7P:∀(m:Nat) (g s:Ty) (c c':List (Int×Ty)),Ok1 116 g->Ok1 116 s->CB c->F7 m g s c=some c'->CB c':=by
 intro m
 induction m with
 | zero=>intro g s c c' _ _ _ h;cases h
 | succ m ih =>
  intro g s c c' hg hs hc h;rw[F7] at h
  by_cases h7:g.op=7
  ·rw[c2E h7] at h;exact b1H h hc (.inl hs)
  ·rw[c2H h7] at h
   by_cases h56:g.op=5\/g.op=6
   ·rw[c2E h56] at h
    by_cases he:s.op=g.op
    ·rw[c2E he] at h;obtain⟨a,ha⟩:=hg.kids_row h56;obtain⟨b,hb⟩:=hs.kids_row (by omega);rw[ha,hb] at h;have ga:=hg.kid_row h56 ha;have sb:=hs.kid_row (by omega) hb;exact b9o sb (λf hf x hx c c' hc hm=>ih f.2 x.2 c c' (ga.field hf) (sb.field hx) hc hm) hc h
    ·rw[c2H he] at h;cases h
   ·rw[c2H h56] at h
    by_cases h4:g.op=4
    ·rw[c2E h4] at h
     by_cases he:s.op=4
     ·rw[c2E he] at h;obtain⟨a,b,hk,ha,hb⟩:=hg.kids_fun h4;obtain⟨x,y,hk2,hx,hy⟩:=hs.kids_fun he;rw[hk,hk2] at h;simp only at h;cases h1:F7 m a x c with
      | none=>rw[h1] at h;cases h
      | some c1 =>
       rw[h1] at h;exact ih b y c1 c' hb hy (ih a x c c1 ha hx hc h1) h
     ·rw[c2H he] at h;cases h
    ·rw[c2H h4] at h
     split at h
     ·injection h with h;subst h;exact hc
     ·cases h
theorem b9p:∀(m:Nat) (g s:Ty) (c:List (Int×Ty)),Ok1 116 g->Ok1 116 s->CB c->g.parts.length<=m->j3 28 [.ag [.mp 0],.ag (ofD (cT g)),.ag (ofD (cT s))] [.mp 3 (esT c)] (a3j (F7 m g s c)):=by
 intro m
 induction m with
 | zero=>intro g s c _ _ _ h;have:=l6 g;omega
 | succ m ih =>
  intro g s c hg hs hc hm;have hbd:=λ(_:g.op=7)=>b7L c g.n s hc (.inl hs)
  have hrw:g.op=5\/g.op=6->s.op=g.op->∃a b,g.kids=[a]/\s.kids=[b]/\j3 50 [.ag [.mp 0],.ag (ofD (cT a)),.ag (ofD (cT b))] [.mp 3 (esT c)] (a3j (a6a (F7 m) a b c)):=λh56 he=>by
   obtain⟨a,ha⟩:=hg.kids_row h56;obtain⟨b,hb⟩:=hs.kids_row (by omega);have ga:=hg.kid_row h56 ha;have sb:=hs.kid_row (by omega) hb;refine⟨a,b,ha,hb,c0S (F7 m) a b c ga sb hc λf hf x hx c hc=>⟨ih f.2 x.2 c (ga.field hf) (sb.field hx) hc ?_,λc' h=>a7P m f.2 x.2 c c' (ga.field hf) (sb.field hx) hc h⟩⟩;have h1:=x9 _ a (c2A _) f hf;have h2:=(o7 g).2 a (by rw[ha];simp);omega
  have hfn:g.op=4->s.op=4->∃a b x y,g.kids=[a,b]/\s.kids=[x,y]/\j3 28 [.ag [.mp 0],.ag (ofD (cT a)),.ag (ofD (cT x))] [.mp 3 (esT c)] (a3j (F7 m a x c))/\∀c',F7 m a x c=some c'->j3 28 [.ag [.mp 0],.ag (ofD (cT b)),.ag (ofD (cT y))] [.mp 3 (esT c')] (a3j (F7 m b y c')):=λh4 he=>by
   obtain⟨a,b,hk,ha,hb⟩:=hg.kids_fun h4;obtain⟨x,y,hk2,hx,hy⟩:=hs.kids_fun he;have h1:=(o7 g).2 a (by rw[hk];simp);have h2:=(o7 g).2 b (by rw[hk];simp);exact⟨a,b,x,y,hk,hk2,ih a x c ha hx hc (by omega),λc' h=>ih b y c' hb hy (a7P m a x c c' ha hx hc h) (by omega)⟩
  have hty:F7 (m+1) g s c=F7 (m+1) g s c:=rfl
  conv at hty=>rhs;rw[F7]
  generalize hZ:F7 (m+1) g s c=Z at *;obtain⟨Q,hQ⟩:∃Q,Q=a3j Z:=⟨_,rfl⟩;rw[<-hQ];have hQ1:∀c',Z=some c'->Q [vb true] [.mp 3 (esT c')]:=λc' h=>by rw[hQ];exact .inl ⟨c',h,rfl,rfl⟩
  have hQ0:Z=none->∀es,Q [vb false] [.mp 3 es]:=λh es=>by rw[hQ];exact .inr ⟨h,rfl,es,rfl⟩
  clear hQ hZ;obtain⟨E,hE⟩:∃E,E=esT c:=⟨_,rfl⟩;obtain⟨gop,gnm,gn,gks⟩:=g;obtain⟨sop,snm,sn,sks⟩:=s;simp only[Ty.op,Ty.n,Ty.kids] at hbd hrw hfn;rw[cT,cT] at *;rw[<-hE] at hbd hrw hfn ⊢;obtain⟨GK,hGK⟩:∃K,K=rT gks:=⟨_,rfl⟩;obtain⟨SK,hSK⟩:∃K,K=rT sks:=⟨_,rfl⟩;rw[<-hSK] at hbd;rw[<-hGK,<-hSK]
  by_cases h7:gop=7
  ·rw[c2E (show (Ty.mk gop gnm gn gks).op=7 from h7)] at hty;replace hbd:=hbd h7;rw[show (Ty.mk gop gnm gn gks).n=gn from rfl] at hty;rw[<-hty] at hbd;clear hrw hfn ih;refine so9 Tryd.func28 rfl λqa qb qc qd qe qf qg qh qi qj qk ql qm qo qp qq qs qt qu qv qw qx qy qz va vc vd ve vf vg vh vj vk vl vp vq vr vt vu vv vw vx vy hA=>?_
   cbv
   repeat ((with_reducible apply b5 hA);cbv)
   have t7:qj gop 7=true:=by rw[(j8 hA).2.2.2.2.2.2.2.2,c3q];exact h7
   rw[t7];cbv
   repeat ((with_reducible apply b5 hA);cbv)
   refine c7 hA [0] hbd ⟨rfl,rfl,rfl,rfl,rfl,rfl,rfl⟩ ?_
   rintro res os2 (⟨c',hc',rfl,rfl⟩|⟨hc',rfl,es',rfl⟩)
   ·replace hQ1:=hQ1 c' hc';generalize esT c'=E' at *;cbv
    repeat ((with_reducible apply b5 hA);cbv)
    exact d7 hA [0] ⟨rfl,rfl,rfl,rfl,rfl,rfl,rfl,rfl⟩ hQ1
   ·replace hQ0:=hQ0 hc' es';cbv
    repeat ((with_reducible apply b5 hA);cbv)
    exact d7 hA [0] ⟨rfl,rfl,rfl,rfl,rfl,rfl,rfl,rfl⟩ hQ0
  rw[c2H (show ¬(Ty.mk gop gnm gn gks).op=7 from h7)] at hty
  by_cases h56:gop=5\/gop=6
  ·rw[c2E (show (Ty.mk gop gnm gn gks).op=5\/(Ty.mk gop gnm gn gks).op=6 from h56)] at hty
   by_cases he:sop=gop
   ·rw[c2E (show (Ty.mk sop snm sn sks).op=(Ty.mk gop gnm gn gks).op from he)] at hty;obtain⟨a,b,ha,hb,hR⟩:=hrw h56 he;rw[show (Ty.mk gop gnm gn gks).kids=_ from ha,show (Ty.mk sop snm sn sks).kids=_ from hb] at hty;simp only at hty;rw[<-hty] at hR;obtain⟨a0,a1,a2,a3,haa⟩:=d6 a;obtain⟨b0,b1,b2,b3,hbb⟩:=d6 b;rw[haa,hbb] at hR;have ga:GK[0]?=some [a0,a1,a2,a3]:=by rw[hGK,ha,<-haa];rfl
    have gb:SK[0]?=some [b0,b1,b2,b3]:=by rw[hSK,hb,<-hbb];rfl
    clear hbd hfn ih hrw;refine so9 Tryd.func28 rfl λqa qb qc qd qe qf qg qh qi qj qk ql qm qo qp qq qs qt qu qv qw qx qy qz va vc vd ve vf vg vh vj vk vl vp vq vr vt vu vv vw vx vy hA=>?_
    cbv
    repeat ((with_reducible apply b5 hA);cbv)
    obtain⟨e1,e2,e3,e4,e5,e6,e7,e8,e9⟩:=j8 hA;obtain⟨r1,r2,-⟩:=n9 hA;have t7:qj gop 7=false:=by rw[e9,c2O];exact h7
    have t5:qj gop 5=decide (gop=5):=e9 _ _;have t6:qj gop 6=decide (gop=6):=e9 _ _;have ts:qj sop gop=true:=by rw[e9,c3q];exact he
    have x0:qz GK 0=some [a0,a1,a2,a3]:=by rw[r2,c2E (by omega)];exact ga
    have y0:qz SK 0=some [b0,b1,b2,b3]:=by rw[r2,c2E (by omega)];exact gb
    rw[t7]
    have run:decide (gop=5)=true\/(decide (gop=5)=false/\decide (gop=6)=true):=by
     by_cases h:gop=5
     ·exact .inl (c2J h)
     ·exact .inr ⟨c2G h,c2J (h56.resolve_left h)⟩
    rcases run with h|⟨h,h'⟩
    all_goals
     rw[h] at t5
     try rw[h'] at t6
     iterate 2 (try cbv;repeat ((first|with_reducible apply b5 hA|rw[t5]|rw[t6]|rw[ts]|rw[x0]|rw[y0]);cbv))
     try simp (maxSteps:=4000000) only [nc] at *
     refine c7 hA [0] hR ⟨rfl,rfl,rfl,rfl,rfl,rfl,rfl⟩ ?_
     rintro res os2 (⟨c',hc',rfl,rfl⟩|⟨hc',rfl,es',rfl⟩)
     ·replace hQ1:=hQ1 c' hc';generalize esT c'=E' at *;cbv
      repeat ((with_reducible apply b5 hA);cbv)
      exact d7 hA [0] ⟨rfl,rfl,rfl,rfl,rfl,rfl,rfl,rfl⟩ hQ1
     ·replace hQ0:=hQ0 hc' es';cbv
      repeat ((with_reducible apply b5 hA);cbv)
      exact d7 hA [0] ⟨rfl,rfl,rfl,rfl,rfl,rfl,rfl,rfl⟩ hQ0
   ·rw[c2H (show ¬(Ty.mk sop snm sn sks).op=(Ty.mk gop gnm gn gks).op from he)] at hty;replace hQ0:=hQ0 hty E;clear hbd hfn ih hrw;refine so9 Tryd.func28 rfl λqa qb qc qd qe qf qg qh qi qj qk ql qm qo qp qq qs qt qu qv qw qx qy qz va vc vd ve vf vg vh vj vk vl vp vq vr vt vu vv vw vx vy hA=>?_
    cbv
    repeat ((with_reducible apply b5 hA);cbv)
    obtain⟨e1,e2,e3,e4,e5,e6,e7,e8,e9⟩:=j8 hA;have t7:qj gop 7=false:=by rw[e9,c2O];exact h7
    have t5:qj gop 5=decide (gop=5):=e9 _ _;have t6:qj gop 6=decide (gop=6):=e9 _ _;have ts:qj sop gop=false:=by rw[e9,c2O];exact he
    rw[t7]
    have run:decide (gop=5)=true\/(decide (gop=5)=false/\decide (gop=6)=true):=by
     by_cases h:gop=5
     ·exact .inl (c2J h)
     ·exact .inr ⟨c2G h,c2J (h56.resolve_left h)⟩
    rcases run with h|⟨h,h'⟩
    all_goals
     rw[h] at t5
     try rw[h'] at t6
     iterate 2 (try cbv;repeat ((first|with_reducible apply b5 hA|rw[t5]|rw[t6]|rw[ts]);cbv))
     try simp (maxSteps:=4000000) only [nc] at *
     exact d7 hA [0] ⟨rfl,rfl,rfl,rfl,rfl,rfl,rfl,rfl⟩ hQ0
  rw[c2H (show ¬((Ty.mk gop gnm gn gks).op=5\/(Ty.mk gop gnm gn gks).op=6) from h56)] at hty
  by_cases h4:gop=4
  ·rw[c2E (show (Ty.mk gop gnm gn gks).op=4 from h4)] at hty
   by_cases he:sop=4
   ·rw[c2E (show (Ty.mk sop snm sn sks).op=4 from he)] at hty;obtain⟨a,b,x,y,ha,hb,hR,hR2⟩:=hfn h4 he;rw[show (Ty.mk gop gnm gn gks).kids=_ from ha,show (Ty.mk sop snm sn sks).kids=_ from hb] at hty;simp only at hty;obtain⟨a0,a1,a2,a3,haa⟩:=d6 a;obtain⟨b0,b1,b2,b3,hbb⟩:=d6 b;obtain⟨x0,x1,x2,x3,hxx⟩:=d6 x;obtain⟨y0,y1,y2,y3,hyy⟩:=d6 y;rw[haa,hxx] at hR;rw[hbb,hyy] at hR2;have ga:GK[0]?=some [a0,a1,a2,a3]:=by rw[hGK,ha,<-haa];rfl
    have gb:GK[1]?=some [b0,b1,b2,b3]:=by rw[hGK,ha,<-hbb];rfl
    have gx:SK[0]?=some [x0,x1,x2,x3]:=by rw[hSK,hb,<-hxx];rfl
    have gy:SK[1]?=some [y0,y1,y2,y3]:=by rw[hSK,hb,<-hyy];rfl
    clear hbd hfn ih hrw;generalize F7 m a x c=Z1 at *;refine so9 Tryd.func28 rfl λqa qb qc qd qe qf qg qh qi qj qk ql qm qo qp qq qs qt qu qv qw qx qy qz va vc vd ve vf vg vh vj vk vl vp vq vr vt vu vv vw vx vy hA=>?_
    cbv
    repeat ((with_reducible apply b5 hA);cbv)
    obtain⟨e1,e2,e3,e4,e5,e6,e7,e8,e9⟩:=j8 hA;obtain⟨r1,r2,-⟩:=n9 hA;have t7:qj gop 7=false:=by rw[e9,c2O];exact h7
    have t5:qj gop 5=false:=by rw[e9,c2O];omega
    have t6:qj gop 6=false:=by rw[e9,c2O];omega
    have t4:qj gop 4=true:=by rw[e9,c3q];exact h4
    have ts:qj sop 4=true:=by rw[e9,c3q];exact he
    have z0:qz GK 0=some [a0,a1,a2,a3]:=by rw[r2,c2E (by omega)];exact ga
    have z1:qz GK 1=some [b0,b1,b2,b3]:=by rw[r2,c2E (by omega)];exact gb
    have z2:qz SK 0=some [x0,x1,x2,x3]:=by rw[r2,c2E (by omega)];exact gx
    have z3:qz SK 1=some [y0,y1,y2,y3]:=by rw[r2,c2E (by omega)];exact gy
    rw[t7]
    iterate 2 (try cbv;repeat ((first|with_reducible apply b5 hA|rw[t5]|rw[t6]|rw[t4]|rw[ts]|rw[z0]|rw[z1]|rw[z2]|rw[z3]);cbv))
    try simp (maxSteps:=4000000) only [nc] at *
    refine c7 hA [0] hR ⟨rfl,rfl,rfl,rfl,rfl,rfl,rfl⟩ ?_
    rintro res os2 (⟨c1,hc1,rfl,rfl⟩|⟨hc1,rfl,es1,rfl⟩)
    ·replace hR2:=hR2 c1 hc1;rw[hc1] at hty;simp only[c3A] at hty;rw[<-hty] at hR2;generalize esT c1=E1 at *
     iterate 2 (try cbv;repeat ((first|with_reducible apply b5 hA|rw[t5]|rw[t6]|rw[t4]|rw[ts]|rw[z0]|rw[z1]|rw[z2]|rw[z3]);cbv))
     try simp (maxSteps:=4000000) only [nc] at *
     refine c7 hA [0] hR2 ⟨rfl,rfl,rfl,rfl,rfl,rfl,rfl⟩ ?_
     rintro res os2 (⟨c',hc',rfl,rfl⟩|⟨hc',rfl,es',rfl⟩)
     ·replace hQ1:=hQ1 c' hc';generalize esT c'=E' at *;cbv
      repeat ((with_reducible apply b5 hA);cbv)
      exact d7 hA [0] ⟨rfl,rfl,rfl,rfl,rfl,rfl,rfl,rfl⟩ hQ1
     ·replace hQ0:=hQ0 hc' es';cbv
      repeat ((with_reducible apply b5 hA);cbv)
      exact d7 hA [0] ⟨rfl,rfl,rfl,rfl,rfl,rfl,rfl,rfl⟩ hQ0
    ·rw[hc1] at hty;replace hQ0:=hQ0 hty es1;cbv
     repeat ((with_reducible apply b5 hA);cbv)
     exact d7 hA [0] ⟨rfl,rfl,rfl,rfl,rfl,rfl,rfl,rfl⟩ hQ0
   ·rw[c2H (show ¬(Ty.mk sop snm sn sks).op=4 from he)] at hty;replace hQ0:=hQ0 hty E;clear hbd hfn ih hrw;refine so9 Tryd.func28 rfl λqa qb qc qd qe qf qg qh qi qj qk ql qm qo qp qq qs qt qu qv qw qx qy qz va vc vd ve vf vg vh vj vk vl vp vq vr vt vu vv vw vx vy hA=>?_
    cbv
    repeat ((with_reducible apply b5 hA);cbv)
    obtain⟨e1,e2,e3,e4,e5,e6,e7,e8,e9⟩:=j8 hA;have t7:qj gop 7=false:=by rw[e9,c2O];exact h7
    have t5:qj gop 5=false:=by rw[e9,c2O];omega
    have t6:qj gop 6=false:=by rw[e9,c2O];omega
    have t4:qj gop 4=true:=by rw[e9,c3q];exact h4
    have ts:qj sop 4=false:=by rw[e9,c2O];exact he
    rw[t7]
    iterate 2 (try cbv;repeat ((first|with_reducible apply b5 hA|rw[t5]|rw[t6]|rw[t4]|rw[ts]);cbv))
    try simp (maxSteps:=4000000) only [nc] at *
    exact d7 hA [0] ⟨rfl,rfl,rfl,rfl,rfl,rfl,rfl,rfl⟩ hQ0
  rw[c2H (show ¬(Ty.mk gop gnm gn gks).op=4 from h4)] at hty;clear hbd hfn ih hrw
  have hfin:Q [vb (decide (sop=gop))] [.mp 3 E]:=by
   by_cases he:sop=gop
   ·rw[c2E (show (Ty.mk sop snm sn sks).op=(Ty.mk gop gnm gn gks).op from he)] at hty;rw[c2J he,hE];exact hQ1 c hty
   ·rw[c2H (show ¬(Ty.mk sop snm sn sks).op=(Ty.mk gop gnm gn gks).op from he)] at hty;rw[c2G he];exact hQ0 hty E
  refine so9 Tryd.func28 rfl λqa qb qc qd qe qf qg qh qi qj qk ql qm qo qp qq qs qt qu qv qw qx qy qz va vc vd ve vf vg vh vj vk vl vp vq vr vt vu vv vw vx vy hA=>?_
  cbv
  repeat ((with_reducible apply b5 hA);cbv)
  obtain⟨e1,e2,e3,e4,e5,e6,e7,e8,e9⟩:=j8 hA;have t7:qj gop 7=false:=by rw[e9,c2O];exact h7
  have t5:qj gop 5=false:=by rw[e9,c2O];omega
  have t6:qj gop 6=false:=by rw[e9,c2O];omega
  have t4:qj gop 4=false:=by rw[e9,c2O];exact h4
  have ts:qj sop gop=decide (sop=gop):=e9 _ _;rw[<-ts] at hfin;rw[t7]
  iterate 2 (try cbv;repeat ((first|with_reducible apply b5 hA|rw[t5]|rw[t6]|rw[t4]);cbv))
  try simp (maxSteps:=4000000) only [nc] at *
  exact d7 hA [0] ⟨rfl,rfl,rfl,rfl,rfl,rfl,rfl,rfl⟩ hfin
end Go.Proofs.YtlofmibkljoapaaDoor.Vm
end

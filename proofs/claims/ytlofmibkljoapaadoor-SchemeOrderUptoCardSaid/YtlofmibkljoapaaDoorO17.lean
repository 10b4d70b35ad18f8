/- Part 17 of the proof. Conditions: none. -/
import Derived.Test.YtlofmibkljoapaaDoorO12
import Derived.Test.YtlofmibkljoapaaDoorO13
import Derived.Test.YtlofmibkljoapaaDoorO14
import Derived.Test.YtlofmibkljoapaaDoorO0
set_option linter.all false
set_option linter.unusedVariables false
set_option linter.unusedSimpArgs false
section
namespace Go.Proofs.YtlofmibkljoapaaDoor.Vm
open Go.RowKit
set_option maxRecDepth 100000
set_option maxHeartbeats 4000000
theorem b7A {α:Type} {lt:α->α->Bool} (h:Swo lt) (a b:List α):i6 lt (i6 lt a++i6 lt b)=i6 lt (a++b) :=
 a4M h (J5 h _) ((J6 h _).trans ((J6 h a).append (J6 h b)))
theorem a3h (u:Ty):∀fs:List (ByteArray×Ty),c6 (x8 fs u)=fs++c6 u/\j0 (x8 fs u)=j0 u
 | []=>⟨rfl,rfl⟩
 | f::fs=>by
  obtain⟨h1,h2⟩:=a3h u fs;rw[A8];refine⟨?_,?_⟩
  ·rw[c6,c2E rfl,h1];rfl
  ·rw[j0,c2E rfl,h2]
theorem a9b (l:List (Int×Ty)):∀ts:List Ty,l7.putPs l ts=ts.map (l7 l)
 | []=>by rw[l7.putPs];rfl
 | t::ts=>by rw[l7.putPs,a9b l ts];rfl
theorem b1B (l:List (Int×Ty)) (u:Ty):∀fs:List (ByteArray×Ty),B4 l (x8 fs u)=x8 (fs.map λf=>(f.1,B4 l f.2)) (B4 l u)
 | []=>rfl
 | f::fs=>by
  rw[A8,B4,c2H (by decide),a7G,a7G,a7G,b1B l u fs];rfl
theorem b1C (l:List (Int×Ty)) (u:Ty):∀fs:List (ByteArray×Ty),l7 l (x8 fs u)=x8 (fs.map λf=>(f.1,l7 l f.2)) (l7 l u)
 | []=>rfl
 | f::fs=>by
  rw[A8,l7,c2H (by decide),l7.putPs,l7.putPs,l7.putPs,b1C l u fs];rfl
theorem a6y {l:List (Int×Ty)} {n:Int} {row:Bool} {p:Int×Ty} (h:ofS l n row=some p):p∈l/\a1z row p.2=true:=by
 unfold ofS at h;have h1:=c4h h;simp only[c2B] at h1;exact⟨c37 h,h1.2⟩
theorem a9c {row:Bool} {t:Ty} (h:a1z row t=true):c9 j4 t (if row=true then 114 else 116)=true:=by
 unfold a1z at h;cases row <;> simp only[d8,c2B] at h ⊢ <;> exact h.1
theorem a7L {W:ByteArray->Bool} {op:Int} {nm:ByteArray} {n:Int} {ks:List Ty} {s:Int} (h:c9 W (.mk op nm n ks) s=true):(op=7->s≠114)/\(op=10->s=114):=by
 obtain⟨k,hk,h1,_⟩:=f8 h;simp only[Ty.op] at h1;refine⟨λe=>?_,λe=>?_⟩
 ·subst e
  simpa using h1
 ·subst e
  simpa using h1
theorem a7M {W:ByteArray->Bool} {t:Ty} {s:Int} (h:c9 W t s=true) (hs:s≠114):c9 W t 116=true:=by
 obtain⟨k,hk,h1,h2,h3,h4,h5,h6⟩:=f8 h;obtain⟨op,nm,n,ks⟩:=t;refine a1b hk ?_ h2 h3 h4 h5 h6;have e:(s == 114)=false:=by simpa using hs
 rw[e] at h1;exact h1
theorem b7B {W:ByteArray->Bool} {t:Ty} {s:Int} (h:c9 W t 116=true) (hs:s≠114):c9 W t s=true:=by
 obtain⟨k,hk,h1,h2,h3,h4,h5,h6⟩:=f8 h;obtain⟨op,nm,n,ks⟩:=t;refine a1b hk ?_ h2 h3 h4 h5 h6;have e:(s == 114)=false:=by simpa using hs
 rw[e];exact h1
theorem b5F {W:ByteArray->Bool} (t:Ty):∀s,c9 W t s=true->∀x∈t.parts,∃c,c9 W x c=true:=by
 induction t using Ty.ind with
 | h t ih =>
  intro s h x hx;rw[d5] at hx
  rcases c2C.1 hx with rfl|hx
  ·exact⟨s,h⟩
  ·obtain⟨y,hy,hx⟩:=c2U.1 hx;obtain⟨k,hk,h1,h2,h3,h4,h5,h6⟩:=f8 h;obtain⟨c,hc⟩:=C1 W _ _ h6 y hy;exact ih y hy c hc x hx
theorem a4n {W:ByteArray->Bool} {t:Ty} {s:Int} (h:c9 W t s=true):b8Z t:=λx hx=>by
 obtain⟨c,hc⟩:=b5F t s h x hx;obtain⟨k,hk,h1,h2,_⟩:=f8 hc;rw[h2];unfold x6 at hk
 repeat' split at hk
 all_goals first|cases hk;simp|cases hk
theorem a33 (l:List (Int×Ty)) {op:Int} (nm:ByteArray) (n:Int) (ks:List Ty) (h:¬(op=7\/op=10)):B4 l (.mk op nm n ks)=.mk op nm n (ks.map (B4 l)):=by rw[B4,c2H h,a8W]
theorem T3 (l:List (Int×Ty)) {op:Int} (nm:ByteArray) (n:Int) (ks:List Ty) (h:¬(op=7\/op=10)):l7 l (.mk op nm n ks)=.mk op nm n (ks.map (l7 l)):=by rw[l7,c2H h,a9b]
theorem b1D {l:List (Int×Ty)} {op:Int} {nm:ByteArray} {n:Int} {ks:List Ty} {s:Int} {p:Int×Ty} (h:c9 j4 (.mk op nm n ks) s=true) (hop:op=7\/op=10) (hp:ofS l n (op == 10)=some p):c9 j4 p.2 s=true/\c9 j4 p.2 (if (op == 10)=true then 114 else 116)=true:=by
 have h1:=a9c (a6y hp).2;have h2:=a7L h;refine⟨?_,h1⟩
 rcases hop with rfl|rfl
 ·exact b7B h1 (h2.1 rfl)
 ·rw[h2.2 rfl];exact h1
theorem P9 (l:List (Int×Ty)) (t:Ty):∀s,c9 j4 t s=true->c9 j4 (B4 l t) s=true:=by
 induction t using Ty.ind with
 | h t ih =>
  intro s h;obtain⟨op,nm,n,ks⟩:=t
  by_cases hop:op=7\/op=10
  ·rw[B4,c2E hop];cases hp:ofS l n (op == 10) with
   | none=>exact h
   | some p=>exact(b1D h hop hp).1
  ·rw[a33 l nm n ks hop];obtain⟨k,hk,h1,h2,h3,h4,h5,h6⟩:=f8 h;exact a1b hk h1 (by rw[c3f];exact h2) h3 h4 h5 (a1d h6 λx hx k hxk=>ih x hx k hxk)
theorem Z9 (l:List (Int×Ty)) (t:Ty):∀s,c9 j4 t s=true->c9 j4 (l7 l t) s=true:=by
 induction t using Ty.ind with
 | h t ih =>
  intro s h;obtain⟨op,nm,n,ks⟩:=t
  by_cases hop:op=7\/op=10
  ·rw[l7,c2E hop];cases hp:ofS l n (op == 10) with
   | none=>exact h
   | some p=>exact y5 _ p.2 s (c2A _) (b1D h hop hp).1
  ·rw[T3 l nm n ks hop];obtain⟨k,hk,h1,h2,h3,h4,h5,h6⟩:=f8 h;exact a1b hk h1 (by rw[c3f];exact h2) h3 h4 h5 (a1d h6 λx hx k hxk=>ih x hx k hxk)
theorem a7N (l:List (Int×Ty)) {t:Ty} {s:Int} (h:c9 j4 t s=true) (hk:t.kids=[]) (h11:t.op≠11):l7 l t=b6 (B4 l t):=by
 obtain⟨op,nm,n,ks⟩:=t;obtain rfl:ks=[]:=hk
 by_cases hop:op=7\/op=10
 ·rw[l7,c2E hop,B4,c2E hop];cases hp:ofS l n (op == 10) with
  | none=>exact(Z3 h11 rfl).symm
  | some p=>rfl
 ·rw[T3 l nm n [] hop,a33 l nm n [] hop];exact(Z3 h11 rfl).symm
def ltA (x y:ByteArray×(Ty ⊕ Ty)):Bool:=K5 (x.1,a2P) (y.1,a2P)
theorem c2p:Swo ltA:=⟨λx=>a4R.irr _,λx y z=>a4R.tra _ _ _,λx y z=>a4R.neg _ _ _⟩
theorem a5I (l:List (Int×Ty)):∀(m:Nat) (t:Ty) (s:Int),t.parts.length<=m->c9 j4 t s=true->b6 (l7 l (b6 t))=b6 (B4 l t):=by
 intro m
 induction m with
 | zero=>intro t s h;have:=l6 t;omega
 | succ m ih =>
  intro t s hm h
  by_cases h11:t.op=11
  ·obtain⟨rfl,-⟩:=F8 h h11;have ht:=J7 h;obtain⟨hf,htl⟩:=v6 h;have hu:=P9 l _ _ htl;have hP:l7 l (j0 t)=b6 (B4 l (j0 t)):=a7N l htl ht.2.1 ht.1;have hne:=b5p (j5 h).self h11;rw[C9 h11,b1C,hP]
   conv=>rhs;rw[a0G h,b1B]
   obtain⟨u,hu0⟩:∃u,u=B4 l (j0 t):=⟨_,rfl⟩;rw[<-hu0] at hu ⊢;obtain⟨fs,hfs⟩:∃fs,fs=c6 t:=⟨_,rfl⟩
   have hih:∀f∈fs,b6 (l7 l (b6 f.2))=b6 (B4 l f.2):=λf hf'=>by
    rw[hfs] at hf';have h1:=x9 _ t (c2A _) f hf';exact ih f.2 116 (by omega) (hf f hf').2
   rw[<-hfs] at hne ⊢
   have op11:∀gs:List (ByteArray×Ty),gs≠[]->∀v:Ty,(x8 gs v).op=11:=λgs hg v=>by
    cases gs with
    | nil=>exact absurd rfl hg
    | cons g gs=>rfl
   have hs1:i6 K5 fs≠[]:=b6X hne;rw[C9 (op11 _ (by simpa using hs1) _),C9 (op11 _ (by simpa using hne) _)];rw[(a3h _ _).1,(a3h _ _).2,(a3h _ _).1,(a3h _ _).2,(U4 hu).1,(U4 hu).2]
   congr 1
   obtain⟨fu,hfu⟩:∃fu,fu=c6 u:=⟨_,rfl⟩
   have hidem:∀f∈fu,b6 (b6 f.2)=b6 f.2:=λf hf'=>by
    rw[hfu] at hf';exact y7 _ f.2 116 (c2A _) ((v6 hu).1 f hf').2
   rw[<-hfu];obtain⟨h1,hh1⟩:∃h1:ByteArray×(Ty ⊕ Ty)->ByteArray×Ty,h1=λx=>(x.1,match x.2 with|.inl t=>l7 l (b6 t)|.inr t=>b6 t):=⟨_,rfl⟩
   obtain⟨h2,hh2⟩:∃h2:ByteArray×(Ty ⊕ Ty)->ByteArray×Ty,h2=λx=>(x.1,match x.2 with|.inl t=>B4 l t|.inr t=>t):=⟨_,rfl⟩
   have hn1:∀x y,K5 (h1 x) (h1 y)=ltA x y:=λx y=>by rw[hh1];rfl
   have hn2:∀x y,K5 (h2 x) (h2 y)=ltA x y:=λx y=>by rw[hh2];rfl
   obtain⟨i1,hi1⟩:∃i1:List (ByteArray×(Ty ⊕ Ty)),i1=fs.map λf=>(f.1,.inl f.2):=⟨_,rfl⟩
   obtain⟨i2,hi2⟩:∃i2:List (ByteArray×(Ty ⊕ Ty)),i2=fu.map λf=>(f.1,.inr f.2):=⟨_,rfl⟩
   have s1:i6 ltA i1=(i6 K5 fs).map λf=>(f.1,.inl f.2):=by rw[hi1];exact Z2 (λ_ _=>rfl) fs
   have s2:i6 ltA i2=(i6 K5 fu).map λf=>(f.1,.inr f.2):=by rw[hi2];exact Z2 (λ_ _=>rfl) fu
   have eL:((i6 K5 fs).map λf=>(f.1,b6 f.2)).map (λf=>(f.1,l7 l f.2))++(i6 K5 fu).map cF=(i6 ltA i1++i6 ltA i2).map h1:=by
    rw[c3G,s1,s2,c3s,c3s,c3s,hh1];rfl
   have eR:(fs.map λf=>(f.1,B4 l f.2))++fu=(i1++i2).map h2:=by
    rw[c3G,hi1,hi2,c3s,c3s,hh2]
    congr 1
    conv=>lhs;rw[<-List.map_id fu]
    rfl
   rw[eL,eR,Z2 hn1,Z2 hn2,b7A c2p,c3s,c3s];refine c3n λx hx=>?_
   have hx:=A7 hx
   rcases c2W.1 hx with hx|hx
   ·rw[hi1] at hx;obtain⟨f,hf',rfl⟩:=c3k.1 hx;rw[hh1,hh2];exact congrArg (Prod.mk f.1) (hih f hf')
   ·rw[hi2] at hx;obtain⟨f,hf',rfl⟩:=c3k.1 hx;rw[hh1,hh2];exact congrArg (Prod.mk f.1) (hidem f hf')
  ·by_cases hop:t.op=7\/t.op=10
   ·have hk:=H4 h hop;rw[Z3 h11 hk,a7N l h hk h11];exact y7 _ _ s (c2A _) (P9 l t s h)
   ·rw[w6 h11];obtain⟨op,nm,n,ks⟩:=t;simp only[Ty.op,Ty.name,Ty.n,Ty.kids] at h11 hop ⊢;rw[T3 l nm n _ hop,a33 l nm n _ hop,w6 (t:=.mk op nm n _) h11,w6 (t:=.mk op nm n _) h11];simp only[Ty.op,Ty.name,Ty.n,Ty.kids];rw[c3s,c3s,c3s]
    congr 1
    obtain⟨k,hk,h1,h2,h3,h4,h5,h6⟩:=f8 h;refine c3n λx hx=>?_
    obtain⟨c,hc⟩:=C1 j4 _ _ h6 x hx;have:=(o7 (.mk op nm n ks)).2 x hx;exact ih x c (by omega) hc
section
def rb1 (j n:Nat) (x:V):V->V
 | .bs i m=>match B8 i j with|true=>(match B8 m n with|true=>x|false=>.bs i m)|false=>.bs i m
 | .ag _=>.jk
 | .tu _=>.jk
 | y=>y
section
variable {I0:Nat->Nat->Prop} {X:Nat->Prop} {w0:W0} {I:Nat->Nat->Prop} {g:Nat->Value} {s:S} {a:Act} {w:World}
theorem RelI.frzBs (h:RelI I0 X w0 I g s a w) {j n e:Nat} {cs:List V} {ds:List D} {rows:List (List D)} (hj:s.o[j]?=some (.box cs)) (hds:a2n s.o cs=some ds) (hr1:rows.flatten=ds) (hr2:rows.length=n) (hr3:∀r∈rows,r.length=(ty e).sz) :
  U8 I0 X w0 ⟨fT (rb1 j n (.d (.sl (ty e).sz rows))) s.t,(fO (rb1 j n (.d (.sl (ty e).sz rows))) j s.o).set j .dead⟩ a w:=by
 obtain⟨b,us,t,hg,hb,hus,h1s,hIb,hMb⟩:=h.obj j _ hj;have hlt:=(c25.1 hj).1;have hlj:A1 s j:=⟨_,hj,by simp⟩;have hat:=a3m h hus hds;have hI:∀b' k,I b' k->(λb' k=>I b' k\/(b'=b/\k<=us.length)) b' k:=λb k h=>.inl h
 have hul:us.length=rows.length * (ty e).sz:=by rw[hat.1,<-hr1,a0l hr3]
 have hsw:=λk=>a5H (I:=I) (I':=λb' k=>I b' k\/(b'=b/\k<=us.length)) (g:=g) (g':=g) (w:=w) (w':=w) (k:=k) (x:=.jk) hI (n7.refl I w) (λ_ _ _=>rfl) (λ_ _=>rfl) (λv _ _=>.jk v) (λ_ _ _ _=>rfl)
 have hf:∀v y,AtV I w g v y->AtV (λb' k=>I b' k\/(b'=b/\k<=us.length)) w g v (rb1 j n (.d (.sl (ty e).sz rows)) y):=λv y hy=>by
  cases y with
  | bs i m =>
   show AtV _ w g v (match B8 i j with|true=>(match B8 m n with|true=>.d (.sl (ty e).sz rows)|false=>.bs i m)|false=>.bs i m);have h2:AtV (λb' k=>I b' k\/(b'=b/\k<=us.length)) w g v (.bs i m):=hsw 0 v _ hy;cases e1:B8 i j
   ·exact h2
   ·cases e2:B8 m n
    ·exact h2
    ·obtain rfl:=w8.1 e1;obtain rfl:=w8.1 e2;obtain⟨b',cap,hgb,rfl,hcap⟩:=hy.unbs;have e3:b'=b:=b4w (hgb.symm.trans hg);subst e3;rw[<-hr2] at hcap ⊢;refine .d (.sl b' 0 cap _ rows us hcap ⟨us.length,by omega,.inr ⟨rfl,c2A _⟩⟩ hr3 hul (λq u hu=>?_) (by rw[hr1];exact(hat.mono hI (n7.refl I w)).2));rw[cell_of_row w b' (0+q) (us++t.2).toArray t.1 (0,0) hb];have hlt:=(c25.1 hu).1;simp only[c3W,c3v];rw[c2R hlt];exact hu
  | own i =>
   have h2:=hsw (i+1) v _ hy;have e1:B8 i (i+1)=false:=Y0.2 (by omega);have e2:sw1 (i+1) .jk (.own i)=.own i:=by show (match B8 i (i+1) with|true=>V.jk|false=>.own i)=_;rw[e1]
   rw[e2] at h2;exact h2
  | ag cs=>exact .jk _
  | tu cs=>exact .jk _
  | d x=>exact hsw 0 v _ hy
  | em=>exact hsw 0 v _ hy
  | ptr j off=>exact hsw 0 v _ hy
  | cl f ks=>exact hsw 0 v _ hy
  | el i x sz off=>exact hsw 0 v _ hy
  | ro cs off=>exact hsw 0 v _ hy
  | mp j=>exact hsw 0 v _ hy
  | jk=>exact .jk _
 refine⟨λb' k=>I b' k\/(b'=b/\k<=us.length),g,h.trade _ (λi=>i=j) (λx=>x=b) _ h.fr (n7.refl I w) (c2A _) hI (λx hx=>⟨j,rfl,hlj,by rw[hg,hx];rfl⟩) (λb' k h=>h.imp id λh=>h.1) hf (λ_ _ _ _ _=>rfl) (λi hi o ho=>⟨rfl,?_⟩) (λi hi o ho=>?_) (λi1 i2 x hi1 hi2 _ _ _ _=>hi1.trans hi2.symm) (λ_ _=>rfl) (by rw[c2K,G5];exact c2A _) (λi hi=>h.out i (by rw[c2K,G5] at hi;exact hi))⟩
 ·rw[c2L (c3P hi)] at ho;obtain⟨o0,h1,h2⟩:=a3d _ _ _ _ _ ho;exact⟨o0,h1,h2.imp id (Or.imp (λ⟨ks,a1,a2⟩=>⟨ks,_,a1,a2,λi hi=>c26 _ hi,λi _=>.inl rfl⟩) id)⟩
 ·subst hi;rw[c2S (by rw[G5];exact hlt)] at ho;obtain rfl:=Option.some.inj ho;exact⟨True.intro,λhd=>absurd rfl hd⟩
end
theorem v7.frzBs {s:S} {j n e:Nat} {cs:List V} {ds:List D} {rows:List (List D)} (hj:m5 s.o j=.box cs) (hds:a2n s.o cs=some ds) (hch:a0R (ty e).sz n ds=some rows):v7 s ⟨fT (rb1 j n (.d (.sl (ty e).sz rows))) s.t,A2 (fO (rb1 j n (.d (.sl (ty e).sz rows))) j s.o) j .dead⟩:=by
 rintro I0 X w0 a w ⟨I,g,h⟩
 rw[x5];obtain⟨h1,h2,h3⟩:=a15 hch;exact h.frzBs (j1 hj (by simp)) hds h1 h2 h3
theorem v7.drop (s:S) (k:Nat):v7 s ⟨s.t,A2 s.o k .dead⟩:=by
 rintro I0 X w0 a w ⟨I,g,h⟩
 rw[x5];refine⟨I,g,h.im,h.lt,h.fr,h.kp,by simp only[c2K];exact h.lo,h.st,λi o ho=>?_,λi j b hi hj=>h.dis i j b (a30 hi) (a30 hj),λi hi=>h.out i (by simpa using hi),h.tmp,h.dfr⟩
 by_cases hd:o=.dead
 ·subst hd;exact True.intro
 by_cases hik:k=i
 ·subst hik;rw[List.getElem?_set] at ho
  split at ho
  ·split at ho
   ·exact absurd (Option.some.inj ho).symm hd
   ·cases ho
  ·exact absurd rfl ‹¬_›
 ·simp only[c2L hik] at ho;exact h.obj i o ho
section
variable {qa:_} {qb:_} {qc:_} {qd:_} {qe:_} {qf:_} {qg:_} {qh:_} {qi:_} {qj:_} {qk:_} {ql:_} {qm:_} {qo:_} {qp:_} {qq:_} {qs:_} {qt:_} {qu:_} {qv:_} {qw:_} {qx:_} {qy:_} {qz:_} {va:_} {vc:_} {vd:_} {ve:_} {vf:_} {vg:_} {vh:_} {vj:_} {vk:_} {vl:_} {vp:_} {vq:_} {vr:_} {vt:_} {vu:_} {vv:_} {vw:_} {vx:_} {vy:_} (hA:Ar.mk qa qb qc qd qe qf qg qh qi qj qk ql qm qo qp qq qs qt qu qv qw qx qy qz va vc vd ve vf vg vh vj vk vl vp vq vr vt vu vv vw vx vy=a7)
include hA
theorem b43 {N:S->Prop} {s:S} (k:Nat) (h:N ⟨s.t,A2 s.o k .dead⟩):vv N s:=A4 hA _ (v7.drop s k) h
theorem b1E {N:S->Prop} {s:S} (j n e:Nat) {cs:List V} (ds:List D) (rows:List (List D)) (hj:m5 s.o j=.box cs) (hds:a2n s.o cs=some ds) (hch:a0R (ty e).sz n ds=some rows) (h:N ⟨fT (rb1 j n (.d (.sl (ty e).sz rows))) s.t,A2 (fO (rb1 j n (.d (.sl (ty e).sz rows))) j s.o) j .dead⟩):vv N s:=A4 hA _ (v7.frzBs hj hds hch) h
end
end
theorem b5G:a8m 44:=by
 intro n m x1 x2 x3 x4 y1 y2 y3 y4;have hcm:a2q n.toList m.toList=if Op.bytesLess n.toList m.toList=true then -1 else if Op.bytesLess m.toList n.toList=true then 1 else 0:=rfl
 have hne:Op.bytesLess n.toList m.toList=false->Op.bytesLess m.toList n.toList=(!(Op.bytesLess n.toList m.toList || n.toList == m.toList)):=λh=>by
  rw[h,Bool.false_or];cases h2:Op.bytesLess m.toList n.toList with
  | true =>
   have:n.toList≠m.toList:=λe=>by
    rw[e] at h2 h;rw[h2] at h;cases h
   rw[c2O.2 this];rfl
  | false =>
   have h3:=a5D _ _ h h2;rw[h3,c4a];rfl
 generalize a2q n.toList m.toList=cv at *;refine Y8 Tryd.func44 rfl ?_;intro _ _ _ _ _ _ _ _ _ _ _ ql qm qo;intros;rename_i hA;obtain⟨s1,s2,s3,-⟩:=A3 hA;have t1:qm (qo n) (qo m)=Op.bytesLess n.toList m.toList:=by rw[s2,s3,s3]
 have t2:ql (qo n) (qo m)=(n.toList == m.toList):=by rw[s1,s3,s3]
 cases hb:Op.bytesLess n.toList m.toList with
 | true =>
  rw[hb] at t1 hcm;rw[c2E rfl] at hcm;subst hcm
  iterate 2 (try cbv;repeat ((first|with_reducible apply b5 hA|rw[t1]);cbv))
 | false =>
  have hne:=hne hb;rw[hb] at t1 hcm hne;rw[c2H (by simp),hne] at hcm;cases he:(n.toList == m.toList) with
  | true =>
   rw[he] at t2 hcm
   simp at hcm
   subst hcm
   iterate 2 (try cbv;repeat ((first|with_reducible apply b5 hA|rw[t1]|rw[t2]);cbv))
  | false =>
   rw[he] at t2 hcm
   simp at hcm
   subst hcm
   iterate 2 (try cbv;repeat ((first|with_reducible apply b5 hA|rw[t1]|rw[t2]);cbv))
end Go.Proofs.YtlofmibkljoapaaDoor.Vm
end

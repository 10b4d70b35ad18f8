/- Part 15 of the proof. Conditions: none. -/
import Derived.Test.YtlofmibkljoapaaDoorO12
import Derived.Test.YtlofmibkljoapaaDoorO0
set_option linter.all false
set_option linter.unusedVariables false
set_option linter.unusedSimpArgs false
section
namespace Go.Proofs.YtlofmibkljoapaaDoor.Vm
open Go.RowKit
set_option maxRecDepth 100000
set_option maxHeartbeats 4000000
section
variable {W:ByteArray->Bool}
def v8 (f:Int->Int):Ty->Ty
 | .mk op nm n ks=>.mk op nm (if op=7\/op=10 then f n else n) (renL f ks)
where renL (f:Int->Int):List Ty->List Ty
 | []=>[]
 | t::ts=>v8 f t::renL f ts
theorem a6x (f:Int->Int):∀ks:List Ty,v8.renL f ks=ks.map (v8 f)
 | []=>rfl
 | k::ks=>by rw[v8.renL,a6x f ks];rfl
theorem Z8 (f:Int->Int) (t:Ty):v8 f t=.mk t.op t.name (if t.op=7\/t.op=10 then f t.n else t.n) (t.kids.map (v8 f)):=by
 obtain⟨op,nm,n,ks⟩:=t;rw[v8,a6x];rfl
theorem a3f (f:Int->Int) (t:Ty):(v8 f t).op=t.op:=by rw[Z8];rfl
theorem b1A (f:Int->Int) (t:Ty):(v8 f t).name=t.name:=by rw[Z8];rfl
theorem a8X (f:Int->Int) (t:Ty):(v8 f t).n=if t.op=7\/t.op=10 then f t.n else t.n:=by rw[Z8];rfl
theorem a7I (f:Int->Int) (t:Ty):(v8 f t).kids=t.kids.map (v8 f):=by rw[Z8];rfl
theorem a8Y (f:Int->Int) (t:Ty):r9 (v8 f t)=r9 t:=by unfold r9;rw[a3f]
theorem a31 (t:Ty):t∈t.parts:=by rw[r6];exact c27 ..
theorem M4 {t x v:Ty} (h:x∈t.kids) (hv:v∈x.parts):v∈t.parts:=by rw[d5];exact c26 _ (c2U.2 ⟨x,h,hv⟩)
theorem a7J {α β:Type} {f g:α->List β}:∀ {l:List α},(∀x∈l,f x=g x)->l.flatMap f=l.flatMap g
 | [],_=>rfl
 | x::l,h=>by rw[c3H,c3H,h x (c27 ..),a7J λy hy=>h y (c26 _ hy)]
theorem a32 (f:Int->Int) (t:Ty):(v8 f t).parts=t.parts.map (v8 f):=by
 induction t using Ty.ind with
 | h t ih =>
  rw[d5,d5 t,c2Y,a7I,List.flatMap_map,List.map_flatMap]
  congr 1
  exact a7J λx hx=>ih x hx
theorem b9e (f:Int->Int) (t:Ty):(v8 f t).parts.length=t.parts.length:=by rw[a32,c3f]
theorem b5D (f:Int->Int) (t:Ty):∀s,c9 W t s=true->(∀v∈t.parts,r9 v=true->0<=f v.n)->c9 W (v8 f t) s=true:=by
 induction t using Ty.ind with
 | h t ih =>
  intro s h hf;obtain⟨k,h0,h1,h2,h3,h4,h5,h6⟩:=f8 h;rw[Z8];refine a1b h0 h1 (by rw[c3f];exact h2) h3 ?_ ?_ (a1d h6 λx hx k hk=>ih x hx k hk λv hv=>hf v (M4 hx hv))
  ·by_cases hv:t.op=7\/t.op=10
   ·rw[c2E hv];exact hf t (a31 t) (j9.2 hv)
   ·rw[c2H hv];exact h4
  ·by_cases hv:t.op=7\/t.op=10
   ·rcases hv with h|h
    ·exact .inl h
    ·exact .inr (.inl h)
   ·rw[c2H hv];exact h5
theorem b0i (f:Int->Int) (u:Ty):∀fs:List (ByteArray×Ty),v8 f (x8 fs u)=x8 (fs.map λp=>(p.1,v8 f p.2)) (v8 f u)
 | []=>rfl
 | p::fs=>by
  have hv:¬((Ty.mk 11 p.1 0 [p.2,x8 fs u]).op=7\/(Ty.mk 11 p.1 0 [p.2,x8 fs u]).op=10):=by show ¬((11:Int)=7\/(11:Int)=10);decide
  rw[c2Y,A8,A8,Z8,c2H hv];simp only[Ty.op,Ty.name,Ty.n,Ty.kids,c2Y,c4d];rw[b0i f u fs]
theorem a8Z (f:Int->Int):∀(m:Nat) (t:Ty) (s:Int),t.parts.length<=m->c9 W t s=true->b6 (v8 f t)=v8 f (b6 t):=by
 intro m
 induction m with
 | zero=>intro t s h;have:=l6 t;omega
 | succ m ih =>
  intro t s hm h
  by_cases h11:t.op=11
  ·obtain⟨rfl,-⟩:=F8 h h11;have ht:=J7 h;have hF:=v6 h
   have e:v8 f t=x8 ((c6 t).map λp=>(p.1,v8 f p.2)) (v8 f (j0 t)):=by
    conv=>lhs;rw[a0G h,b0i]
   have hu:(v8 f (j0 t)).op≠11:=by rw[a3f];exact ht.1
   have hf:=G2 hu ((c6 t).map λp=>(p.1,v8 f p.2));rw[C9 (by rw[a3f];exact h11),e,hf.1,hf.2,C9 h11,b0i,Z2 (lt:=K5) (lt2:=K5) (f:=λp:ByteArray×Ty=>(p.1,v8 f p.2)) (λ_ _=>rfl),c3s,c3s]
   congr 1
   refine c3n λp hp=>?_
   have hp:=A7 hp;have:=x9 _ t (c2A _) p hp;exact congrArg (Prod.mk p.1) (ih p.2 116 (by omega) (hF.1 p hp).2)
  ·obtain⟨k,h0,h1,h2,h3,h4,h5,h6⟩:=f8 h;rw[w6 (by rw[a3f];exact h11),w6 h11,a3f,b1A,a7I,a8X,Z8];simp only[Ty.op,Ty.name,Ty.n,Ty.kids];rw[c3s,c3s]
   congr 1
   refine c3n λx hx=>?_
   obtain⟨c,hc⟩:=C1 W _ _ h6 x hx;have:=(o7 t).2 x hx;exact ih x c (by omega) hc
theorem b78 (f g:Int->Int) (t:Ty):v8 g (v8 f t)=v8 (λn=>g (f n)) t:=by
 induction t using Ty.ind with
 | h t ih =>
  rw[Z8 g,a3f,b1A,a8X,a7I,c3s,Z8 (λn=>g (f n))]
  congr 1
  ·by_cases hv:t.op=7\/t.op=10
   ·rw[c2E hv,c2E hv,c2E hv]
   ·rw[c2H hv,c2H hv,c2H hv]
  ·exact c3n λx hx=>ih x hx
theorem b5E {f g:Int->Int} (t:Ty):(∀v∈t.parts,r9 v=true->f v.n=g v.n)->v8 f t=v8 g t:=by
 induction t using Ty.ind with
 | h t ih =>
  intro h;rw[Z8 f,Z8 g]
  congr 1
  ·by_cases hv:t.op=7\/t.op=10
   ·rw[c2E hv,c2E hv];exact h t (a31 t) (j9.2 hv)
   ·rw[c2H hv,c2H hv]
  ·exact c3n λx hx=>ih x hx λv hv=>h v (M4 hx hv)
theorem b9K {t u:Ty} (h1:t.op=u.op) (h2:t.name=u.name) (h3:t.n=u.n) (h4:t.kids=u.kids):t=u:=by rw[t.eta,u.eta,h1,h2,h3,h4]
theorem a9a (f:Int->Int):∀(ts:List Ty) (acc:List Int),(∀a∈acc,∀v∈ts,r9 v=true->f a=f v.n->a=v.n)->(∀v∈ts,∀w∈ts,r9 v=true->r9 w=true->f v.n=f w.n->v.n=w.n)->y6 (ts.map (v8 f)) (acc.map f)=(y6 ts acc).map f
 | [],acc,_,_=>rfl
 | t::ts,acc,h1,h2=>by
  have key:(if r9 (v8 f t)=true/\(v8 f t).n∉acc.map f then acc.map f++[(v8 f t).n] else acc.map f)=(if r9 t=true/\t.n∉acc then acc++[t.n] else acc).map f:=by
   rw[a8Y]
   by_cases hv:r9 t=true
   ·have hn:(v8 f t).n=f t.n:=by rw[a8X,c2E (j9.1 hv)]
    rw[hn]
    by_cases hm:t.n∈acc
    ·rw[c2H (λh=>h.2 (c3k.2 ⟨_,hm,rfl⟩)),c2H (λh=>h.2 hm)]
    ·have hm2:f t.n∉acc.map f:=λh=>by
      obtain⟨a,ha,e⟩:=c3k.1 h;have e2:=h1 a ha t (c27 ..) hv e;rw[e2] at ha;exact hm ha
     rw[c2E ⟨hv,hm2⟩,c2E ⟨hv,hm⟩,c3G];rfl
   ·rw[c2H (λh=>hv h.1),c2H (λh=>hv h.1)]
  rw[c2Y,y6,y6,key];refine a9a f ts _ (λa ha v hv iv e=>?_) λv hv w hw=>h2 v (c26 _ hv) w (c26 _ hw)
  split at ha
  ·rename_i hc
   rcases c2W.1 ha with ha|ha
   ·exact h1 a ha v (c26 _ hv) iv e
   ·rw[c4V] at ha;subst ha;exact h2 t (c27 ..) v (c26 _ hv) hc.1 iv e
  ·exact h1 a ha v (c26 _ hv) iv e
theorem b42 (f:Int->Int) (x:Int):∀(l:List Int) (k:Nat),(∀a∈l,f a=f x->a=x)->atS (l.map f) (f x) k=atS l x k
 | [],_,_=>rfl
 | y::l,k,h=>by
  rw[c2Y,atS,atS]
  by_cases hy:y=x
  ·rw[c2E (by rw[hy]),c2E hy]
  ·rw[c2H (λe=>hy (h y (c27 ..) e)),c2H hy,b42 f x l (k+1) λa ha=>h a (c26 _ ha)]
theorem a3g:∀(l:List Int) (x:Int) (k:Nat),x∈l->∃i:Nat,atS l x k=((k+i:Nat):Int)/\l[i]?=some x
 | [],_,_,h=>by cases h
 | y::l,x,k,h=>by
  rw[atS]
  by_cases hy:y=x
  ·rw[c2E hy];exact⟨0,rfl,by rw[hy];rfl⟩
  ·rw[c2H hy];obtain⟨i,h1,h2⟩:=a3g l x (k+1) ((c2C.1 h).resolve_left λe=>hy e.symm);exact⟨i+1,by rw[h1];congr 1;omega,h2⟩
theorem b9f {l:List Int} {x y:Int} (hx:x∈l) (hy:y∈l) (h:atS l x 0=atS l y 0):x=y:=by
 obtain⟨i,h1,h2⟩:=a3g l x 0 hx;obtain⟨j,h3,h4⟩:=a3g l y 0 hy;have e:i=j:=by rw[h1,h3] at h;omega
 subst e;rw[h2] at h4;injection h4
theorem c0M {l:List Int} {x:Int} (hx:x∈l):atS l x 0<(l.length:Int):=by
 obtain⟨i,h1,h2⟩:=a3g l x 0 hx;have:=(c25.1 h2).1;rw[h1];omega
def N4 (t:Ty):Ty:=v8 (λn=>atS (B7 t) n 0) (b6 t)
theorem a7K:∀(ts:List Ty) (acc:List Int),(∀a∈acc,a∈y6 ts acc)/\∀v∈ts,r9 v=true->v.n∈y6 ts acc
 | [],acc=>⟨λa h=>h,λv h=>by cases h⟩
 | t::ts,acc=>by
  rw[y6];obtain⟨h1,h2⟩:=a7K ts (if r9 t=true/\t.n∉acc then acc++[t.n] else acc);refine⟨λa ha=>h1 a ?_,λv hv iv=>?_⟩
  ·split
   ·exact c33 _ ha
   ·exact ha
  ·rcases c2C.1 hv with rfl|hv
   ·refine h1 v.n ?_
    by_cases hm:v.n∈acc
    ·rw[c2H (λh=>h.2 hm)];exact hm
    ·rw[c2E ⟨iv,hm⟩];simp
   ·exact h2 v hv iv
theorem b0j (t:Ty):∀v∈(b6 t).parts,r9 v=true->v.n∈B7 t:=(a7K _ _).2
theorem b9g {f:Int->Int} {g:Ty} {s:Int} (h:c9 W g s=true) (hc:b6 g=g) (hf:∀v∈g.parts,∀w∈g.parts,r9 v=true->r9 w=true->f v.n=f w.n->v.n=w.n) (hv:∀n∈B7 g,∃v∈g.parts,r9 v=true/\v.n=n):N4 (v8 f g)=N4 g:=by
 have e:b6 (v8 f g)=v8 f g:=by rw[a8Z f _ g s (c2A _) h,hc]
 have ev:B7 (v8 f g)=(B7 g).map f:=by
  unfold B7;rw[e,a32,hc];exact a9a f g.parts [] (λa ha=>by cases ha) hf
 unfold N4;rw[e,ev,b78,hc];refine b5E g λv hm iv=>b42 f v.n _ 0 λa ha ea=>?_
 obtain⟨w,hw,iw,rfl⟩:=hv a ha;exact hf w hw v hm iw iv ea
end
end Go.Proofs.YtlofmibkljoapaaDoor.Vm
end

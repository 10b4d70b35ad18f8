/- Part 8 of the proof. Conditions: none. -/
import Derived.Test.YtlofmibkljoapaaDoorO1
import Derived.Test.YtlofmibkljoapaaDoorO4
import Derived.IntWalk
import Derived.Test.YtlofmibkljoapaaDoorO0
set_option linter.all false
set_option linter.unusedVariables false
set_option linter.unusedSimpArgs false
section
namespace Go.Proofs.YtlofmibkljoapaaDoor.Vm
open Go.RowKit
set_option maxRecDepth 100000
set_option maxHeartbeats 4000000
def rF (fs:List (ByteArray×Ty)):List (List D):=fs.map λf=>.sc (.string f.1)::cT f.2
theorem U3 (fs:List (ByteArray×Ty)):(rF fs).length=fs.length:=by rw[rF,c3f]
theorem a7x {fs:List (ByteArray×Ty)} {k:Nat} {x:ByteArray×Ty} (h:fs[k]?=some x):(rF fs)[k]?=some (.sc (.string x.1)::cT x.2):=by rw[rF,c3i,h];rfl
theorem d6 (t:Ty):∃c0 c1 c2 c3,cT t=[c0,c1,c2,c3]:=by obtain⟨op,nm,n,ks⟩:=t;exact⟨_,_,_,_,by rw[cT]⟩
end Go.Proofs.YtlofmibkljoapaaDoor.Vm
end
section
namespace Go.Proofs.YtlofmibkljoapaaDoor
open Go.RowKit
set_option maxRecDepth 100000
set_option maxHeartbeats 4000000
section
section
variable {α:Type}
structure Swo (lt:α->α->Bool):Prop where
 irr:∀x,lt x x=false
 tra:∀x y z,lt x y=true->lt y z=true->lt x z=true
 neg:∀x y z,lt x y=false->lt y z=false->lt x z=false
variable {lt:α->α->Bool}
def eqv (lt:α->α->Bool) (x y:α):Bool:=!lt x y && !lt y x
def N5 (lt:α->α->Bool) (l:List α):Prop:=l.Pairwise λx y=>lt y x=false
def W8 (lt:α->α->Bool) (l m:List α):Prop:=∀x,l.filter (eqv lt x)=m.filter (eqv lt x)
theorem W8.refl (l:List α):W8 lt l l:=λ_=>rfl
theorem W8.symm {l m:List α} (h:W8 lt l m):W8 lt m l:=λx=>(h x).symm
theorem W8.trans {l m n:List α} (h:W8 lt l m) (k:W8 lt m n):W8 lt l n:=λx=>(h x).trans (k x)
theorem W8.append {l m l' m':List α} (h:W8 lt l l') (k:W8 lt m m'):W8 lt (l++m) (l'++m'):=λx=>by rw[c44,c44,h x,k x]
theorem b1b (h:Swo lt) (x:α):eqv lt x x=true:=by unfold eqv;rw[h.irr];rfl
theorem W8.mem (h:Swo lt) {l m:List α} (s:W8 lt l m) {x:α} (hx:x∈l):x∈m:=by
 have:x∈l.filter (eqv lt x):=c3U.2 ⟨hx,b1b h x⟩;rw[s x] at this;exact(c3U.1 this).1
theorem W8.swap (h:Swo lt) {u v:List α} (huv:∀x∈u,∀y∈v,lt y x=true):W8 lt (u++v) (v++u):=λz=>by
 rw[c44,c44]
 by_cases hu:u.filter (eqv lt z)=[]
 ·rw[hu];simp
 ·by_cases hv:v.filter (eqv lt z)=[]
  ·rw[hv];simp
  ·exfalso;obtain⟨x,hx⟩:=List.exists_mem_of_ne_nil _ hu;obtain⟨y,hy⟩:=List.exists_mem_of_ne_nil _ hv;obtain⟨hx1,hx2⟩:=c3U.1 hx;obtain⟨hy1,hy2⟩:=c3U.1 hy;have h1:=huv x hx1 y hy1;unfold eqv at hx2 hy2;simp only[c2B,c49] at hx2 hy2;have:=h.neg y z x hy2.2 hx2.1;rw[h1] at this;cases this
theorem a7y (h:Swo lt):∀ {l m:List α},N5 lt l->N5 lt m->W8 lt l m->l=m
 | [],m,_,_,s=>by
  cases m with
  | nil=>rfl
  | cons y m=>exact absurd (s.symm.mem h (c27 ..)) (by simp)
 | x::l,[],_,_,s=>absurd (s.mem h (c27 ..)) (by simp)
 | x::l,y::m,hl,hm,s=>by
  have hxm:=s.mem h (c27 (a:=x) (l:=l));have hyl:=s.symm.mem h (c27 (a:=y) (l:=m))
  have hlx:∀z∈x::l,lt z x=false:=λz hz=>by
   rcases c2C.1 hz with rfl|hz
   ·exact h.irr _
   ·exact(c3l.1 hl).1 z hz
  have hmy:∀z∈y::m,lt z y=false:=λz hz=>by
   rcases c2C.1 hz with rfl|hz
   ·exact h.irr _
   ·exact(c3l.1 hm).1 z hz
  have e1:eqv lt x y=true:=by unfold eqv;rw[hmy x hxm,hlx y hyl];rfl
  have s1:=s x;rw[c4y,c4y,b1b h x,e1] at s1;simp only[c4I] at s1;injection s1 with s1 s2;subst s1
  congr 1
  refine a7y h (c3l.1 hl).2 (c3l.1 hm).2 λz=>?_
  have sz:=s z;rw[c4y,c4y] at sz
  by_cases hz:eqv lt z x=true
  ·rw[c2E hz,c2E hz] at sz;injection sz
  ·rw[c2H hz,c2H hz] at sz;exact sz
def W5 (lt:α->α->Bool) (x:α):List α->List α
 | []=>[x]
 | y::l=>if lt x y=true then x::y::l else y::W5 lt x l
def i6 (lt:α->α->Bool) (l:List α):List α:=l.foldl (λacc x=>W5 lt x acc) []
theorem b3W (h:Swo lt) (x:α):∀l:List α,N5 lt l->W8 lt (W5 lt x l) (l++[x])
 | [],_=>.refl _
 | y::l,hl=>by
  unfold W5
  by_cases hx:lt x y=true
  ·rw[c2E hx]
   have:W8 lt ([x]++(y::l)) ((y::l)++[x]):=(W8.swap h (u:=y::l) (v:=[x]) λz hz w hw=>by
    simp at hw
    subst hw
    rcases c2C.1 hz with rfl|hz
    ·exact hx
    ·have h1:=(c3l.1 hl).1 z hz;cases hwz:lt w z
     ·have:=h.neg w z y hwz h1;rw[hx] at this;cases this
     ·rfl).symm
   exact this
  ·rw[c2H hx];exact W8.append (.refl [y]) (b3W h x l (c3l.1 hl).2)
theorem a9N (x:α):∀(l:List α) (z:α),z∈W5 lt x l->z=x\/z∈l
 | [],z,hz=>by simp[W5] at hz;exact .inl hz
 | y::l,z,hz=>by
  unfold W5 at hz
  split at hz
  ·rcases c2C.1 hz with h|h
   ·exact .inl h
   ·exact .inr h
  ·rcases c2C.1 hz with h|h
   ·exact .inr (by rw[h];exact c27 ..)
   ·rcases a9N x l z h with h|h
    ·exact .inl h
    ·exact .inr (c26 _ h)
theorem b3X (h:Swo lt) (x:α):∀l:List α,N5 lt l->N5 lt (W5 lt x l)
 | [],_=>by unfold W5 N5;simp
 | y::l,hl=>by
  obtain⟨h1,h2⟩:=c3l.1 hl;unfold W5
  by_cases hx:lt x y=true
  ·rw[c2E hx];refine c3l.2 ⟨λz hz=>?_,hl⟩
   have hyx:lt y x=false:=by
    cases hyx:lt y x
    ·rfl
    ·have:=h.tra x y x hx hyx;rw[h.irr] at this;cases this
   rcases c2C.1 hz with rfl|hz
   ·exact hyx
   ·exact h.neg z y x (h1 z hz) hyx
  ·rw[c2H hx];refine c3l.2 ⟨λz hz=>?_,b3X h x l h2⟩
   rcases a9N x l z hz with rfl|hz
   ·simpa using hx
   ·exact h1 z hz
theorem a9O (h:Swo lt):∀(l acc:List α),N5 lt acc->N5 lt (l.foldl (λacc x=>W5 lt x acc) acc)/\W8 lt (l.foldl (λacc x=>W5 lt x acc) acc) (acc++l)
 | [],acc,ha=>⟨ha,by rw[c3b];exact .refl _⟩
 | x::l,acc,ha=>by
  obtain⟨h1,h2⟩:=a9O h l (W5 lt x acc) (b3X h x acc ha);refine⟨h1,h2.trans ?_⟩;have:=W8.append (b3W h x acc ha) (.refl (lt:=lt) l)
  rwa [c3m] at this
theorem J5 (h:Swo lt) (l:List α):N5 lt (i6 lt l):=(a9O h l [] List.Pairwise.nil).1
theorem J6 (h:Swo lt) (l:List α):W8 lt (i6 lt l) l:=(a9O h l [] List.Pairwise.nil).2
theorem a4M (h:Swo lt) {l m:List α} (hs:N5 lt m) (ht:W8 lt m l):m=i6 lt l:=a7y h hs (J5 h l) (ht.trans (J6 h l).symm)
theorem C0 {l m:List α}:N5 lt (l++m)↔N5 lt l/\N5 lt m/\∀x∈l,∀y∈m,lt y x=false:=c4L
theorem a7z (h:Swo lt) {x y:α} (hxy:lt x y=true):lt y x=false:=by
 cases hyx:lt y x
 ·rfl
 ·have:=h.tra x y x hxy hyx;rw[h.irr] at this;cases this
theorem a0r (h:Swo lt) {x y z:α} (hxy:lt x y=true) (hyz:lt z y=false):lt x z=true:=by
 cases hxz:lt x z
 ·have:=h.neg x z y hxz hyz;rw[hxy] at this;cases this
 ·rfl
theorem a2U (h:Swo lt) {x y z:α} (hxy:lt y x=false) (hyz:lt y z=true):lt x z=true:=by
 cases hxz:lt x z
 ·have:=h.neg y x z hxy hxz;rw[hyz] at this;cases this
 ·rfl
theorem a4N (h:Swo lt) {x:α} {v1 v2:List α} (hs:N5 lt (v1++v2)) (h1:∀y∈v1,lt y x=true) (h2:∀y∈v2,lt y x=false) :
  N5 lt (v1++(x::v2))/\W8 lt (v1++(x::v2)) (x::(v1++v2)):=by
 obtain⟨s1,s2,s3⟩:=C0.1 hs;refine⟨C0.2 ⟨s1,c3l.2 ⟨h2,s2⟩,λy hy z hz=>?_⟩,?_⟩
 ·rcases c2C.1 hz with rfl|hz
  ·exact a7z h (h1 y hy)
  ·exact s3 y hy z hz
 ·have:=W8.append (W8.swap h (u:=[x]) (v:=v1) λz hz y hy=>by simp at hz;subst hz;exact h1 y hy) (.refl (lt:=lt) v2)
  simpa using this.symm
theorem a3K (h:Swo lt) {x:α} {u1 u2:List α} (hs:N5 lt (u1++u2)) (h1:∀y∈u1,lt x y=false) (h2:∀y∈u2,lt x y=true) :
  N5 lt (u1++(x::u2))/\W8 lt (u1++(x::u2)) ((u1++u2)++[x]):=by
 obtain⟨s1,s2,s3⟩:=C0.1 hs;refine⟨C0.2 ⟨s1,c3l.2 ⟨λy hy=>a7z h (h2 y hy),s2⟩,λy hy z hz=>?_⟩,?_⟩
 ·rcases c2C.1 hz with rfl|hz
  ·exact h1 y hy
  ·exact s3 y hy z hz
 ·have:=W8.append (.refl (lt:=lt) u1) (W8.swap h (u:=u2) (v:=[x]) λz hz y hy=>by simp at hy;subst hy;exact h2 z hz)
  simpa using this.symm
theorem a9P (h:Swo lt) {L1 L2 u v P R:List α} (hl:N5 lt (L1++u)) (hr:N5 lt (v++L2)) (huv:∀x∈u,∀y∈v,lt y x=true) (hL:∀x∈L1,∀y∈L2,lt y x=false)
  (hP:N5 lt P) (sP:W8 lt P (L1++v)) (hR:N5 lt R) (sR:W8 lt R (u++L2)):N5 lt (P++R)/\W8 lt (P++R) ((L1++u)++(v++L2)):=by
 obtain⟨a1,a2,a3⟩:=C0.1 hl;obtain⟨b1,b2,b3⟩:=C0.1 hr;refine⟨C0.2 ⟨hP,hR,λx hx y hy=>?_⟩,?_⟩
 ·have hx':=sP.mem h hx;have hy':=sR.mem h hy
  rcases c2W.1 hx' with hx'|hx' <;> rcases c2W.1 hy' with hy'|hy'
  ·exact a3 x hx' y hy'
  ·exact hL x hx' y hy'
  ·exact a7z h (huv y hy' x hx')
  ·exact b3 x hx' y hy'
 ·have s1:=(sP.append sR)
  have s2:W8 lt ((L1++v)++(u++L2)) ((L1++u)++(v++L2)):=by
   have:=W8.append (W8.append (.refl (lt:=lt) L1) (W8.swap h huv).symm) (.refl (lt:=lt) L2)
   simpa using this
  exact s1.trans s2
end
end
end Go.Proofs.YtlofmibkljoapaaDoor
end
section
namespace Go.Proofs.YtlofmibkljoapaaDoor.Vm
open Go.RowKit
set_option maxRecDepth 100000
set_option maxHeartbeats 4000000
def x8 (fs:List (ByteArray×Ty)) (tail:Ty):Ty:=fs.foldr (λf r=>.mk 11 f.1 0 [f.2,r]) tail
def Q9:Ty->Prop
 | .mk op _ _ [_,r]=>op=11->Q9 r
 | .mk op _ _ _=>op≠11
def c6:Ty->List (ByteArray×Ty)
 | .mk op nm _ [x,r]=>if op=11 then (nm,x)::c6 r else []
 | _=>[]
def j0:Ty->Ty
 | .mk op nm n [x,r]=>if op=11 then j0 r else .mk op nm n [x,r]
 | t=>t
theorem E9:∀ {t:Ty},t.op≠11->c6 t=[]/\j0 t=t
 | .mk op nm n [],_=>⟨rfl,rfl⟩
 | .mk op nm n [x],_=>⟨rfl,rfl⟩
 | .mk op nm n [x,r],h=>by
  have h':op≠11:=h;unfold c6 j0;rw[c2H h',c2H h'];exact⟨rfl,rfl⟩
 | .mk op nm n (x::y::z::l),_=>⟨rfl,rfl⟩
theorem C7:∀ {t:Ty},Q9 t->t.op=11->∃a b,t.kids=[a,b]/\Q9 b/\c6 t=(t.name,a)::c6 b/\j0 t=j0 b
 | .mk op nm n [],h,h'=>absurd h' h
 | .mk op nm n [x],h,h'=>absurd h' h
 | .mk op nm n [x,r],h,h'=>by
  have e:op=11:=h';subst e;refine⟨x,r,rfl,h rfl,?_,?_⟩
  ·conv=>lhs;unfold c6
   rw[c2E rfl];rfl
  ·conv=>lhs;unfold j0
   rw[c2E rfl]
 | .mk op nm n (x::y::z::l),h,h'=>absurd h' h
def K5 (a b:ByteArray×Ty):Bool:=Op.bytesLess a.1.toList b.1.toList
theorem b3Y {α:Type} {lt:α->α->Bool} (x:α):∀l:List α,(W5 lt x l).length=l.length+1
 | []=>rfl
 | y::l=>by
  unfold W5
  split
  ·rfl
  ·simp[b3Y x l]
def atS:List Int->Int->Nat->Int
 | [],_,_=>-1
 | y::l,x,k=>if y=x then k else atS l x (k+1)
theorem b3Z:∀(l:List Int) (x:Int) (k:Nat),x∈l->0<=atS l x k
 | [],_,_,h=>by simp at h
 | y::l,x,k,h=>by
  rw[atS]
  split
  ·omega
  ·rename_i hne
   rcases c2C.1 h with rfl|h
   ·exact absurd rfl hne
   ·exact b3Z l x (k+1) h
def a2V:Nat->Ty->Ty
 | 0,t=>t
 | m+1,t=>if t.op=11 then x8 ((i6 K5 (c6 t)).map λf=>(f.1,a2V m f.2)) (j0 t) else .mk t.op t.name t.n (t.kids.map (a2V m))
def b6 (t:Ty):Ty:=a2V t.parts.length t
theorem x9:∀(n:Nat) (t:Ty),t.parts.length<=n->∀f∈c6 t,f.2.parts.length<t.parts.length:=by
 intro n
 induction n with
 | zero=>intro t h;have:=l6 t;omega
 | succ n ih =>
  intro t h f hf;obtain⟨op,nm,k,ks⟩:=t
  match ks,hf with
  | [],hf=>simp[c6] at hf
  | [x],hf=>simp[c6] at hf
  | x::y::z::l,hf=>simp[c6] at hf
  | [x,r],hf =>
   have hk:=o7 (.mk op nm k [x,r]);have hx:=hk.2 x (by simp[Ty.kids]);have hr:=hk.2 r (by simp[Ty.kids]);unfold c6 at hf
   by_cases h11:op=11
   ·rw[c2E h11] at hf
    rcases c2C.1 hf with rfl|hf
    ·exact hx
    ·have:=ih r (by omega) f hf;omega
   ·rw[c2H h11] at hf;simp at hf
theorem b1c {α:Type} {lt:α->α->Bool}:∀(l acc:List α) (z:α),z∈l.foldl (λacc x=>W5 lt x acc) acc->z∈acc\/z∈l
 | [],acc,z,h=>.inl h
 | x::l,acc,z,h=>by
  rcases b1c l (W5 lt x acc) z h with h|h
  ·rcases a9N x acc z h with rfl|h
   ·exact .inr (c27 ..)
   ·exact .inl h
  ·exact .inr (c26 _ h)
theorem A7 {α:Type} {lt:α->α->Bool} {l:List α} {z:α} (h:z∈i6 lt l):z∈l:=by
 rcases b1c l [] z h with h|h
 ·simp at h
 ·exact h
theorem a70:∀(n m:Nat) (t:Ty),t.parts.length<=n->t.parts.length<=m->a2V n t=a2V m t:=by
 intro n
 induction n with
 | zero=>intro m t h;have:=l6 t;omega
 | succ n ih =>
  intro m t h h';obtain⟨m,rfl⟩:∃k,m=k+1:=⟨m - 1,by have:=l6 t;omega⟩;unfold a2V
  by_cases h11:t.op=11
  ·rw[c2E h11,c2E h11]
   congr 1
   apply c3n
   intro f hf;have:=x9 _ t (c2A _) f (A7 hf);rw[ih m f.2 (by omega) (by omega)]
  ·rw[c2H h11,c2H h11]
   congr 1
   apply c3n
   intro x hx;have:=(o7 t).2 x hx;exact ih m x (by omega) (by omega)
theorem C9 {t:Ty} (h:t.op=11):b6 t=x8 ((i6 K5 (c6 t)).map λf=>(f.1,b6 f.2)) (j0 t):=by
 unfold b6;obtain⟨m,hm⟩:∃m,t.parts.length=m+1:=⟨t.parts.length - 1,by have:=l6 t;omega⟩;rw[hm]
 conv=>lhs;unfold a2V
 rw[c2E h]
 congr 1
 apply c3n
 intro f hf;have:=x9 _ t (c2A _) f (A7 hf);rw[a70 m f.2.parts.length f.2 (by omega) (c2A _)]
theorem w6 {t:Ty} (h:t.op≠11):b6 t=.mk t.op t.name t.n (t.kids.map b6):=by
 unfold b6;obtain⟨m,hm⟩:∃m,t.parts.length=m+1:=⟨t.parts.length - 1,by have:=l6 t;omega⟩;rw[hm]
 conv=>lhs;unfold a2V
 rw[c2H h]
 congr 1
 apply c3n
 intro x hx;have:=(o7 t).2 x hx;exact a70 m x.parts.length x (by omega) (c2A _)
theorem P7:∀(n:Nat) (t:Ty),t.parts.length<=n->∀f∈c6 t,f.2∈t.parts:=by
 intro n
 induction n with
 | zero=>intro t h;have:=l6 t;omega
 | succ n ih =>
  intro t h f hf;obtain⟨op,nm,k,ks⟩:=t
  match ks,hf with
  | [],hf=>simp[c6] at hf
  | [x],hf=>simp[c6] at hf
  | x::y::z::l,hf=>simp[c6] at hf
  | [x,r],hf =>
   have hk:=o7 (.mk op nm k [x,r]);have hr:=hk.2 r (by simp[Ty.kids]);unfold c6 at hf
   by_cases h11:op=11
   ·rw[c2E h11] at hf;rw[d5];simp only[Ty.kids,c3H,c4f,c3b]
    rcases c2C.1 hf with rfl|hf
    ·refine c26 _ (c33 _ ?_);rw[r6];exact c27 ..
    ·exact c26 _ (c3L _ (ih r (by omega) f hf))
   ·rw[c2H h11] at hf;simp at hf
theorem y9 {t x y:Ty}:y∈x.parts->x∈t.parts->y∈t.parts:=by
 intro hy
 induction t using Ty.ind with
 | h t ih =>
  intro hx;rw[d5] at hx ⊢
  rcases c2C.1 hx with rfl|hx
  ·rwa [d5] at hy
  ·obtain⟨k,hk,hx⟩:=c2U.1 hx;exact c26 _ (c2U.2 ⟨k,hk,ih k hk hx⟩)
theorem b1d {α:Type} {lt:α->α->Bool}:∀(l acc:List α),(l.foldl (λacc x=>W5 lt x acc) acc).length=acc.length+l.length
 | [],acc=>rfl
 | x::l,acc=>by
  rw[c4q,b1d l];simp only[b3Y,c2D];omega
theorem a0M {α:Type} {lt:α->α->Bool} (l:List α):(i6 lt l).length=l.length:=by
 unfold i6;rw[b1d]
 simp
def c4B (op n:Int):Bool:=decide (0<=n) && (decide (op=7\/op=10) || decide (n=0))
theorem a71 {iw:ByteArray->Bool} {t:Ty} {s:Int} (h:x6 t.op=none):c9 iw t s=false:=by
 rw[a2R];unfold a2Q;rw[h];rfl
def c3B (iw:ByteArray->Bool) (op:Int) (nm:ByteArray):Bool:=if op=11 then iw nm else decide (nm.toList=[])
theorem a4e {iw:ByteArray->Bool} {op:Int} {nm:ByteArray} {n:Int} {kids:List Ty} {s:Int} {k:List Int} (h:x6 op=some k) :
  c9 iw (.mk op nm n kids) s=(((decide (8<=op) == (s == 114)) && (decide (kids.length=k.length) && (c3B iw op nm && c4B op n))) && n6 iw kids k):=by
 rw[a2R];unfold a2Q c4B c3B;simp only[Ty.op,Ty.name,Ty.n,Ty.kids];rw[h];rfl
theorem b1e {α:Type} {lt:α->α->Bool} (x:α):∀l:List α,(W5 lt x l).Perm (x::l)
 | []=>.refl _
 | y::l=>by
  unfold W5
  split
  ·exact .refl _
  ·exact((b1e x l).cons y).trans (.swap x y l)
theorem a8I {α:Type} {lt:α->α->Bool}:∀(l acc:List α),(l.foldl (λacc x=>W5 lt x acc) acc).Perm (acc++l)
 | [],acc=>by simp
 | x::l,acc=>by
  rw[c4q];refine(a8I l _).trans ?_;have h1:(W5 lt x acc++l).Perm ((x::acc)++l):=(b1e x acc).append_right l;exact h1.trans List.perm_middle.symm
theorem a72 {α:Type} (lt:α->α->Bool) (l:List α):(i6 lt l).Perm l:=by
 have:=a8I (lt:=lt) l []
 simpa [i6] using this
def A5 (fs:List (ByteArray×Ty)):Nat:=(fs.map λf=>1+f.2.parts.length).sum
theorem a3L {a b:List (ByteArray×Ty)} (h:a.Perm b):A5 a=A5 b:=(h.map _).sum_nat
theorem a2c (tl:Ty):∀fs:List (ByteArray×Ty),(x8 fs tl).parts.length=A5 fs+tl.parts.length
 | []=>by simp[x8,A5]
 | f::fs=>by
  have ih:=a2c tl fs;unfold x8 at ih ⊢;rw[List.foldr_cons,d5];simp only[Ty.kids,c2D,c3H,c4f,c3b,c29,ih,A5,c2Y,c30];omega
theorem T0:∀(n:Nat) (t:Ty),t.parts.length<=n->Q9 t->t.parts.length=A5 (c6 t)+(j0 t).parts.length:=by
 intro n
 induction n with
 | zero=>intro t h;have:=l6 t;omega
 | succ n ih =>
  intro t hn hsp
  by_cases h11:t.op=11
  ·obtain⟨a,b,hk,hsb,hf,ht⟩:=C7 hsp h11;have hb:=(o7 t).2 b (by rw[hk];simp);have:=ih b (by omega) hsb;rw[hf,ht,d5,hk];simp only[c2D,c3H,c4f,c3b,c29,this,A5,c2Y,c30];omega
  ·obtain⟨h1,h2⟩:=E9 h11;rw[h1,h2]
   simp[A5]
theorem b6W:∀ {t:Ty},Q9 t->(j0 t).op≠11:=by
 intro t
 induction t using Ty.ind with
 | h t ih =>
  intro hsp
  by_cases h11:t.op=11
  ·obtain⟨a,b,hk,hsb,hf,ht⟩:=C7 hsp h11;rw[ht];exact ih b (by rw[hk];simp) hsb
  ·rw[(E9 h11).2];exact h11
theorem a4O:∀ {t:Ty},Q9 t->j0 t∈t.parts:=by
 intro t
 induction t using Ty.ind with
 | h t ih =>
  intro hsp
  by_cases h11:t.op=11
  ·obtain⟨a,b,hk,hsb,hf,ht⟩:=C7 hsp h11;rw[ht,d5];exact c26 _ (c2U.2 ⟨b,by rw[hk];simp,ih b (by rw[hk];simp) hsb⟩)
  ·rw[(E9 h11).2,r6];exact c27 ..
theorem a1x {α:Type} {f g:α->Nat}:∀ {l:List α},(∀x∈l,f x=g x)->(l.map f).sum=(l.map g).sum
 | [],_=>rfl
 | x::l,h=>by
  rw[c2Y,c2Y,c30,c30,h x (c27 ..),a1x λy hy=>h y (c26 _ hy)]
theorem B6:∀(n:Nat) (t:Ty),t.parts.length<=n->(∀x∈t.parts,Q9 x)->(b6 t).parts.length=t.parts.length:=by
 intro n
 induction n with
 | zero=>intro t h;have:=l6 t;omega
 | succ n ih =>
  intro t hn hsp;have ht:Q9 t:=hsp t (by rw[r6];exact c27 ..)
  by_cases h11:t.op=11
  ·rw[C9 h11,a2c,T0 _ t (c2A _) ht]
   congr 1
   rw[<-a3L (a72 K5 (c6 t))];unfold A5;rw[c3s];refine a1x λf hf=>?_
   have h1:=x9 _ t (c2A _) f (A7 hf);have h2:=P7 _ t (c2A _) f (A7 hf);simp only[Function.comp];rw[ih f.2 (by omega) λx hx=>hsp x (y9 hx h2)]
  ·rw[w6 h11,d5,d5 t];simp only[Ty.kids,c2D,c4S,c3s]
   congr 1
   refine a1x λx hx=>?_
   have h1:=(o7 t).2 x hx;simp only[Function.comp];exact ih x (by omega) λy hy=>hsp y (by rw[d5];exact c26 _ (c2U.2 ⟨x,hx,hy⟩))
def C4 (t:Ty):Prop:=∀x∈t.parts,Q9 x
theorem C4.kid {t x:Ty} (h:C4 t) (hx:x∈t.kids):C4 x:=λy hy=>h y (by rw[d5];exact c26 _ (c2U.2 ⟨x,hx,hy⟩))
theorem C4.part {t x:Ty} (h:C4 t) (hx:x∈t.parts):C4 x:=λy hy=>h y (y9 hy hx)
theorem C4.self {t:Ty} (h:C4 t):Q9 t:=h t (by rw[r6];exact c27 ..)
theorem C4.mk {t:Ty} (h:Q9 t) (hk:∀x∈t.kids,C4 x):C4 t:=λy hy=>by
 rw[d5] at hy
 rcases c2C.1 hy with rfl|hy
 ·exact h
 ·obtain⟨x,hx,hy⟩:=c2U.1 hy;exact hk x hx y hy
theorem A8 (f:ByteArray×Ty) (fs:List (ByteArray×Ty)) (tl:Ty):x8 (f::fs) tl=.mk 11 f.1 0 [f.2,x8 fs tl]:=rfl
theorem G2 {tl:Ty} (ht:tl.op≠11):∀fs:List (ByteArray×Ty),c6 (x8 fs tl)=fs/\j0 (x8 fs tl)=tl
 | []=>by have:=E9 ht;exact⟨this.1,this.2⟩
 | f::fs=>by
  have ih:=G2 ht fs;rw[A8]
  constructor
  ·conv=>lhs;unfold c6
   rw[c2E rfl,ih.1]
  ·conv=>lhs;unfold j0
   rw[c2E rfl,ih.2]
theorem b1f {tl:Ty} {fs:List (ByteArray×Ty)} (h:fs≠[]):(x8 fs tl).op=11:=by
 cases fs with
 | nil=>exact absurd rfl h
 | cons f fs=>rfl
theorem b5p {t:Ty} (hsp:Q9 t) (h:t.op=11):c6 t≠[]:=by
 obtain⟨a,b,hk,hsb,hf,ht⟩:=C7 hsp h;rw[hf];simp
theorem b6X {α:Type} {lt:α->α->Bool} {l:List α} (h:l≠[]):i6 lt l≠[]:=by
 intro e;have:=congrArg List.length e;rw[a0M] at this;exact h (c2M (by simpa using this))
theorem C1 (iw:ByteArray->Bool):∀(ts:List Ty) (ks:List Int),n6 iw ts ks=true->∀x∈ts,∃c,c9 iw x c=true
 | [],_,_,x,hx=>by simp at hx
 | t::ts,[],h,x,hx=>by rw[n6] at h;cases h
 | t::ts,k::ks,h,x,hx=>by
  rw[n6,c2B] at h
  rcases c2C.1 hx with rfl|hx
  ·exact⟨k,h.1⟩
  ·exact C1 iw ts ks h.2 x hx
theorem a5Z (iw:ByteArray->Bool) (t:Ty):∀s,c9 iw t s=true->∀x∈t.parts,Q9 x:=by
 induction t using Ty.ind with
 | h t ih =>
  intro s hs x hx;cases hko:x6 t.op with
  | none=>rw[a71 hko] at hs;cases hs
  | some k =>
   obtain⟨op,nm,n,kids⟩:=t;rw[a4e (k:=k) (by exact hko)] at hs;simp only[c2B,c3Q] at hs;obtain⟨⟨_,hlen,_⟩,hss⟩:=hs;rw[d5] at hx
   rcases c2C.1 hx with rfl|hx
   ·simp only[Ty.op] at hko
    by_cases h11:op=11
    ·subst h11
     have hk:k.length=2:=by
      have:x6 11=some [116,114]:=by decide
      rw[this] at hko;injection hko with hko;rw[<-hko];rfl
     rw[hk] at hlen
     match kids,hlen,ih,hss with
     | [a,b],_,ih,hss =>
      obtain⟨c,hc⟩:=C1 iw _ _ hss b (by simp);exact λ_=>ih b (by simp[Ty.kids]) c hc b (by rw[r6];exact c27 ..)
    ·match kids with
     | []=>exact h11
     | [a]=>exact h11
     | [a,b]=>exact λh=>absurd h h11
     | a::b::c::l=>exact h11
   ·obtain⟨y,hy,hx⟩:=c2U.1 hx;obtain⟨c,hc⟩:=C1 iw _ _ hss y hy;exact ih y hy c hc x hx
def r9 (t:Ty):Bool:=(t.op == 7) || (t.op == 10)
def y6:List Ty->List Int->List Int
 | [],acc=>acc
 | t::ts,acc=>y6 ts (if r9 t=true/\t.n∉acc then acc++[t.n] else acc)
def B7 (t:Ty):List Int:=y6 (b6 t).parts []
theorem a0N:∀(ts:List Ty) (acc:List Int),(y6 ts acc).length<=acc.length+ts.length
 | [],acc=>by simp[y6]
 | u::us,acc=>by
  rw[y6];have:=a0N us (if r9 u=true/\u.n∉acc then acc++[u.n] else acc);have h2:(if r9 u=true/\u.n∉acc then acc++[u.n] else acc).length<=acc.length+1:=by split <;> simp
  simp only[c2D];omega
section
theorem c09 (os:List O) (d:D):toD os .jk≠some d:=λh=>by rw[toD] at h <;> first|cases h|simp
theorem v7.read (s:S) (i:Nat) (d:D) (hi:toD s.o (m8 s.t i)=some d):v7 s ⟨G7 s.t i (.d d),s.o⟩:=by
 rintro I0 X w0 a w ⟨I,g,h⟩
 have hj:m8 s.t i≠.jk:=λe=>c09 _ _ (e ▸ hi)
 exact⟨I,g,h.reread λv hv=>.d (a90 h (h.tmp.2 i v _ hv (Q0 rfl hj)) hi)⟩
section
variable {qa:IntKind->Int->Int} {qb:Int->Int->Int} {qc:Int->Int->Int} {qd:Int->Int->Int} {qe:Int->Int->Int} {qf:Int->Int->Int} {qg:BinOp->IntKind->Int->IntKind->Int->Option Int} {qh:Int->Int->Bool} {qi:Int->Int->Bool} {qj:Int->Int->Bool} {qk:Int->Prop->Prop} {ql:List UInt8->List UInt8->Bool} {qm:List UInt8->List UInt8->Bool} {qo:ByteArray->List UInt8} {qp:ByteArray->ByteArray->ByteArray} {qq:ByteArray->ByteArray->Prop->Prop} {qs:ByteArray->Int} {qt:ByteArray->Int->Option Int} {qu:ByteArray->Int->Int->Option ByteArray} {qv:List (List D)->Option ByteArray} {qw:ByteArray->List (List D)} {qx:Int->Nat->Option Nat} {qy:List (List D)->Int} {qz:List (List D)->Int->Option (List D)} {va:List (List D)->Int->Int->Option (List (List D))} {vc:List (List D)->List (List D)->List (List D)} {vd:List (List D)->Int->List D->List (List D)} {ve:List (List D)->List (List D)->Prop->Prop} {vf:List (R×R)->R->Option R} {vg:List (R×R)->R->R->List (R×R)} {vh:List D->List D->Bool} {vj:Int->List D->(List (List D)->Prop)->Prop} {vk:Nat->List R->(List R->Prop)->Prop} {vl:Nat->List V->List O->(V->Prop)->Prop} {vp:Nat->List V->S->(V->S->Prop)->Prop} {vq:Nat->List V->List Nat->S->(V->S->Prop)->Prop} {vr:Nat->(Bool->Prop)->Prop} {vt:Nat->(Bool->Prop)->Prop} {vu:Nat->(List V->List O->Prop)->List V->S->Prop} {vv:(S->Prop)->S->Prop} {vw:Op->Option Nat->S->(S->Prop)->Prop} {vx:Array Oper->S->(S->Prop)->Prop} {vy:Code->(S->(X->S->Prop)->Prop)->S->(X->S->Prop)->Prop}
end
end

section
section
variable {I0:Nat->Nat->Prop} {X:Nat->Prop} {w0:W0} {I:Nat->Nat->Prop} {g:Nat->Value} {s:S} {a:Act} {w:World}
end
section
variable {qa:IntKind->Int->Int} {qb:Int->Int->Int} {qc:Int->Int->Int} {qd:Int->Int->Int} {qe:Int->Int->Int} {qf:Int->Int->Int} {qg:BinOp->IntKind->Int->IntKind->Int->Option Int} {qh:Int->Int->Bool} {qi:Int->Int->Bool} {qj:Int->Int->Bool} {qk:Int->Prop->Prop} {ql:List UInt8->List UInt8->Bool} {qm:List UInt8->List UInt8->Bool} {qo:ByteArray->List UInt8} {qp:ByteArray->ByteArray->ByteArray} {qq:ByteArray->ByteArray->Prop->Prop} {qs:ByteArray->Int} {qt:ByteArray->Int->Option Int} {qu:ByteArray->Int->Int->Option ByteArray} {qv:List (List D)->Option ByteArray} {qw:ByteArray->List (List D)} {qx:Int->Nat->Option Nat} {qy:List (List D)->Int} {qz:List (List D)->Int->Option (List D)} {va:List (List D)->Int->Int->Option (List (List D))} {vc:List (List D)->List (List D)->List (List D)} {vd:List (List D)->Int->List D->List (List D)} {ve:List (List D)->List (List D)->Prop->Prop} {vf:List (R×R)->R->Option R} {vg:List (R×R)->R->R->List (R×R)} {vh:List D->List D->Bool} {vj:Int->List D->(List (List D)->Prop)->Prop} {vk:Nat->List R->(List R->Prop)->Prop} {vl:Nat->List V->List O->(V->Prop)->Prop} {vp:Nat->List V->S->(V->S->Prop)->Prop} {vq:Nat->List V->List Nat->S->(V->S->Prop)->Prop} {vr:Nat->(Bool->Prop)->Prop} {vt:Nat->(Bool->Prop)->Prop} {vu:Nat->(List V->List O->Prop)->List V->S->Prop} {vv:(S->Prop)->S->Prop} {vw:Op->Option Nat->S->(S->Prop)->Prop} {vx:Array Oper->S->(S->Prop)->Prop} {vy:Code->(S->(X->S->Prop)->Prop)->S->(X->S->Prop)->Prop}
end
end

section
def a0s {α:Type} (a b:Nat):Nat->List α->List α
 | 0,l=>l
 | k+1,l=>match (a0s a b k l)[a+k]?,(a0s a b k l)[b+k]? with
  | some x,some y=>((a0s a b k l).set (a+k) y).set (b+k) x
  | _,_=>a0s a b k l
theorem a3x {α:Type} (a b:Nat):∀(k:Nat) (l:List α),(a0s a b k l).length=l.length
 | 0,l=>rfl
 | k+1,l=>by
  unfold a0s
  split
  ·rw[c2K,c2K,a3x]
  ·exact a3x a b k l
theorem a8J {α:Type} (a b:Nat):∀(k:Nat) (l:List α),a+k<=b->b+k<=l.length->∀i,(a0s a b k l)[i]?=if a<=i/\i<a+k then l[i - a+b]? else if b<=i/\i<b+k then l[i - b+a]? else l[i]?
 | 0,l,_,_,i=>by
  rw[c2H (by omega),c2H (by omega)];rfl
 | k+1,l,h1,h2,i=>by
  have ih:=a8J a b k l (by omega) (by omega);have ea:=ih (a+k);have eb:=ih (b+k);rw[c2H (by omega),c2H (by omega)] at ea eb;have hla:a+k<l.length:=by omega
  have hlb:b+k<l.length:=by omega
  rw[c28 hla] at ea;rw[c28 hlb] at eb;unfold a0s;rw[ea,eb];simp only;have hsl:=a3x a b k l
  by_cases e1:i=b+k
  ·subst e1;rw[c2S (by rw[c2K,hsl];omega),c2H (by omega),c2E (by omega),show b+k - b+a=a+k by omega,c28 hla]
  ·rw[c2L (by omega)]
   by_cases e2:i=a+k
   ·subst e2;rw[c2S (by rw[hsl];omega),c2E (by omega),show a+k - a+b=b+k by omega,c28 hlb]
   ·rw[c2L (by omega),ih i]
    by_cases c1:a<=i/\i<a+k
    ·rw[c2E c1,c2E (by omega)]
    ·rw[c2H c1]
     by_cases c2:b<=i/\i<b+k
     ·rw[c2E c2,c2H (by omega),c2E (by omega)]
     ·rw[c2H c2,c2H (by omega),c2H (by omega)]
theorem a2W {α:Type} (P X M Y S:List α) (h:X.length=Y.length):a0s P.length (P.length+X.length+M.length) X.length (P++(X++(M++(Y++S))))=P++(Y++(M++(X++S))):=by
 apply c4b
 intro i;rw[a8J _ _ _ _ (by omega) (by simp only[c29];omega)];simp only[List.getElem?_append]
 repeat' split
 all_goals first
  | rfl
  | omega
  | (congr 1;omega)
theorem a1a {α:Type} {l:List α} {n:Nat} (h:n<=l.length):∃a b,l=a++b/\a.length=n:=⟨l.take n,l.drop n,(c3D n l).symm,by simp;omega⟩
theorem a2X {α:Type} {xs:List α} {k:Nat} {y:α} (h:xs[k]?=some y):xs.take (k+1)=xs.take k++[y]:=by
 obtain⟨hi,e⟩:=c25.1 h;rw[c4i hi,e]
theorem a1E:∀l:List UInt8,Op.bytesLess l l=false
 | []=>rfl
 | a::l=>by simp[Op.bytesLess,a1E l]
theorem a5B:∀x y z:List UInt8,Op.bytesLess x y=true->Op.bytesLess y z=true->Op.bytesLess x z=true
 | x,[],_,h,_=>by cases x <;> simp[Op.bytesLess] at h
 | _,_::_,[],_,h=>by simp[Op.bytesLess] at h
 | [],_::_,_::_,_,_=>by simp[Op.bytesLess]
 | a::x,b::y,c::z,h1,h2=>by
  simp only[Op.bytesLess,c38,c3Q,c2B,c3q] at h1 h2 ⊢
  rcases h1 with h1|⟨rfl,h1⟩
  ·rcases h2 with h2|⟨rfl,h2⟩
   ·exact .inl (UInt8.lt_trans h1 h2)
   ·exact .inl h1
  ·rcases h2 with h2|⟨rfl,h2⟩
   ·exact .inl h2
   ·exact .inr ⟨rfl,a5B x y z h1 h2⟩
theorem a5C:∀x y z:List UInt8,Op.bytesLess x y=false->Op.bytesLess y z=false->Op.bytesLess x z=false
 | x,_,[],_,_=>by cases x <;> simp[Op.bytesLess]
 | _,[],_::_,_,h=>by simp[Op.bytesLess] at h
 | [],_::_,_,h,_=>by simp[Op.bytesLess] at h
 | a::x,b::y,c::z,h1,h2=>by
  simp only[Op.bytesLess,c4M,decide_eq_false_iff_not,Bool.and_eq_false_iff,c2O,ne_eq] at h1 h2 ⊢;obtain⟨h1,h1'⟩:=h1;obtain⟨h2,h2'⟩:=h2
  have h3:¬a<c:=λh=>by
   rw[c3Y] at h h1 h2;omega
  refine⟨h3,?_⟩
  by_cases hac:a=c
  ·subst hac
   right
   have hab:a=b:=by
    rw[c3Y] at h1 h2;exact c42.1 (by omega)
   subst hab;exact a5C x y z (by simpa using h1') (by simpa using h2')
  ·exact .inl hac
abbrev Rw:=List D
def c11:Rw->List UInt8
 | .sc (.string a)::_=>a.toList
 | _=>[]
def z7 (x y:Rw):Bool:=Op.bytesLess (c11 x) (c11 y)
theorem L4:Swo z7:=⟨λ_=>a1E _,λ_ _ _=>a5B _ _ _,λ_ _ _=>a5C _ _ _⟩
theorem b1g {α β:Type} {f:α->β} {lt:α->α->Bool} {lt2:β->β->Bool} (h:∀x y,lt2 (f x) (f y)=lt x y) (x:α):∀l:List α,W5 lt2 (f x) (l.map f)=(W5 lt x l).map f
 | []=>rfl
 | y::l=>by
  rw[c2Y,W5,W5,h]
  split
  ·rfl
  ·rw[c2Y,b1g h x l]
theorem Z2 {α β:Type} {f:α->β} {lt:α->α->Bool} {lt2:β->β->Bool} (h:∀x y,lt2 (f x) (f y)=lt x y) (l:List α):i6 lt2 (l.map f)=(i6 lt l).map f:=by
 have key:∀(l acc:List α),(l.map f).foldl (λacc x=>W5 lt2 x acc) (acc.map f)=(l.foldl (λacc x=>W5 lt x acc) acc).map f:=by
  intro l
  induction l with
  | nil=>intro acc;rfl
  | cons x l ih=>intro acc;rw[c2Y,c4q,c4q,b1g h,ih]
 exact key l []
theorem c0A {x:Rw} {L:List Rw} {y:Rw} (hs:N5 z7 (L++[y])) (h:z7 x y=false):∀z∈L++[y],z7 x z=false:=by
 intro z hz
 rcases c2W.1 hz with hz|hz
 ·exact L4.neg x y z h ((C0.1 hs).2.2 z hz y (by simp))
 ·simp at hz;subst hz;exact h
theorem b1h {α:Type} (A R:List α) (x y:α) {k:Nat} (h:A.length=k):((A++y::x::R).set (k+1) y).set k x=A++x::y::R:=by
 subst h;rw[c3Z _ _ (by omega),show A.length+1 - A.length=1 by omega,c3Z _ _ (c2A _),c4e];rfl
theorem a6u {V:List Rw} {h:Nat} {y:Rw} (hs:N5 z7 V) (hy:V[h]?=some y):(∀z∈V.take h,z7 y z=false)/\∀z∈V.drop (h+1),z7 z y=false:=by
 obtain⟨hh,e⟩:=c25.1 hy
 have hsp:V=V.take h++y::V.drop (h+1):=by
  conv=>lhs;rw[<-c3D h V,c2X hh,e]
 rw[hsp] at hs;obtain⟨_,h2,h3⟩:=C0.1 hs;exact⟨λz hz=>h3 z hz y (c27 ..),λz hz=>(c3l.1 h2).1 z hz⟩
theorem b5q {V:List Rw} {h:Nat} {y u:Rw} (hs:N5 z7 V) (hy:V[h]?=some y) (hl:z7 y u=true):∀z∈V.take (h+1),z7 z u=true:=by
 intro z hz;rw[a2X hy] at hz
 rcases c2W.1 hz with hz|hz
 ·exact a2U L4 ((a6u hs hy).1 z hz) hl
 ·simp at hz;subst hz;exact hl
theorem b1i {V:List Rw} {h:Nat} {y u:Rw} (hs:N5 z7 V) (hy:V[h]?=some y) (hl:z7 y u=false):∀z∈V.drop h,z7 z u=false:=by
 intro z hz;obtain⟨hh,e⟩:=c25.1 hy;rw[c2X hh,e] at hz
 rcases c2C.1 hz with rfl|hz
 ·exact hl
 ·exact L4.neg z y u ((a6u hs hy).2 z hz) hl
theorem b5r {α:Type} (A R:List α) (x y:α) {k:Nat} (h:A.length=k):((A++x::y::R).set k y).set (k+1) x=A++y::x::R:=by
 subst h;rw[c3Z _ _ (c2A _),c4e,List.set_cons_zero,c3Z _ _ (by omega),show A.length+1 - A.length=1 by omega];rfl
theorem b23 {V:List Rw} {h:Nat} {y u:Rw} (hs:N5 z7 V) (hy:V[h]?=some y) (hl:z7 u y=false):∀z∈V.take (h+1),z7 u z=false:=by
 intro z hz;rw[a2X hy] at hz
 rcases c2W.1 hz with hz|hz
 ·exact L4.neg u y z hl ((a6u hs hy).1 z hz)
 ·simp at hz;subst hz;exact hl
theorem a9Q {V:List Rw} {h:Nat} {y u:Rw} (hs:N5 z7 V) (hy:V[h]?=some y) (hl:z7 u y=true):∀z∈V.drop h,z7 u z=true:=by
 intro z hz;obtain⟨hh,e⟩:=c25.1 hy;rw[c2X hh,e] at hz
 rcases c2C.1 hz with rfl|hz
 ·exact hl
 ·exact a0r L4 hl ((a6u hs hy).2 z hz)
theorem a2Y {l:List Rw} (h:N5 z7 l) {i j:Nat} {x y:Rw} (hij:i<=j) (hx:l[i]?=some x) (hy:l[j]?=some y):z7 y x=false:=by
 rcases c3o i j with hlt|hge
 ·obtain⟨hi,ei⟩:=c25.1 hx;obtain⟨hj,ej⟩:=c25.1 hy;have:=List.pairwise_iff_getElem.1 h i j hi hj hlt;rw[ei,ej] at this;exact this
 ·obtain rfl:i=j:=by omega
  rw[hx] at hy;injection hy with hy;subst hy;exact L4.irr x
def a4f (a m b mid s0 r0:Nat):Prop:=(m<=mid/\s0=a/\r0=m)\/(mid<m/\s0+b=mid+m/\r0=mid)
def b6Y (U V:List Rw) (a m p s0 s:Nat):Prop:=∀c x y,s0<=c->c<s->U[c - a]?=some x->V[p - c - m]?=some y->z7 y x=false
def b1j (U V:List Rw) (a m p r r0:Nat):Prop:=∀c x y,r<=c->c<r0->U[c - a]?=some x->V[p - c - m]?=some y->z7 y x=true
section
variable {U V:List Rw} {a m b mid p s0 r0:Nat}
theorem G4 (hw:a4f a m b mid s0 r0) (hmid:mid=(a+b) / 2) (ham:a<m) (hmb:m<b) {s:Nat} (h1:s0<=s) (h2:s<=r0):a<=s/\s<=m/\s<=mid/\m<=mid+m - s/\mid+m - s<=b/\mid<=mid+m - s:=by
 rcases hw with⟨h,rfl,rfl⟩|⟨h,h3,rfl⟩ <;> omega
theorem b8N (hU:N5 z7 U) (hV:N5 z7 V) (hw:a4f a m b mid s0 r0) (hmid:mid=(a+b) / 2) (ham:a<m) (hmb:m<b) (hp:p+1=mid+m) {c:Nat} {x y:Rw} (hc0:s0<=c) (hc:c<r0) (hx:U[c - a]?=some x) (hy:V[p - c - m]?=some y) (hl:z7 y x=false) :
  b6Y U V a m p s0 (c+1):=by
 intro d x' y' hd hdc hx' hy';have b1:=G4 hw hmid ham hmb hc0 (Nat.le_of_lt hc);have b2:=G4 hw hmid ham hmb hd (by omega);have h1:=a2Y hU (show d - a<=c - a by omega) hx' hx;have h2:=a2Y hV (show p - c - m<=p - d - m by omega) hy hy';exact L4.neg _ _ _ (L4.neg _ _ _ h2 hl) h1
theorem b24 (hU:N5 z7 U) (hV:N5 z7 V) (hw:a4f a m b mid s0 r0) (hmid:mid=(a+b) / 2) (ham:a<m) (hmb:m<b) (hp:p+1=mid+m) {c:Nat} {x y:Rw} (hc0:s0<=c) (hc:c<r0) (hx:U[c - a]?=some x) (hy:V[p - c - m]?=some y) (hl:z7 y x=true) :
  b1j U V a m p c r0:=by
 intro d x' y' hd hdr hx' hy';have b1:=G4 hw hmid ham hmb hc0 (Nat.le_of_lt hc);have h1:=a2Y hU (show c - a<=d - a by omega) hx hx';have h2:=a2Y hV (show p - d - m<=p - c - m by omega) hy' hy;exact a0r L4 (a2U L4 h2 hl) h1
theorem c0B (hU:N5 z7 U) (hV:N5 z7 V) (hUl:U.length=m - a) (hVl:V.length=b - m) (hw:a4f a m b mid s0 r0) (hmid:mid=(a+b) / 2) (ham:a<m) (hmb:m<b) (hp:p+1=mid+m) {s:Nat} (h1:s0<=s) (h2:s<=r0) (hlo:b6Y U V a m p s0 s) (hhi:b1j U V a m p s r0) :
  (∀x∈U.drop (s - a),∀y∈V.take (mid+m - s - m),z7 y x=true)/\∀x∈U.take (s - a),∀y∈V.drop (mid+m - s - m),z7 y x=false:=by
 have b0:=G4 hw hmid ham hmb h1 h2
 constructor
 ·intro x hx y hy;obtain⟨i,hi⟩:=c2Z.1 hx;obtain⟨j,hj⟩:=c2Z.1 hy;rw[c3e] at hi
  have hj2:j<mid+m - s - m/\V[j]?=some y:=by
   rw[c3g] at hj
   split at hj
   ·exact⟨by omega,hj⟩
   ·cases hj
  have hiu:s - a+i<U.length:=(c25.1 hi).1
  by_cases hs:s<r0
  ·obtain⟨x0,hx0⟩:∃x0,U[s - a]?=some x0:=⟨_,c28 (by omega)⟩;obtain⟨y0,hy0⟩:∃y0,V[p - s - m]?=some y0:=⟨_,c28 (by omega)⟩;have h:=hhi s x0 y0 (c2A _) hs hx0 hy0;exact a0r L4 (a2U L4 (a2Y hV (show j<=p - s - m by omega) hj2.2 hy0) h) (a2Y hU (show s - a<=s - a+i by omega) hx0 hi)
  ·rcases hw with⟨h,rfl,rfl⟩|⟨h,h3,rfl⟩ <;> omega
 ·intro x hx y hy;obtain⟨i,hi⟩:=c2Z.1 hx;obtain⟨j,hj⟩:=c2Z.1 hy;rw[c3e] at hj
  have hi2:i<s - a/\U[i]?=some x:=by
   rw[c3g] at hi
   split at hi
   ·exact⟨by omega,hi⟩
   ·cases hi
  have hjv:mid+m - s - m+j<V.length:=(c25.1 hj).1
  by_cases hs:s0<s
  ·have b1:=G4 hw hmid ham hmb (s:=s - 1) (by omega) (by omega);obtain⟨x0,hx0⟩:∃x0,U[s - 1 - a]?=some x0:=⟨_,c28 (by omega)⟩;obtain⟨y0,hy0⟩:∃y0,V[p - (s - 1) - m]?=some y0:=⟨_,c28 (by omega)⟩;have h:=hlo (s - 1) x0 y0 (by omega) (by omega) hx0 hy0;exact L4.neg _ _ _ (L4.neg _ _ _ (a2Y hV (show p - (s - 1) - m<=mid+m - s - m+j by omega) hy0 hj) h) (a2Y hU (show i<=s - 1 - a by omega) hi2.2 hx0)
  ·rcases hw with⟨h,rfl,rfl⟩|⟨h,h3,rfl⟩ <;> omega
end
def a2Z (bs:Nat) (bl:List (List Rw)):Prop:=∀x∈bl,x.length=bs/\N5 z7 x
theorem a73 {bs:Nat}:∀ {bl:List (List Rw)},a2Z bs bl->bl.flatten.length=bl.length * bs
 | [],_=>by simp
 | x::bl,h=>by
  rw[c3x,c29,(h x (c27 ..)).1,a73 λy hy=>h y (c26 _ hy),c2D,c3N];omega
theorem a2Z.snoc {bs:Nat} {bl:List (List Rw)} {x:List Rw} (h:a2Z bs bl) (hx:x.length=bs/\N5 z7 x):a2Z bs (bl++[x]):=λy hy=>by
 rcases c2W.1 hy with hy|hy
 ·exact h y hy
 ·simp at hy;subst hy;exact hx
end
theorem c12 {x:Rw} (h:x.length=5):∃x0 x1 x2 x3 x4,x=[x0,x1,x2,x3,x4]:=by
 match x,h with
 | [x0,x1,x2,x3,x4],_=>exact⟨x0,x1,x2,x3,x4,rfl⟩
theorem a0O {α:Type} (a b:Nat):∀(k:Nat) (l:List α),∀x∈a0s a b k l,x∈l
 | 0,l,x,h=>h
 | k+1,l,x,h=>by
  unfold a0s at h
  split at h
  ·rename_i y z h1 h2
   rcases c36 h with h|rfl
   ·rcases c36 h with h|rfl
    ·exact a0O a b k l x h
    ·exact a0O a b k l _ (c2F h2)
   ·exact a0O a b k l _ (c2F h1)
  ·exact a0O a b k l x h
theorem b25 (rows:List Rw) (h5:∀x∈rows,x.length=5) (a b k fid:Nat) (hN:rows.length<=1048576) (hab:a+k<=b) (hb:b+k<=rows.length) :
  a0W 96 [.own 0,vi .i64 a,vi .i64 b,vi .i64 k,.cl fid []] [.row false 73 rows] (λres os=>res=[]/\os=[.row false 73 (a0s a b k rows)]):=by
 obtain⟨za,hza⟩:∃z:Int,z=(a:Int):=⟨_,rfl⟩;obtain⟨zb,hzb⟩:∃z:Int,z=(b:Int):=⟨_,rfl⟩;obtain⟨zk,hzk⟩:∃z:Int,z=(k:Int):=⟨_,rfl⟩;rw[<-hza,<-hzb,<-hzk];obtain⟨S,hS⟩:∃S,S=a0s a b k rows:=⟨_,rfl⟩;rw[<-hS];refine a0q Tryd.func96 rfl (by kernel_rfl) (by kernel_rfl) (by kernel_rfl) rfl rfl (by rintro _ _ ⟨_,rfl⟩;rfl) ?_;intro qa qb _ _ _ _ _ qh _ _ _ _ _ _ _ _ _ _ _ _ _ _ _ qz _ _ vd;intros;rename_i hA K hK;cbv;refine gn ?_;obtain⟨e1,e2,e3,e4,e5,e6,e7,e8,e9⟩:=j8 hA;obtain⟨r1,r2,r3,r4⟩:=n9 hA;obtain⟨m1,m2,m3,m4⟩:=H2 hA;replace hza:za=(a:Int):=hza;replace hzb:zb=(b:Int):=hzb;replace hzk:zk=(k:Int):=hzk;refine l9 hA (γ:=Int×List (List D)) (λx=>[(10,vi .i64 x.1),(29,.jk),(35,.jk)]) (λx=>[(0,.row false 73 x.2)]) (λx=>∃j:Nat,x.1=(j:Int)/\j<=k/\x.2=a0s a b j rows) (λx=>k - x.1.toNat) (0,rows) ?_ ?_ ?_
 ·exact⟨0,rfl,c3d _,rfl⟩
 ·cbv
 ·intro x hinv;obtain⟨z,L⟩:=x;cbv;refine gn ?_;obtain⟨j,hz,hj,hL⟩:=hinv;replace hz:z=(j:Int):=hz;replace hza:za=(a:Int):=hza;replace hzb:zb=(b:Int):=hzb;replace hzk:zk=(k:Int):=hzk;replace hL:L=a0s a b j rows:=hL;have hlt:qh z zk=decide (j<k):=by rw[e7,hz,hzk];exact c2Q.2 (by omega)
  by_cases h9:j<k
  ·rw[c2J h9] at hlt;have hLl:L.length=rows.length:=by rw[hL,a3x]
   obtain⟨x,hx⟩:∃x,L[a+j]?=some x:=⟨_,c28 (by omega)⟩;obtain⟨y,hy⟩:∃y,L[b+j]?=some y:=⟨_,c28 (by omega)⟩;have hx5:=h5 x (a0O a b j rows x (by rw[<-hL];exact c2F hx));have hy5:=h5 y (a0O a b j rows y (by rw[<-hL];exact c2F hy));obtain⟨x0,x1,x2,x3,x4,rfl⟩:=c12 hx5;obtain⟨y0,y1,y2,y3,y4,rfl⟩:=c12 hy5;have wa:qa .i64 (qb za z)=((a+j:Nat):Int):=by rw[e1,e2,hza,hz,IntWalk.i64_in _ (by omega)];omega
   have wb:qa .i64 (qb zb z)=((b+j:Nat):Int):=by rw[e1,e2,hzb,hz,IntWalk.i64_in _ (by omega)];omega
   have g1:qz L (qa .i64 (qb zb z))=some [y0,y1,y2,y3,y4]:=by rw[wb,r2,c2E (by omega),c2T];exact hy
   have g2:qz L (qa .i64 (qb za z))=some [x0,x1,x2,x3,x4]:=by rw[wa,r2,c2E (by omega),c2T];exact hx
   have g3:∀v,qz (vd L (qa .i64 (qb za z)) v) (qa .i64 (qb zb z))=some [y0,y1,y2,y3,y4]:=λv=>by rw[wb,wa,r2,c2E (by omega),m4,c2T,c2T,c2L (by omega)];exact hy
   have hsw:a0s a b (j+1) rows=(L.set (a+j) [y0,y1,y2,y3,y4]).set (b+j) [x0,x1,x2,x3,x4]:=by
    rw[a0s,<-hL,hx,hy]
   rw[hlt];cbv;refine gn ?_
   repeat (first|(rw[g1];cbv)|(rw[g2];cbv)|(rw[g3];cbv)|(with_reducible apply b5 hA;cbv))
   replace hz:z=(j:Int):=hz;have hz1:qa .i64 (qb z 1)=((j+1:Nat):Int):=by rw[e1,e2,hz,IntWalk.i64_in _ (by omega)];omega
   refine⟨(qa .i64 (qb z 1),vd (vd L (qa .i64 (qb za z)) [y0,y1,y2,y3,y4]) (qa .i64 (qb zb z)) [x0,x1,x2,x3,x4]),⟨j+1,hz1,h9,?_⟩,?_,?_⟩
   ·show vd (vd L _ _) _ _=_;rw[m4,m4,wa,wb,c2T,c2T,hsw]
   ·show k - (qa .i64 (qb z 1)).toNat<k - z.toNat;rw[hz1,hz];omega
   ·cbv
  ·rw[c2G h9] at hlt;rw[hlt];cbv;refine gn ?_;have hjk:j=k:=by omega
   exact hK [] [.row false 73 L] ⟨rfl,by rw[hS,<-hjk,<-hL]⟩
theorem b6Z (P X Y S:List Rw) (h5:∀x∈P++(X++(Y++S)),x.length=5) (fid:Nat) (hN:(P++(X++(Y++S))).length<=1048576) (hx:0<X.length) (hy:0<Y.length) :
  a0W 89 [.own 0,vi .i64 P.length,vi .i64 (P.length+X.length:Nat),vi .i64 (P.length+X.length+Y.length:Nat),.cl fid []] [.row false 73 (P++(X++(Y++S)))] (λres os=>res=[]/\os=[.row false 73 (P++(Y++(X++S)))]):=by
 obtain⟨za,hza⟩:∃z:Int,z=(P.length:Int):=⟨_,rfl⟩;obtain⟨zm,hzm⟩:∃z:Int,z=((P.length+X.length:Nat):Int):=⟨_,rfl⟩;obtain⟨zb,hzb⟩:∃z:Int,z=((P.length+X.length+Y.length:Nat):Int):=⟨_,rfl⟩;obtain⟨L,hL⟩:∃L,L=P++(X++(Y++S)):=⟨_,rfl⟩;obtain⟨M,hM⟩:∃M,M=P++(Y++(X++S)):=⟨_,rfl⟩;rw[<-hza,<-hzm,<-hzb,<-hM,<-hL];rw[<-hL] at h5 hN;have hLl:L.length=P.length+X.length+Y.length+S.length:=by rw[hL];simp only[c29];omega
 refine a0q Tryd.func89 rfl (by kernel_rfl) (by kernel_rfl) (by kernel_rfl) rfl rfl (by rintro _ _ ⟨_,rfl⟩;rfl) ?_;intro qa qb qc _ _ _ _ qh _ qj;intros;rename_i hA K hK;cbv;refine gn ?_;try simp only[nc] at *
 obtain⟨e1,e2,e3,e4,e5,e6,e7,e8,e9⟩:=j8 hA;have wi:qa .i64 (qc zm za)=(X.length:Int):=by rw[e1,e3,hza,hzm,IntWalk.i64_in _ (by omega)];omega
 have wj:qa .i64 (qc zb zm)=(Y.length:Int):=by rw[e1,e3,hzb,hzm,IntWalk.i64_in _ (by omega)];omega
 refine l9 hA (γ:=Int×Int×List (List D)) (λx=>[(10,vi .i64 x.1),(11,vi .i64 x.2.1)]) (λx=>[(0,.row false 73 x.2.2)])
  (λx=>∃P' X' Y' S':List Rw,0<X'.length/\0<Y'.length/\P'.length+X'.length=P.length+X.length/\x.1=(X'.length:Int)/\x.2.1=(Y'.length:Int)/\P'++(Y'++(X'++S'))=M/\x.2.2=P'++(X'++(Y'++S'))/\x.2.2.length=L.length/\∀r∈x.2.2,r.length=5) (λx=>x.1.toNat+x.2.1.toNat) (qa .i64 (qc zm za),qa .i64 (qc zb zm),L) ?_ ?_ ?_
 ·exact⟨P,X,Y,S,hx,hy,rfl,wi,wj,hM.symm,hL,rfl,h5⟩
 ·cbv
 ·intro x hinv;obtain⟨zi,zj,Q⟩:=x;cbv;refine gn ?_;try simp only[nc] at *
  obtain⟨P',X',Y',S',hx',hy',hm,hi,hj,he,hQ,hQl,hQ5⟩:=hinv;replace hQ:Q=P'++(X'++(Y'++S')):=hQ;replace hQl:Q.length=L.length:=hQl;have hQl2:Q.length=P'.length+X'.length+Y'.length+S'.length:=by rw[hQ];simp only[c29];omega
  have heq:qj zi zj=(zi == zj):=e9 _ _;have hgt:qh zj zi=decide (Y'.length<X'.length):=by rw[e7,hi,hj];exact c2Q.2 (by omega)
  have wp:qa .i64 (qc zm zi)=(P'.length:Int):=by rw[e1,e3,hzm,hi,IntWalk.i64_in _ (by omega)];omega
  by_cases hij:X'.length=Y'.length
  ·have h1:qj zi zj=true:=by rw[heq,hi,hj,hij];exact c4a _
   have hsp:=a2W P' X' [] Y' S' hij;rw[c3t,c3t,<-hQ,he,c2N,c3I] at hsp;have hsw:=b25 Q hQ5 P'.length (P'.length+X'.length) X'.length fid (by omega) (c2A _) (by omega);rw[hsp,<-wp,hm,<-hzm,<-hi] at hsw;rw[h1];cbv;refine gn ?_;try simp only[nc] at *
   refine C3 hA [0] hsw ⟨rfl,rfl,rfl,rfl,rfl,rfl,rfl⟩ ?_
   rintro res os2 ⟨rfl,rfl⟩
   cbv;refine gn ?_;try simp only[nc] at *
   exact hK [] [.row false 73 M] ⟨rfl,rfl⟩
  ·have h1:qj zi zj=false:=by rw[heq,hi,hj,c2O];omega
   rw[h1];cbv;refine gn ?_;try simp only[nc] at *
   by_cases hlt:Y'.length<X'.length
   ·rw[c2J hlt] at hgt;obtain⟨X1,X2,hX,hX1⟩:=a1a (l:=X') (n:=Y'.length) (by omega);have hX2:Y'.length+X2.length=X'.length:=by rw[hX,c29];omega
    have hsp:=a2W P' X1 X2 Y' S' hX1;have hQ2:P'++(X1++(X2++(Y'++S')))=Q:=by rw[hQ,hX];simp only[c3m]
    rw[hQ2,hX1] at hsp;have hsw:=b25 Q hQ5 P'.length (P'.length+Y'.length+X2.length) Y'.length fid (by omega) (by omega) (by omega);rw[hsp,show P'.length+Y'.length+X2.length=P.length+X.length by omega,<-wp,<-hzm,<-hj] at hsw;rw[hgt];cbv;refine gn ?_;try simp only[nc] at *
    refine C3 hA [0] hsw ⟨rfl,rfl,rfl,rfl,rfl,rfl,rfl⟩ ?_
    rintro res os2 ⟨rfl,rfl⟩
    cbv;refine gn ?_;try simp only[nc] at *
    have wz:qa .i64 (qc zi zj)=(X2.length:Int):=by rw[e1,e3,hi,hj,IntWalk.i64_in _ (by omega)];omega
    have hmu:(qa .i64 (qc zi zj)).toNat+zj.toNat<zi.toNat+zj.toNat:=by rw[wz,hi,hj];omega
    refine⟨(qa .i64 (qc zi zj),zj,P'++(Y'++(X2++(X1++S')))),⟨P'++Y',X2,X1,S',by omega,by omega,by rw[c29];omega,wz,by rw[hX1];exact hj,?_,by simp only[c3m],?_,?_⟩,hmu,?_⟩
    ·rw[<-he,hX];simp only[c3m]
    ·show (P'++(Y'++(X2++(X1++S')))).length=L.length;rw[<-hQl,<-hQ2];simp only[c29];omega
    ·intro r hr;refine hQ5 r ?_;rw[<-hQ2];simp only[c2W] at hr ⊢
     grind
    ·cbv
   ·rw[c2G hlt] at hgt;obtain⟨Y1,Y2,hY,hY1⟩:=a1a (l:=Y') (n:=Y'.length - X'.length) (by omega);have hY2:Y2.length=X'.length:=by have:=congrArg List.length hY;rw[c29] at this;omega
    have hsp:=a2W P' X' Y1 Y2 S' hY2.symm;have hQ2:P'++(X'++(Y1++(Y2++S')))=Q:=by rw[hQ,hY];simp only[c3m]
    rw[hQ2] at hsp;have hsw:=b25 Q hQ5 P'.length (P'.length+X'.length+Y1.length) X'.length fid (by omega) (by omega) (by omega)
    have wq:qa .i64 (qc (qa .i64 (qb zm zj)) zi)=((P'.length+X'.length+Y1.length:Nat):Int):=by
     have h2:qa .i64 (qb zm zj)=((P.length+X.length+Y'.length:Nat):Int):=by rw[e1,e2,hzm,hj,IntWalk.i64_in _ (by omega)];omega
     rw[h2,e1,e3,hi,IntWalk.i64_in _ (by omega)];omega
    rw[hsp,<-wp,<-wq,<-hi] at hsw;rw[hgt];cbv;refine gn ?_;try simp only[nc] at *
    refine C3 hA [0] hsw ⟨rfl,rfl,rfl,rfl,rfl,rfl,rfl⟩ ?_
    rintro res os2 ⟨rfl,rfl⟩
    cbv;refine gn ?_;try simp only[nc] at *
    have wz:qa .i64 (qc zj zi)=(Y1.length:Int):=by rw[e1,e3,hi,hj,IntWalk.i64_in _ (by omega)];omega
    have hmu:zi.toNat+(qa .i64 (qc zj zi)).toNat<zi.toNat+zj.toNat:=by rw[wz,hi,hj];omega
    refine⟨(zi,qa .i64 (qc zj zi),P'++(Y2++(Y1++(X'++S')))),⟨P',Y2,Y1,X'++S',by omega,by omega,by omega,by rw[hY2];exact hi,wz,?_,rfl,?_,?_⟩,hmu,?_⟩
    ·rw[<-he,hY];simp only[c3m]
    ·show (P'++(Y2++(Y1++(X'++S')))).length=L.length;rw[<-hQl,<-hQ2];simp only[c29];omega
    ·intro r hr;refine hQ5 r ?_;rw[<-hQ2];simp only[c2W] at hr ⊢
     grind
    ·cbv
def a2q (a b:List UInt8):Int:=if Op.bytesLess a b=true then -1 else if Op.bytesLess b a=true then 1 else 0
theorem a4P (a b:List UInt8):decide (a2q a b<0)=Op.bytesLess a b:=by
 unfold a2q
 split
 ·simp_all
 ·split <;> simp_all
def a8m (fid:Nat):Prop:=∀(n m:ByteArray) (x1 x2 x3 x4 y1 y2 y3 y4:D),m6 fid [.ag [.sc (.string n),x1,x2,x3,x4],.ag [.sc (.string m),y1,y2,y3,y4]] [.one (.sc (.int .i64 (a2q n.toList m.toList)))]
def Ok5 (x:Rw):Prop:=∃n x1 x2 x3 x4,x=[.sc (.string n),x1,x2,x3,x4]
theorem Ok5.len {x:Rw} (h:Ok5 x):x.length=5:=by obtain⟨n,x1,x2,x3,x4,rfl⟩:=h;rfl
theorem b26 (l:List Rw) (x:Rw) {m:List Rw} (hs:N5 z7 m) (ht:W8 z7 m (i6 z7 l++[x])):m=i6 z7 (l++[x]):=a4M L4 hs (ht.trans (W8.append (J6 L4 l) (.refl _)))
theorem b1k (fid:Nat) (hc:a8m fid) (P D S:List Rw) (h5:∀x∈P++(D++S),Ok5 x) (hN:(P++(D++S)).length<=1048576) :
  a0W 80 [.own 0,vi .i64 P.length,vi .i64 (P.length+D.length:Nat),.cl fid []] [.row false 73 (P++(D++S))] (λres os=>res=[]/\os=[.row false 73 (P++(i6 z7 D++S))]):=by
 obtain⟨za,hza⟩:∃z:Int,z=(P.length:Int):=⟨_,rfl⟩;obtain⟨zb,hzb⟩:∃z:Int,z=((P.length+D.length:Nat):Int):=⟨_,rfl⟩;obtain⟨L,hL⟩:∃L,L=P++(D++S):=⟨_,rfl⟩;obtain⟨M,hM⟩:∃M,M=P++(i6 z7 D++S):=⟨_,rfl⟩;rw[<-hza,<-hzb,<-hM,<-hL];rw[<-hL] at h5 hN;have hLl:L.length=P.length+D.length+S.length:=by rw[hL];simp only[c29];omega
 refine a0q Tryd.func80 rfl (by kernel_rfl) (by kernel_rfl) (by kernel_rfl) rfl rfl (by rintro _ _ ⟨_,rfl⟩;rfl) ?_;intro qa qb qc _ _ _ _ qh _ _ _ _ _ _ _ _ _ _ _ _ _ _ _ qz _ _ vd;intros;rename_i hA K hK;cbv;refine gn ?_;try simp only[nc] at *
 obtain⟨e1,e2,e3,e4,e5,e6,e7,e8,e9⟩:=j8 hA;obtain⟨r1,r2,r3,r4⟩:=n9 hA;obtain⟨m1,m2,m3,m4⟩:=H2 hA;have wi:qa .i64 (qb za 1)=((P.length+1+0:Nat):Int):=by rw[e1,e2,hza,IntWalk.i64_in _ (by omega)];omega
 refine l9 hA (γ:=Int×List Rw) (λx=>[(8,vi .i64 x.1)]) (λx=>[(0,.row false 73 x.2)])
  (λx=>∃k:Nat,x.1=((P.length+1+k:Nat):Int)/\(k=0\/k+1<=D.length)/\x.2=P++(i6 z7 (D.take (k+1))++(D.drop (k+1)++S))/\x.2.length=L.length/\∀r∈x.2,r∈L) (λx=>L.length+1 - x.1.toNat) (qa .i64 (qb za 1),L) ?_ ?_ ?_
 ·refine⟨0,wi,.inl rfl,?_,rfl,λr h=>h⟩
  have:i6 z7 (D.take 1)=D.take 1:=by
   cases D with
   | nil=>rfl
   | cons d D=>rfl
  show L=_;rw[this,hL,<-c3m (D.take 1),c3D]
 ·cbv
 ·intro x hinv;obtain⟨z,Q⟩:=x;cbv;refine gn ?_;try simp only[nc] at *
  obtain⟨k,hz,hk,hQ,hQl,hQm⟩:=hinv;have hlt:qh z zb=decide (k+1<D.length):=by rw[e7,hz,hzb];exact c2Q.2 (by omega)
  by_cases h9:k+1<D.length
  ·rw[c2J h9] at hlt;obtain⟨x,hx⟩:∃x,D[k+1]?=some x:=⟨_,c28 h9⟩;obtain⟨hxi,hxe⟩:=c25.1 hx;obtain⟨D1,hD1⟩:∃D1,D1=D.take (k+1):=⟨_,rfl⟩;obtain⟨D2,hD2⟩:∃D2,D2=D.drop (k+1+1):=⟨_,rfl⟩;have hdrop:D.drop (k+1)=x::D2:=by rw[hD2,c2X hxi,hxe]
   have htake:D.take (k+1+1)=D1++[x]:=by rw[hD1];exact a2X hx
   rw[<-hD1,hdrop] at hQ;obtain⟨E,hE⟩:∃E,E=i6 z7 D1:=⟨_,rfl⟩;rw[<-hE] at hQ;have hEl:E.length=k+1:=by rw[hE,a0M,hD1,c3h];omega
   have hEs:N5 z7 E:=by rw[hE];exact J5 L4 D1
   have hxm:x∈L:=hQm x (by rw[hQ];simp);obtain⟨nx,x1,x2,x3,x4,hxx⟩:=h5 x hxm;rw[hlt];cbv;refine gn ?_;try simp only[nc] at *
   refine l9 hA (γ:=Int×List Rw) (λx=>[(9,vi .i64 x.1)]) (λx=>[(0,.row false 73 x.2)])
    (λy=>∃L1 L2:List Rw,y.1=((P.length+L1.length:Nat):Int)/\E=L1++L2/\(∀r∈L2,z7 x r=true)/\y.2=P++(L1++(x::(L2++(D2++S))))/\y.2.length=L.length/\∀r∈y.2,r∈L) (λy=>y.1.toNat) (z,Q) ?_ ?_ ?_
   ·exact⟨E,[],by rw[hEl];show z=_;rw[hz];congr 1;omega,by simp,by simp,by rw[hQ];simp,hQl,hQm⟩
   ·cbv
   ·intro y hinv;obtain⟨zj,N⟩:=y;cbv;refine gn ?_;try simp only[nc] at *
    obtain⟨L1,L2,hj,hEE,hL2,hNN,hNl,hNm⟩:=hinv;have hLAST:=λ(h1:∀y∈L1,z7 x y=false)=>a3K L4 (x:=x) (u1:=L1) (u2:=L2) (by rw[<-hEE];exact hEs) h1 hL2
    have hNl2:N.length=P.length+L1.length+1+L2.length+D2.length+S.length:=by rw[hNN];simp only[c29,c2D];omega
    have hz1:qa .i64 (qb z 1)=((P.length+1+(k+1):Nat):Int):=by rw[e1,e2,hz,IntWalk.i64_in _ (by omega)];omega
    have hmz:L.length+1 - (qa .i64 (qb z 1)).toNat<L.length+1 - z.toNat:=by rw[hz1,hz];omega
    have hdone:(∀y∈L1,z7 x y=false)->N=P++(i6 z7 (D.take (k+1+1))++(D.drop (k+1+1)++S)):=λh=>by
     obtain⟨h1,h2⟩:=hLAST h;have h3:L1++x::L2=i6 z7 (D1++[x]):=b26 D1 x h1 (by rw[<-hE,hEE];exact h2);rw[htake,<-hD2,<-h3,hNN]
     simp
    rcases (show L1=[]\/∃L y,L1=L++[y] by simpa [List.concat_eq_append] using List.eq_nil_or_concat L1) with hnil|⟨L0,y,hsn⟩
    ·have hlt2:qh za zj=false:=by rw[e7,hza,hj,hnil];simp
     rw[hlt2];cbv;refine gn ?_;try simp only[nc] at *
     refine⟨(qa .i64 (qb z 1),N),⟨k+1,hz1,.inr h9,hdone (by rw[hnil];simp),hNl,hNm⟩,hmz,?_⟩;cbv
    ·have hl1:L1.length=L0.length+1:=by rw[hsn];simp
     have hlt2:qh za zj=true:=by rw[e7,hza,hj];exact c2J (by omega)
     have hym:y∈L:=hNm y (by rw[hNN,hsn];simp);obtain⟨ny,y1,y2,y3,y4,hyy⟩:=h5 y hym;have wj:qa .i64 (qc zj 1)=((P.length+L0.length:Nat):Int):=by rw[e1,e3,hj,IntWalk.i64_in _ (by omega)];omega
     have hNP:N=(P++L0)++y::x::(L2++(D2++S)):=by rw[hNN,hsn];simp
     have hpl:(P++L0).length=P.length+L0.length:=c29
     have gx:qz N zj=some [.sc (.string nx),x1,x2,x3,x4]:=by
      rw[r2,c2E (by omega),hj,c2T,hNP,c2P (by omega),hpl,show P.length+L1.length - (P.length+L0.length)=1 by omega,<-hxx];rfl
     have gy:qz N (qa .i64 (qc zj 1))=some [.sc (.string ny),y1,y2,y3,y4]:=by
      rw[wj,r2,c2E (by omega),c2T,hNP,c2P (by omega),hpl,c4e,<-hyy];rfl
     have gy2:∀v,qz (vd N zj v) (qa .i64 (qc zj 1))=some [.sc (.string ny),y1,y2,y3,y4]:=λv=>by
      rw[<-gy,r2,r2,m4,wj,hj,c2T,c2T,c2L (by omega)]
     have hcmp:=hc nx ny x1 x2 x3 x4 y1 y2 y3 y4;have hneg:qh (a2q nx.toList ny.toList) 0=z7 x y:=by rw[e7,a4P,hxx,hyy];rfl
     generalize a2q nx.toList ny.toList=cv at *;rw[hlt2];cbv;refine gn ?_;try simp only[nc] at *
     repeat (first|(rw[gx];cbv)|(rw[gy];cbv)|(with_reducible apply b5 hA;cbv))
     refine c5 hA _ hcmp ?_;cbv;cases hb:z7 x y
     ·rw[hb] at hneg;rw[hneg];cbv;refine gn ?_;try simp only[nc] at *
      refine⟨(qa .i64 (qb z 1),N),⟨k+1,hz1,.inr h9,hdone ?_,hNl,hNm⟩,hmz,?_⟩
      ·rw[hsn];exact c0A (by rw[<-hsn];exact(C0.1 (by rw[<-hEE];exact hEs)).1) hb
      ·cbv
     ·rw[hb] at hneg;rw[hneg];cbv;refine gn ?_;try simp only[nc] at *
      repeat (first|(rw[gx];cbv)|(rw[gy];cbv)|(rw[gy2];cbv)|(with_reducible apply b5 hA;cbv))
      try simp only[nc] at *
      refine⟨(qa .i64 (qc zj 1),vd (vd N zj [.sc (.string ny),y1,y2,y3,y4]) (qa .i64 (qc zj 1)) [.sc (.string nx),x1,x2,x3,x4]),⟨L0,y::L2,wj,by rw[hEE,hsn];simp,?_,?_,?_,?_⟩,?_,?_⟩
      ·intro r hr
       rcases c2C.1 hr with rfl|hr
       ·exact hb
       ·exact hL2 r hr
      ·show vd (vd N zj _) _ _=_;rw[m4,m4,wj,hj,c2T,c2T,hNP,<-hxx,<-hyy,show P.length+L1.length=P.length+L0.length+1 by omega,b1h _ _ _ _ hpl]
       simp
      ·show (vd (vd N zj _) _ _).length=_;rw[m4,m4,c2K,c2K];exact hNl
      ·intro r hr;have hr:r∈vd (vd N zj [.sc (.string ny),y1,y2,y3,y4]) (qa .i64 (qc zj 1)) [.sc (.string nx),x1,x2,x3,x4]:=hr;rw[m4,m4,<-hxx,<-hyy] at hr
       rcases c36 hr with hr|rfl
       ·rcases c36 hr with hr|rfl
        ·exact hNm r hr
        ·exact hym
       ·exact hxm
      ·show (qa .i64 (qc zj 1)).toNat<zj.toNat;rw[wj,hj];omega
      ·cbv
  ·rw[c2G h9] at hlt;rw[hlt];cbv;refine gn ?_;try simp only[nc] at *
   have e:Q=M:=by rw[hQ,hM,c3r (by omega),c3j (by omega)];rfl
   rw[e];exact hK [] [.row false 73 M] ⟨rfl,rfl⟩
end Go.Proofs.YtlofmibkljoapaaDoor.Vm
end

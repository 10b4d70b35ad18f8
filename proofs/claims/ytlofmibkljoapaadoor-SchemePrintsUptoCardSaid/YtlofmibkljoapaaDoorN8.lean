/- Part 8 of the proof. Conditions: none. -/
import Derived.Test.YtlofmibkljoapaaDoorN1
import Derived.Test.YtlofmibkljoapaaDoorN4
import Derived.IntWalk
import Derived.Test.YtlofmibkljoapaaDoorN0
set_option linter.all false
set_option linter.unusedVariables false
set_option linter.unusedSimpArgs false
section
namespace Go.Proofs.YtlofmibkljoapaaDoor.Vm
open Go.RowKit
set_option maxRecDepth 100000
set_option maxHeartbeats 4000000
def rF (fs:List (ByteArray×Ty)):List (List D):=fs.map λf=>.sc (.string f.1)::cT f.2
theorem G1 (fs:List (ByteArray×Ty)):(rF fs).length=fs.length:=by rw[rF,c4h]
theorem a1d {fs:List (ByteArray×Ty)} {k:Nat} {x:ByteArray×Ty} (h:fs[k]?=some x):(rF fs)[k]?=some (.sc (.string x.1)::cT x.2):=by rw[rF,c4j,h];rfl
theorem c9 (t:Ty):∃c0 c1 c2 c3,cT t=[c0,c1,c2,c3]:=by obtain⟨op,nm,n,ks⟩:=t;exact⟨_,_,_,_,by rw[cT]⟩
end Go.Proofs.YtlofmibkljoapaaDoor.Vm
end
section
namespace Go.Proofs.YtlofmibkljoapaaDoor
open Go.RowKit
set_option maxRecDepth 100000
set_option maxHeartbeats 4000000
section
section
variable {α:Type}
structure Swo (lt:α->α->Bool):Prop where
 irr:∀x,lt x x=false
 tra:∀x y z,lt x y=true->lt y z=true->lt x z=true
 neg:∀x y z,lt x y=false->lt y z=false->lt x z=false
variable {lt:α->α->Bool}
def eqv (lt:α->α->Bool) (x y:α):Bool:=!lt x y && !lt y x
def P7 (lt:α->α->Bool) (l:List α):Prop:=l.Pairwise λx y=>lt y x=false
def Z5 (lt:α->α->Bool) (l m:List α):Prop:=∀x,l.filter (eqv lt x)=m.filter (eqv lt x)
theorem Z5.refl (l:List α):Z5 lt l l:=λ_=>rfl
theorem Z5.symm {l m:List α} (h:Z5 lt l m):Z5 lt m l:=λx=>(h x).symm
theorem Z5.trans {l m n:List α} (h:Z5 lt l m) (k:Z5 lt m n):Z5 lt l n:=λx=>(h x).trans (k x)
theorem Z5.append {l m l' m':List α} (h:Z5 lt l l') (k:Z5 lt m m'):Z5 lt (l++m) (l'++m'):=λx=>by rw[c5B,c5B,h x,k x]
theorem b1v (h:Swo lt) (x:α):eqv lt x x=true:=by unfold eqv;rw[h.irr];rfl
theorem Z5.mem (h:Swo lt) {l m:List α} (s:Z5 lt l m) {x:α} (hx:x∈l):x∈m:=by
 have:x∈l.filter (eqv lt x):=c5b.2 ⟨hx,b1v h x⟩;rw[s x] at this;exact(c5b.1 this).1
theorem Z5.swap (h:Swo lt) {u v:List α} (huv:∀x∈u,∀y∈v,lt y x=true):Z5 lt (u++v) (v++u):=λz=>by
 rw[c5B,c5B]
 by_cases hu:u.filter (eqv lt z)=[]
 ·rw[hu];simp
 ·by_cases hv:v.filter (eqv lt z)=[]
  ·rw[hv];simp
  ·exfalso;obtain⟨x,hx⟩:=List.exists_mem_of_ne_nil _ hu;obtain⟨y,hy⟩:=List.exists_mem_of_ne_nil _ hv;obtain⟨hx1,hx2⟩:=c5b.1 hx;obtain⟨hy1,hy2⟩:=c5b.1 hy;have h1:=huv x hx1 y hy1;unfold eqv at hx2 hy2;simp only[c3D,c5G] at hx2 hy2;have:=h.neg y z x hy2.2 hx2.1;rw[h1] at this;cases this
theorem a7E (h:Swo lt):∀ {l m:List α},P7 lt l->P7 lt m->Z5 lt l m->l=m
 | [],m,_,_,s=>by
  cases m with
  | nil=>rfl
  | cons y m=>exact absurd (s.symm.mem h (c38 ..)) (by simp)
 | x::l,[],_,_,s=>absurd (s.mem h (c38 ..)) (by simp)
 | x::l,y::m,hl,hm,s=>by
  have hxm:=s.mem h (c38 (a:=x) (l:=l));have hyl:=s.symm.mem h (c38 (a:=y) (l:=m))
  have hlx:∀z∈x::l,lt z x=false:=λz hz=>by
   rcases c3F.1 hz with rfl|hz
   ·exact h.irr _
   ·exact(c4n.1 hl).1 z hz
  have hmy:∀z∈y::m,lt z y=false:=λz hz=>by
   rcases c3F.1 hz with rfl|hz
   ·exact h.irr _
   ·exact(c4n.1 hm).1 z hz
  have e1:eqv lt x y=true:=by unfold eqv;rw[hmy x hxm,hlx y hyl];rfl
  have s1:=s x;rw[c55,c55,b1v h x,e1] at s1;simp only[c5O] at s1;injection s1 with s1 s2;subst s1
  congr 1
  refine a7E h (c4n.1 hl).2 (c4n.1 hm).2 λz=>?_
  have sz:=s z;rw[c55,c55] at sz
  by_cases hz:eqv lt z x=true
  ·rw[c3E hz,c3E hz] at sz;injection sz
  ·rw[c3G hz,c3G hz] at sz;exact sz
def P8 (lt:α->α->Bool) (x:α):List α->List α
 | []=>[x]
 | y::l=>if lt x y=true then x::y::l else y::P8 lt x l
def d5 (lt:α->α->Bool) (l:List α):List α:=l.foldl (λacc x=>P8 lt x acc) []
theorem b4w (h:Swo lt) (x:α):∀l:List α,P7 lt l->Z5 lt (P8 lt x l) (l++[x])
 | [],_=>.refl _
 | y::l,hl=>by
  unfold P8
  by_cases hx:lt x y=true
  ·rw[c3E hx]
   have:Z5 lt ([x]++(y::l)) ((y::l)++[x]):=(Z5.swap h (u:=y::l) (v:=[x]) λz hz w hw=>by
    simp at hw
    subst hw
    rcases c3F.1 hz with rfl|hz
    ·exact hx
    ·have h1:=(c4n.1 hl).1 z hz;cases hwz:lt w z
     ·have:=h.neg w z y hwz h1;rw[hx] at this;cases this
     ·rfl).symm
   exact this
  ·rw[c3G hx];exact Z5.append (.refl [y]) (b4w h x l (c4n.1 hl).2)
theorem a9Y (x:α):∀(l:List α) (z:α),z∈P8 lt x l->z=x\/z∈l
 | [],z,hz=>by simp[P8] at hz;exact .inl hz
 | y::l,z,hz=>by
  unfold P8 at hz
  split at hz
  ·rcases c3F.1 hz with h|h
   ·exact .inl h
   ·exact .inr h
  ·rcases c3F.1 hz with h|h
   ·exact .inr (by rw[h];exact c38 ..)
   ·rcases a9Y x l z h with h|h
    ·exact .inl h
    ·exact .inr (c36 _ h)
theorem b4x (h:Swo lt) (x:α):∀l:List α,P7 lt l->P7 lt (P8 lt x l)
 | [],_=>by unfold P8 P7;simp
 | y::l,hl=>by
  obtain⟨h1,h2⟩:=c4n.1 hl;unfold P8
  by_cases hx:lt x y=true
  ·rw[c3E hx];refine c4n.2 ⟨λz hz=>?_,hl⟩
   have hyx:lt y x=false:=by
    cases hyx:lt y x
    ·rfl
    ·have:=h.tra x y x hx hyx;rw[h.irr] at this;cases this
   rcases c3F.1 hz with rfl|hz
   ·exact hyx
   ·exact h.neg z y x (h1 z hz) hyx
  ·rw[c3G hx];refine c4n.2 ⟨λz hz=>?_,b4x h x l h2⟩
   rcases a9Y x l z hz with rfl|hz
   ·simpa using hx
   ·exact h1 z hz
theorem a9Z (h:Swo lt):∀(l acc:List α),P7 lt acc->P7 lt (l.foldl (λacc x=>P8 lt x acc) acc)/\Z5 lt (l.foldl (λacc x=>P8 lt x acc) acc) (acc++l)
 | [],acc,ha=>⟨ha,by rw[c3X];exact .refl _⟩
 | x::l,acc,ha=>by
  obtain⟨h1,h2⟩:=a9Z h l (P8 lt x acc) (b4x h x acc ha);refine⟨h1,h2.trans ?_⟩;have:=Z5.append (b4w h x acc ha) (.refl (lt:=lt) l)
  rwa [c4c] at this
theorem M4 (h:Swo lt) (l:List α):P7 lt (d5 lt l):=(a9Z h l [] List.Pairwise.nil).1
theorem Y3 (h:Swo lt) (l:List α):Z5 lt (d5 lt l) l:=(a9Z h l [] List.Pairwise.nil).2
theorem a6C (h:Swo lt) {l m:List α} (hs:P7 lt m) (ht:Z5 lt m l):m=d5 lt l:=a7E h hs (M4 h l) (ht.trans (Y3 h l).symm)
theorem C6 {l m:List α}:P7 lt (l++m)↔P7 lt l/\P7 lt m/\∀x∈l,∀y∈m,lt y x=false:=c5R
theorem a7F (h:Swo lt) {x y:α} (hxy:lt x y=true):lt y x=false:=by
 cases hyx:lt y x
 ·rfl
 ·have:=h.tra x y x hxy hyx;rw[h.irr] at this;cases this
theorem a0x (h:Swo lt) {x y z:α} (hxy:lt x y=true) (hyz:lt z y=false):lt x z=true:=by
 cases hxz:lt x z
 ·have:=h.neg x z y hxz hyz;rw[hxy] at this;cases this
 ·rfl
theorem a3a (h:Swo lt) {x y z:α} (hxy:lt y x=false) (hyz:lt y z=true):lt x z=true:=by
 cases hxz:lt x z
 ·have:=h.neg y x z hxy hxz;rw[hyz] at this;cases this
 ·rfl
theorem a4U (h:Swo lt) {x:α} {v1 v2:List α} (hs:P7 lt (v1++v2)) (h1:∀y∈v1,lt y x=true) (h2:∀y∈v2,lt y x=false) :
  P7 lt (v1++(x::v2))/\Z5 lt (v1++(x::v2)) (x::(v1++v2)):=by
 obtain⟨s1,s2,s3⟩:=C6.1 hs;refine⟨C6.2 ⟨s1,c4n.2 ⟨h2,s2⟩,λy hy z hz=>?_⟩,?_⟩
 ·rcases c3F.1 hz with rfl|hz
  ·exact a7F h (h1 y hy)
  ·exact s3 y hy z hz
 ·have:=Z5.append (Z5.swap h (u:=[x]) (v:=v1) λz hz y hy=>by simp at hz;subst hz;exact h1 y hy) (.refl (lt:=lt) v2)
  simpa using this.symm
theorem a3U (h:Swo lt) {x:α} {u1 u2:List α} (hs:P7 lt (u1++u2)) (h1:∀y∈u1,lt x y=false) (h2:∀y∈u2,lt x y=true) :
  P7 lt (u1++(x::u2))/\Z5 lt (u1++(x::u2)) ((u1++u2)++[x]):=by
 obtain⟨s1,s2,s3⟩:=C6.1 hs;refine⟨C6.2 ⟨s1,c4n.2 ⟨λy hy=>a7F h (h2 y hy),s2⟩,λy hy z hz=>?_⟩,?_⟩
 ·rcases c3F.1 hz with rfl|hz
  ·exact h1 y hy
  ·exact s3 y hy z hz
 ·have:=Z5.append (.refl (lt:=lt) u1) (Z5.swap h (u:=u2) (v:=[x]) λz hz y hy=>by simp at hy;subst hy;exact h2 z hz)
  simpa using this.symm
theorem b0a (h:Swo lt) {L1 L2 u v P R:List α} (hl:P7 lt (L1++u)) (hr:P7 lt (v++L2)) (huv:∀x∈u,∀y∈v,lt y x=true) (hL:∀x∈L1,∀y∈L2,lt y x=false)
  (hP:P7 lt P) (sP:Z5 lt P (L1++v)) (hR:P7 lt R) (sR:Z5 lt R (u++L2)):P7 lt (P++R)/\Z5 lt (P++R) ((L1++u)++(v++L2)):=by
 obtain⟨a1,a2,a3⟩:=C6.1 hl;obtain⟨b1,b2,b3⟩:=C6.1 hr;refine⟨C6.2 ⟨hP,hR,λx hx y hy=>?_⟩,?_⟩
 ·have hx':=sP.mem h hx;have hy':=sR.mem h hy
  rcases c4b.1 hx' with hx'|hx' <;> rcases c4b.1 hy' with hy'|hy'
  ·exact a3 x hx' y hy'
  ·exact hL x hx' y hy'
  ·exact a7F h (huv y hy' x hx')
  ·exact b3 x hx' y hy'
 ·have s1:=(sP.append sR)
  have s2:Z5 lt ((L1++v)++(u++L2)) ((L1++u)++(v++L2)):=by
   have:=Z5.append (Z5.append (.refl (lt:=lt) L1) (Z5.swap h huv).symm) (.refl (lt:=lt) L2)
   simpa using this
  exact s1.trans s2
end
end
end Go.Proofs.YtlofmibkljoapaaDoor
end
section
namespace Go.Proofs.YtlofmibkljoapaaDoor.Vm
open Go.RowKit
set_option maxRecDepth 100000
set_option maxHeartbeats 4000000
def A4 (fs:List (ByteArray×Ty)) (tail:Ty):Ty:=fs.foldr (λf r=>.mk 11 f.1 0 [f.2,r]) tail
def G2:Ty->Prop
 | .mk op _ _ [_,r]=>op=11->G2 r
 | .mk op _ _ _=>op≠11
def c6:Ty->List (ByteArray×Ty)
 | .mk op nm _ [x,r]=>if op=11 then (nm,x)::c6 r else []
 | _=>[]
def f7:Ty->Ty
 | .mk op nm n [x,r]=>if op=11 then f7 r else .mk op nm n [x,r]
 | t=>t
theorem z8:∀ {t:Ty},t.op≠11->c6 t=[]/\f7 t=t
 | .mk op nm n [],_=>⟨rfl,rfl⟩
 | .mk op nm n [x],_=>⟨rfl,rfl⟩
 | .mk op nm n [x,r],h=>by
  have h':op≠11:=h;unfold c6 f7;rw[c3G h',c3G h'];exact⟨rfl,rfl⟩
 | .mk op nm n (x::y::z::l),_=>⟨rfl,rfl⟩
theorem C4:∀ {t:Ty},G2 t->t.op=11->∃a b,t.kids=[a,b]/\G2 b/\c6 t=(t.name,a)::c6 b/\f7 t=f7 b
 | .mk op nm n [],h,h'=>absurd h' h
 | .mk op nm n [x],h,h'=>absurd h' h
 | .mk op nm n [x,r],h,h'=>by
  have e:op=11:=h';subst e;refine⟨x,r,rfl,h rfl,?_,?_⟩
  ·conv=>lhs;unfold c6
   rw[c3E rfl];rfl
  ·conv=>lhs;unfold f7
   rw[c3E rfl]
 | .mk op nm n (x::y::z::l),h,h'=>absurd h' h
def x8 (a b:ByteArray×Ty):Bool:=Op.bytesLess a.1.toList b.1.toList
theorem a5R (ds:List (ByteArray×Ty)) (d:ByteArray×Ty):d5 x8 (ds++[d])=P8 x8 d (d5 x8 ds):=by
 unfold d5;rw[c50];rfl
theorem b4y {α:Type} {lt:α->α->Bool} (x:α):∀l:List α,(P8 lt x l).length=l.length+1
 | []=>rfl
 | y::l=>by
  unfold P8
  split
  ·rfl
  ·simp[b4y x l]
def atS:List Int->Int->Nat->Int
 | [],_,_=>-1
 | y::l,x,k=>if y=x then k else atS l x (k+1)
theorem b1w:∀(l:List Int) (x:Int) (k:Nat),x∉l->atS l x k=-1
 | [],_,_,_=>rfl
 | y::l,x,k,h=>by
  rw[atS,c3G (λe=>h (by rw[e];exact c38 ..)),b1w l x (k+1) (λhm=>h (c36 _ hm))]
theorem b0b:∀(l:List Int) (x:Int) (k:Nat),x∈l->0<=atS l x k
 | [],_,_,h=>by simp at h
 | y::l,x,k,h=>by
  rw[atS]
  split
  ·omega
  ·rename_i hne
   rcases c3F.1 h with rfl|h
   ·exact absurd rfl hne
   ·exact b0b l x (k+1) h
def a3b:Nat->Ty->Ty
 | 0,t=>t
 | m+1,t=>if t.op=11 then A4 ((d5 x8 (c6 t)).map λf=>(f.1,a3b m f.2)) (f7 t) else .mk t.op t.name t.n (t.kids.map (a3b m))
def b9 (t:Ty):Ty:=a3b t.parts.length t
theorem A1:∀(n:Nat) (t:Ty),t.parts.length<=n->∀f∈c6 t,f.2.parts.length<t.parts.length:=by
 intro n
 induction n with
 | zero=>intro t h;have:=j5 t;omega
 | succ n ih =>
  intro t h f hf;obtain⟨op,nm,k,ks⟩:=t
  match ks,hf with
  | [],hf=>simp[c6] at hf
  | [x],hf=>simp[c6] at hf
  | x::y::z::l,hf=>simp[c6] at hf
  | [x,r],hf =>
   have hk:=m9 (.mk op nm k [x,r]);have hx:=hk.2 x (by simp[Ty.kids]);have hr:=hk.2 r (by simp[Ty.kids]);unfold c6 at hf
   by_cases h11:op=11
   ·rw[c3E h11] at hf
    rcases c3F.1 hf with rfl|hf
    ·exact hx
    ·have:=ih r (by omega) f hf;omega
   ·rw[c3G h11] at hf;simp at hf
theorem b1x {α:Type} {lt:α->α->Bool}:∀(l acc:List α) (z:α),z∈l.foldl (λacc x=>P8 lt x acc) acc->z∈acc\/z∈l
 | [],acc,z,h=>.inl h
 | x::l,acc,z,h=>by
  rcases b1x l (P8 lt x acc) z h with h|h
  ·rcases a9Y x acc z h with rfl|h
   ·exact .inr (c38 ..)
   ·exact .inl h
  ·exact .inr (c36 _ h)
theorem B8 {α:Type} {lt:α->α->Bool} {l:List α} {z:α} (h:z∈d5 lt l):z∈l:=by
 rcases b1x l [] z h with h|h
 ·simp at h
 ·exact h
theorem a7G:∀(n m:Nat) (t:Ty),t.parts.length<=n->t.parts.length<=m->a3b n t=a3b m t:=by
 intro n
 induction n with
 | zero=>intro m t h;have:=j5 t;omega
 | succ n ih =>
  intro m t h h';obtain⟨m,rfl⟩:∃k,m=k+1:=⟨m - 1,by have:=j5 t;omega⟩;unfold a3b
  by_cases h11:t.op=11
  ·rw[c3E h11,c3E h11]
   congr 1
   apply c4s
   intro f hf;have:=A1 _ t (c3A _) f (B8 hf);rw[ih m f.2 (by omega) (by omega)]
  ·rw[c3G h11,c3G h11]
   congr 1
   apply c4s
   intro x hx;have:=(m9 t).2 x hx;exact ih m x (by omega) (by omega)
theorem G9 {t:Ty} (h:t.op=11):b9 t=A4 ((d5 x8 (c6 t)).map λf=>(f.1,b9 f.2)) (f7 t):=by
 unfold b9;obtain⟨m,hm⟩:∃m,t.parts.length=m+1:=⟨t.parts.length - 1,by have:=j5 t;omega⟩;rw[hm]
 conv=>lhs;unfold a3b
 rw[c3E h]
 congr 1
 apply c4s
 intro f hf;have:=A1 _ t (c3A _) f (B8 hf);rw[a7G m f.2.parts.length f.2 (by omega) (c3A _)]
theorem x9 {t:Ty} (h:t.op≠11):b9 t=.mk t.op t.name t.n (t.kids.map b9):=by
 unfold b9;obtain⟨m,hm⟩:∃m,t.parts.length=m+1:=⟨t.parts.length - 1,by have:=j5 t;omega⟩;rw[hm]
 conv=>lhs;unfold a3b
 rw[c3G h]
 congr 1
 apply c4s
 intro x hx;have:=(m9 t).2 x hx;exact a7G m x.parts.length x (by omega) (c3A _)
theorem M5:∀(n:Nat) (t:Ty),t.parts.length<=n->∀f∈c6 t,f.2∈t.parts:=by
 intro n
 induction n with
 | zero=>intro t h;have:=j5 t;omega
 | succ n ih =>
  intro t h f hf;obtain⟨op,nm,k,ks⟩:=t
  match ks,hf with
  | [],hf=>simp[c6] at hf
  | [x],hf=>simp[c6] at hf
  | x::y::z::l,hf=>simp[c6] at hf
  | [x,r],hf =>
   have hk:=m9 (.mk op nm k [x,r]);have hr:=hk.2 r (by simp[Ty.kids]);unfold c6 at hf
   by_cases h11:op=11
   ·rw[c3E h11] at hf;rw[d9];simp only[Ty.kids,c4H,c5k,c3X]
    rcases c3F.1 hf with rfl|hf
    ·refine c36 _ (c48 _ ?_);rw[r7];exact c38 ..
    ·exact c36 _ (c4U _ (ih r (by omega) f hf))
   ·rw[c3G h11] at hf;simp at hf
theorem A2 {t x y:Ty}:y∈x.parts->x∈t.parts->y∈t.parts:=by
 intro hy
 induction t using Ty.ind with
 | h t ih =>
  intro hx;rw[d9] at hx ⊢
  rcases c3F.1 hx with rfl|hx
  ·rwa [d9] at hy
  ·obtain⟨k,hk,hx⟩:=c4a.1 hx;exact c36 _ (c4a.2 ⟨k,hk,ih k hk hx⟩)
theorem b0c:∀(n:Nat) (t:Ty),t.parts.length<=n->(c6 t).length<=t.parts.length:=by
 intro n
 induction n with
 | zero=>intro t h;have:=j5 t;omega
 | succ n ih =>
  intro t h;obtain⟨op,nm,k,ks⟩:=t
  match ks with
  | []=>simp[c6]
  | [x]=>simp[c6]
  | x::y::z::l=>simp[c6]
  | [x,r] =>
   have hr:=(m9 (.mk op nm k [x,r])).2 r (by simp[Ty.kids]);unfold c6
   split
   ·have:=ih r (by omega);simp only[c3C];omega
   ·simp
theorem b1y {α:Type} {lt:α->α->Bool}:∀(l acc:List α),(l.foldl (λacc x=>P8 lt x acc) acc).length=acc.length+l.length
 | [],acc=>rfl
 | x::l,acc=>by
  rw[c4P,b1y l];simp only[b4y,c3C];omega
theorem K8 {α:Type} {lt:α->α->Bool} (l:List α):(d5 lt l).length=l.length:=by
 unfold d5;rw[b1y]
 simp
def c4B (op n:Int):Bool:=decide (0<=n) && (decide (op=7\/op=10) || decide (n=0))
theorem a7H {iw:ByteArray->Bool} {t:Ty} {s:Int} (h:y6 t.op=none):c8 iw t s=false:=by
 rw[a2W];unfold a2V;rw[h];rfl
def c3B (iw:ByteArray->Bool) (op:Int) (nm:ByteArray):Bool:=if op=11 then iw nm else decide (nm.toList=[])
theorem a4n {iw:ByteArray->Bool} {op:Int} {nm:ByteArray} {n:Int} {kids:List Ty} {s:Int} {k:List Int} (h:y6 op=some k) :
  c8 iw (.mk op nm n kids) s=(((decide (8<=op) == (s == 114)) && (decide (kids.length=k.length) && (c3B iw op nm && c4B op n))) && n6 iw kids k):=by
 rw[a2W];unfold a2V c4B c3B;simp only[Ty.op,Ty.name,Ty.n,Ty.kids];rw[h];rfl
theorem b1z {α:Type} {lt:α->α->Bool} (x:α):∀l:List α,(P8 lt x l).Perm (x::l)
 | []=>.refl _
 | y::l=>by
  unfold P8
  split
  ·exact .refl _
  ·exact((b1z x l).cons y).trans (.swap x y l)
theorem a8W {α:Type} {lt:α->α->Bool}:∀(l acc:List α),(l.foldl (λacc x=>P8 lt x acc) acc).Perm (acc++l)
 | [],acc=>by simp
 | x::l,acc=>by
  rw[c4P];refine(a8W l _).trans ?_;have h1:(P8 lt x acc++l).Perm ((x::acc)++l):=(b1z x acc).append_right l;exact h1.trans List.perm_middle.symm
theorem b2P {α:Type} (lt:α->α->Bool) (l:List α):(d5 lt l).Perm l:=by
 have:=a8W (lt:=lt) l []
 simpa [d5] using this
def B4 (fs:List (ByteArray×Ty)):Nat:=(fs.map λf=>1+f.2.parts.length).sum
theorem a3V {a b:List (ByteArray×Ty)} (h:a.Perm b):B4 a=B4 b:=(h.map _).sum_nat
theorem a2i (tl:Ty):∀fs:List (ByteArray×Ty),(A4 fs tl).parts.length=B4 fs+tl.parts.length
 | []=>by simp[A4,B4]
 | f::fs=>by
  have ih:=a2i tl fs;unfold A4 at ih ⊢;rw[List.foldr_cons,d9];simp only[Ty.kids,c3C,c4H,c5k,c3X,c37,ih,B4,c3Y,c4I];omega
theorem a0y:∀(n:Nat) (t:Ty),t.parts.length<=n->G2 t->t.parts.length=B4 (c6 t)+(f7 t).parts.length:=by
 intro n
 induction n with
 | zero=>intro t h;have:=j5 t;omega
 | succ n ih =>
  intro t hn hsp
  by_cases h11:t.op=11
  ·obtain⟨a,b,hk,hsb,hf,ht⟩:=C4 hsp h11;have hb:=(m9 t).2 b (by rw[hk];simp);have:=ih b (by omega) hsb;rw[hf,ht,d9,hk];simp only[c3C,c4H,c5k,c3X,c37,this,B4,c3Y,c4I];omega
  ·obtain⟨h1,h2⟩:=z8 h11;rw[h1,h2]
   simp[B4]
theorem b12:∀ {t:Ty},G2 t->(f7 t).op≠11:=by
 intro t
 induction t using Ty.ind with
 | h t ih =>
  intro hsp
  by_cases h11:t.op=11
  ·obtain⟨a,b,hk,hsb,hf,ht⟩:=C4 hsp h11;rw[ht];exact ih b (by rw[hk];simp) hsb
  ·rw[(z8 h11).2];exact h11
theorem a3c:∀ {t:Ty},G2 t->f7 t∈t.parts:=by
 intro t
 induction t using Ty.ind with
 | h t ih =>
  intro hsp
  by_cases h11:t.op=11
  ·obtain⟨a,b,hk,hsb,hf,ht⟩:=C4 hsp h11;rw[ht,d9];exact c36 _ (c4a.2 ⟨b,by rw[hk];simp,ih b (by rw[hk];simp) hsb⟩)
  ·rw[(z8 h11).2,r7];exact c38 ..
theorem a15 {α:Type} {f g:α->Nat}:∀ {l:List α},(∀x∈l,f x=g x)->(l.map f).sum=(l.map g).sum
 | [],_=>rfl
 | x::l,h=>by
  rw[c3Y,c3Y,c4I,c4I,h x (c38 ..),a15 λy hy=>h y (c36 _ hy)]
theorem E9:∀(n:Nat) (t:Ty),t.parts.length<=n->(∀x∈t.parts,G2 x)->(b9 t).parts.length=t.parts.length:=by
 intro n
 induction n with
 | zero=>intro t h;have:=j5 t;omega
 | succ n ih =>
  intro t hn hsp;have ht:G2 t:=hsp t (by rw[r7];exact c38 ..)
  by_cases h11:t.op=11
  ·rw[G9 h11,a2i,a0y _ t (c3A _) ht]
   congr 1
   rw[<-a3V (b2P x8 (c6 t))];unfold B4;rw[c4X];refine a15 λf hf=>?_
   have h1:=A1 _ t (c3A _) f (B8 hf);have h2:=M5 _ t (c3A _) f (B8 hf);simp only[Function.comp];rw[ih f.2 (by omega) λx hx=>hsp x (A2 hx h2)]
  ·rw[x9 h11,d9,d9 t];simp only[Ty.kids,c3C,List.length_flatMap,c4X]
   congr 1
   refine a15 λx hx=>?_
   have h1:=(m9 t).2 x hx;simp only[Function.comp];exact ih x (by omega) λy hy=>hsp y (by rw[d9];exact c36 _ (c4a.2 ⟨x,hx,hy⟩))
def Y4 (t:Ty):Prop:=∀x∈t.parts,G2 x
theorem Y4.self {t:Ty} (h:Y4 t):G2 t:=h t (by rw[r7];exact c38 ..)
theorem Y4.mk {t:Ty} (h:G2 t) (hk:∀x∈t.kids,Y4 x):Y4 t:=λy hy=>by
 rw[d9] at hy
 rcases c3F.1 hy with rfl|hy
 ·exact h
 ·obtain⟨x,hx,hy⟩:=c4a.1 hy;exact hk x hx y hy
theorem H6 (f:ByteArray×Ty) (fs:List (ByteArray×Ty)) (tl:Ty):A4 (f::fs) tl=.mk 11 f.1 0 [f.2,A4 fs tl]:=rfl
theorem E7 {tl:Ty} (ht:tl.op≠11):∀fs:List (ByteArray×Ty),c6 (A4 fs tl)=fs/\f7 (A4 fs tl)=tl
 | []=>by have:=z8 ht;exact⟨this.1,this.2⟩
 | f::fs=>by
  have ih:=E7 ht fs;rw[H6]
  constructor
  ·conv=>lhs;unfold c6
   rw[c3E rfl,ih.1]
  ·conv=>lhs;unfold f7
   rw[c3E rfl,ih.2]
theorem a6s {tl:Ty} {fs:List (ByteArray×Ty)} (h:fs≠[]):(A4 fs tl).op=11:=by
 cases fs with
 | nil=>exact absurd rfl h
 | cons f fs=>rfl
theorem b5M {t:Ty} (hsp:G2 t) (h:t.op=11):c6 t≠[]:=by
 obtain⟨a,b,hk,hsb,hf,ht⟩:=C4 hsp h;rw[hf];simp
theorem b78 {α:Type} {lt:α->α->Bool} {l:List α} (h:l≠[]):d5 lt l≠[]:=by
 intro e;have:=congrArg List.length e;rw[K8] at this;exact h (c3P (by simpa using this))
theorem b2Q {t:Ty} (hsp:G2 t) (h:t.op=11):(b9 t).op=11:=by
 rw[G9 h]
 exact a6s (by
  intro e
  exact b78 (lt:=x8) (b5M hsp h) (List.map_eq_nil_iff.1 e))
theorem a4V {t:Ty} (hsp:G2 t):(b9 t).op=t.op:=by
 by_cases h:t.op=11
 ·rw[b2Q hsp h,h]
 ·rw[x9 h];rfl
theorem J0 (iw:ByteArray->Bool):∀(ts:List Ty) (ks:List Int),n6 iw ts ks=true->∀x∈ts,∃c,c8 iw x c=true
 | [],_,_,x,hx=>by simp at hx
 | t::ts,[],h,x,hx=>by rw[n6] at h;cases h
 | t::ts,k::ks,h,x,hx=>by
  rw[n6,c3D] at h
  rcases c3F.1 hx with rfl|hx
  ·exact⟨k,h.1⟩
  ·exact J0 iw ts ks h.2 x hx
theorem a6t (iw:ByteArray->Bool) (t:Ty):∀s,c8 iw t s=true->∀x∈t.parts,G2 x:=by
 induction t using Ty.ind with
 | h t ih =>
  intro s hs x hx;cases hko:y6 t.op with
  | none=>rw[a7H hko] at hs;cases hs
  | some k =>
   obtain⟨op,nm,n,kids⟩:=t;rw[a4n (k:=k) (by exact hko)] at hs;simp only[c3D,c4T] at hs;obtain⟨⟨_,hlen,_⟩,hss⟩:=hs;rw[d9] at hx
   rcases c3F.1 hx with rfl|hx
   ·simp only[Ty.op] at hko
    by_cases h11:op=11
    ·subst h11
     have hk:k.length=2:=by
      have:y6 11=some [116,114]:=by decide
      rw[this] at hko;injection hko with hko;rw[<-hko];rfl
     rw[hk] at hlen
     match kids,hlen,ih,hss with
     | [a,b],_,ih,hss =>
      obtain⟨c,hc⟩:=J0 iw _ _ hss b (by simp);exact λ_=>ih b (by simp[Ty.kids]) c hc b (by rw[r7];exact c38 ..)
    ·match kids with
     | []=>exact h11
     | [a]=>exact h11
     | [a,b]=>exact λh=>absurd h h11
     | a::b::c::l=>exact h11
   ·obtain⟨y,hy,hx⟩:=c4a.1 hx;obtain⟨c,hc⟩:=J0 iw _ _ hss y hy;exact ih y hy c hc x hx
def r9 (t:Ty):Bool:=(t.op == 7) || (t.op == 10)
def v8:List Ty->List Int->List Int
 | [],acc=>acc
 | t::ts,acc=>v8 ts (if r9 t=true/\t.n∉acc then acc++[t.n] else acc)
def w5 (t:Ty):List Int:=v8 (b9 t).parts []
theorem a7I:∀(ts:List Ty) (acc:List Int) (t:Ty),v8 (ts++[t]) acc=(if r9 t=true/\t.n∉v8 ts acc then v8 ts acc++[t.n] else v8 ts acc)
 | [],_,_=>rfl
 | u::us,acc,t=>a7I us (if r9 u=true/\u.n∉acc then acc++[u.n] else acc) t
theorem U4:∀(ts:List Ty) (acc:List Int),(v8 ts acc).length<=acc.length+ts.length
 | [],acc=>by simp[v8]
 | u::us,acc=>by
  rw[v8];have:=U4 us (if r9 u=true/\u.n∉acc then acc++[u.n] else acc);have h2:(if r9 u=true/\u.n∉acc then acc++[u.n] else acc).length<=acc.length+1:=by split <;> simp
  simp only[c3C];omega
section
theorem c1z (os:List O) (d:D):toD os .jk≠some d:=λh=>by rw[toD] at h <;> first|cases h|simp
theorem v7.read (s:S) (i:Nat) (d:D) (hi:toD s.o (m5 s.t i)=some d):v7 s ⟨G5 s.t i (.d d),s.o⟩:=by
 rintro I0 X w0 a w ⟨I,g,h⟩
 have hj:m5 s.t i≠.jk:=λe=>c1z _ _ (e ▸ hi)
 exact⟨I,g,h.reread λv hv=>.d (a9B h (h.tmp.2 i v _ hv (K6 rfl hj)) hi)⟩
theorem v7.nil (s:S) (i z:Nat) (L:List (List D)) (hL:L=[]) (hi:m5 s.t i=.em):v7 s ⟨G5 s.t i (.d (.sl z L)),s.o⟩:=by
 subst hL
 rintro I0 X w0 a w ⟨I,g,h⟩
 refine⟨I,g,h.reread λv hv=>?_⟩;have h4:=h.tmp.2 i v _ hv (K6 hi (by simp));rw[h4.unem];exact .d (.nil _ _ _)
section
variable {qa:_} {qb:_} {qc:_} {qd:_} {qe:_} {qf:_} {qg:_} {qh:_} {qi:_} {qj:_} {qk:_} {ql:_} {qm:_} {qo:_} {qp:_} {qq:_} {qs:_} {qt:_} {qu:_} {qv:_} {qw:_} {qx:_} {qy:_} {qz:_} {vc:_} {vd:_} {ve:_} {vf:_} {vg:_} {vh:_} {vj:_} {vk:_} {vl:_} {vp:_} {vq:_} {vr:_} {vt:_} {vu:_} {vv:_} {vw:_} {vx:_} {vy:_} {vz:_} (hA:Ar.mk qa qb qc qd qe qf qg qh qi qj qk ql qm qo qp qq qs qt qu qv qw qx qy qz vc vd ve vf vg vh vj vk vl vp vq vr vt vu vv vw vx vy vz=a7)
include hA
theorem b79 {N:S->Prop} {s:S} (i z:Nat) (L:List (List D)) (hL:L=[]) (hi:m5 s.t i=.em) (h:N ⟨G5 s.t i (.d (.sl z L)),s.o⟩):vw N s:=E3 hA _ (v7.nil s i z L hL hi) h
theorem a4W {N:S->Prop} {s:S} (i k:Nat) (d:D) (hk:m5 s.t i=.own k) (hi:toD s.o (.own k)=some d) (h:N ⟨G5 s.t i (.d d),s.o⟩):vw N s:=E3 hA _ (v7.read s i d (hk ▸ hi)) h
end
end
def C7 (d:ByteArray×Ty) (p:Bool×List (ByteArray×Ty)) (y:ByteArray×Ty):Bool×List (ByteArray×Ty) :=
 match p.1 with
 | true=>(true,p.2++[y])
 | false=>match x8 d y with|true=>(true,p.2++[d]++[y])|false=>(false,p.2++[y])
theorem a7J (d:ByteArray×Ty):∀(l acc:List (ByteArray×Ty)),l.foldl (C7 d) (true,acc)=(true,acc++l)
 | [],acc=>by simp
 | y::l,acc=>by rw[c4P,show C7 d (true,acc) y=(true,acc++[y]) from rfl,a7J d l];simp
theorem a35 (d:ByteArray×Ty):∀(l acc:List (ByteArray×Ty)),(l.foldl (C7 d) (false,acc)).2++(if (l.foldl (C7 d) (false,acc)).1=true then [] else [d])=acc++P8 x8 d l
 | [],acc=>by simp[P8]
 | y::l,acc=>by
  rw[c4P,P8];cases h:x8 d y with
  | true =>
   rw[show C7 d (false,acc) y=(true,acc++[d]++[y]) by unfold C7;rw[h],a7J]
   simp
  | false =>
   rw[show C7 d (false,acc) y=(false,acc++[y]) by unfold C7;rw[h],a35 d l]
   simp
theorem a36 (d:ByteArray×Ty) (l:List (ByteArray×Ty)):∀(p:Bool×List (ByteArray×Ty)),(l.foldl (C7 d) p).2.length<=p.2.length+l.length+1:=by
 have h1:∀(l:List (ByteArray×Ty)) (acc:List (ByteArray×Ty)),(l.foldl (C7 d) (true,acc)).2.length=acc.length+l.length:=λl acc=>by rw[a7J];simp
 induction l with
 | nil=>intro p;simp
 | cons y l ih =>
  intro p;obtain⟨b,acc⟩:=p;rw[c4P];cases b with
  | true=>rw[show C7 d (true,acc) y=(true,acc++[y]) from rfl,h1];simp;omega
  | false =>
   cases h:x8 d y with
   | true=>rw[show C7 d (false,acc) y=(true,acc++[d]++[y]) by unfold C7;rw[h],h1];simp;omega
   | false =>
    rw[show C7 d (false,acc) y=(false,acc++[y]) by unfold C7;rw[h]];have:=ih (false,acc++[y])
    simp at this ⊢
    omega
theorem a7K (d:ByteArray×Ty) (l:List (ByteArray×Ty)) {k:Nat} {y:ByteArray×Ty} (h:l[k]?=some y) (p:Bool×List (ByteArray×Ty)):(l.take (k+1)).foldl (C7 d) p=C7 d ((l.take k).foldl (C7 d) p) y:=by
 rw[c5a,h,c50];rfl
theorem T4 (a b:List (ByteArray×Ty)):rF (a++b)=rF a++rF b:=by unfold rF;rw[c4J]
theorem T5 (x:ByteArray×Ty):rF [x]=[.sc (.string x.1)::cT x.2]:=rfl
theorem b7A (t:Ty) (hs:G2 t) (hN:t.parts.length<=1048576):l6 64 [.ag (cT t)] [.one (.sl 5 (rF (d5 x8 (c6 t)))),.ag (cT (f7 t))]:=by
 obtain⟨Q,hQ⟩:∃Q,Q=rF (d5 x8 (c6 t)):=⟨_,rfl⟩;rw[<-hQ];obtain⟨q0,q1,q2,q3,hq⟩:=c9 (f7 t);rw[hq];obtain⟨op,nm,n,ks⟩:=t;generalize ht:Ty.mk op nm n ks=t at *;have hc:cT t=[.sc (.int .u8 op),.sc (.string nm),.sc (.int .i64 n),.sl 4 (rT ks)]:=by rw[<-ht,cT]
 obtain⟨K0,hK0⟩:∃K,K=rT ks:=⟨_,rfl⟩;rw[hc,<-hK0];refine K7 Tryd.func64 rfl ?_;intro qa qb _ _ _ _ _ qh _ qj _ _ qm qo _ _ _ _ _ _ _ _ qy qz _ vd;intros;rename_i hA;cbv
 repeat (with_reducible apply b6 hA;cbv)
 obtain⟨e1,e2,e3,e4,e5,e6,e7,e8,e9⟩:=j3 hA;obtain⟨s1,s2,s3,s4,s5,s6,-⟩:=w7 hA;obtain⟨r1,r2,r3,r4⟩:=m8 hA
 refine l7 hA (γ:=Ty×Int×ByteArray×Int×List (List D)×List (List D)×V) (λx=>[(4,x.2.2.2.2.2.2)]) (λx=>[(0,.box [.d (.sc (.int .u8 x.2.1)),.d (.sc (.string x.2.2.1)),.d (.sc (.int .i64 x.2.2.2.1)),.d (.sl 4 x.2.2.2.2.1)])])
  (λx=>∃ks fs,x.1=.mk x.2.1 x.2.2.1 x.2.2.2.1 ks/\x.2.2.2.2.1=rT ks/\G2 x.1/\x.2.2.2.2.2.1=rF (d5 x8 fs)/\fs++c6 x.1=c6 t/\f7 x.1=f7 t/\fs.length+x.1.parts.length<=1048576/\(x.2.2.2.2.2.1=[]/\x.2.2.2.2.2.2=.em\/x.2.2.2.2.2.2=.d (.sl 5 x.2.2.2.2.2.1))) (λx=>x.1.parts.length) (t,op,nm,n,K0,[],.em) ?_ ?_ ?_
 ·exact⟨ks,[],ht.symm,hK0,hs,rfl,rfl,rfl,by simpa using hN,.inl ⟨rfl,rfl⟩⟩
 ·cbv
 ·intro x hinv;obtain⟨r,op,nm,n,K,L,v⟩:=x;cbv;refine gn ?_;obtain⟨ks,fs,hr,hK,hsr,hL,hfs,htl,hlen,hv⟩:=hinv;replace hr:r=.mk op nm n ks:=hr;replace hK:K=rT ks:=hK;replace hsr:G2 r:=hsr;replace hL:L=rF (d5 x8 fs):=hL;replace hfs:fs++c6 r=c6 t:=hfs;replace htl:f7 r=f7 t:=htl;replace hlen:fs.length+r.parts.length<=1048576:=hlen;replace hv:L=[]/\v=.em\/v=.d (.sl 5 L):=hv;have h11:qj op 11=decide (op=11):=e9 _ _
  by_cases hop:op=11
  ·rw[c3K hop] at h11;obtain⟨a,b,hk,hsb,hfb,htb⟩:=C4 hsr (by rw[hr];exact hop);have hnmr:r.name=nm:=by rw[hr];rfl
   rw[hnmr] at hfb;have hks:ks=[a,b]:=by rw[<-hk,hr];rfl
   obtain⟨a0,a1,a2,a3,ha⟩:=c9 a;obtain⟨op',nm',n',ks'⟩:=b;generalize hb:Ty.mk op' nm' n' ks'=b at *;have hcb:cT b=[.sc (.int .u8 op'),.sc (.string nm'),.sc (.int .i64 n'),.sl 4 (rT ks')]:=by rw[<-hb,cT]
   obtain⟨K',hK'⟩:∃K,K=rT ks':=⟨_,rfl⟩;rw[<-hK'] at hcb;have g0:qz K 0=some [a0,a1,a2,a3]:=by rw[r2,c3E (by omega),hK,hks];exact congrArg some ha
   have g1:qz K 1=some [.sc (.int .u8 op'),.sc (.string nm'),.sc (.int .i64 n'),.sl 4 K']:=by rw[r2,c3E (by omega),hK,hks];exact congrArg some hcb
   rw[h11]
   rcases hv with⟨hL0,rfl⟩|rfl
   ·cbv;refine b79 hA 4 5 L hL0 rfl ?_;cbv;clear hL0;rw[g0];cbv
    repeat (first|(refine a2g hA 6 73 true rfl ?_;cbv)|(with_reducible apply b6 hA;cbv))
    refine l7 hA (γ:=Int×Bool×List (List D)) (λx=>[(8,vi .i64 x.1),(7,vb x.2.1),(6,.own 3)]) (λx=>[(3,.row true 73 x.2.2)])
     (λx=>∃k:Nat,x.1=(k:Int)/\k<=(d5 x8 fs).length/\x.2.1=(((d5 x8 fs).take k).foldl (C7 (nm,a)) (false,[])).1/\x.2.2=rF (((d5 x8 fs).take k).foldl (C7 (nm,a)) (false,[])).2) (λx=>(d5 x8 fs).length - x.1.toNat) (0,false,[]) ?_ ?_ ?_
    ·exact⟨0,rfl,c4e _,rfl,rfl⟩
    ·cbv
    ·intro x hinv;obtain⟨z,inn,M⟩:=x;cbv;refine gn ?_;obtain⟨k,hz,hk2,hin,hM⟩:=hinv;replace hz:z=(k:Int):=hz;replace hin:inn=(((d5 x8 fs).take k).foldl (C7 (nm,a)) (false,[])).1:=hin;replace hM:M=rF (((d5 x8 fs).take k).foldl (C7 (nm,a)) (false,[])).2:=hM;have hsn:(d5 x8 fs).length=fs.length:=K8 fs;have hll:qy L=(((d5 x8 fs).length:Nat):Int):=by rw[r1,hL,G1]
     have hlt:qh z (qy L)=decide (k<(d5 x8 fs).length):=by rw[e7,hll,hz];exact c3M.2 (by omega)
     by_cases h9:k<(d5 x8 fs).length
     ·rw[c3K h9] at hlt;obtain⟨x,hx⟩:∃x,(d5 x8 fs)[k]?=some x:=⟨_,c39 h9⟩;have hpt:=a7K (nm,a) (d5 x8 fs) hx (false,[]);generalize hPk:((d5 x8 fs).take k).foldl (C7 (nm,a)) (false,[])=P at *;obtain⟨xn,xt⟩:=x;obtain⟨x0,x1,x2,x3,hxx⟩:=c9 xt;have gx:qz L z=some [.sc (.string xn),x0,x1,x2,x3]:=by rw[r2,hz,c3E (by omega),hL,show ((k:Int)).toNat=k by omega,a1d hx,hxx]
      have hsl:qm (qo nm) (qo xn)=x8 (nm,a) (xn,xt):=by rw[s2,s3,s3];rfl
      rw[hlt];obtain⟨Pb,Pl⟩:=P;simp only at hin hM;subst hin;have hz1:qa .i64 (qb z 1)=((k+1:Nat):Int):=by rw[e1,e2,hz,IntWalk.i64_in _ (by omega)];omega
      have hmu:(d5 x8 fs).length - (qa .i64 (qb z 1)).toNat<(d5 x8 fs).length - z.toNat:=by rw[hz1,hz];omega
      have hMl:M.length<=1048577:=by
       have h:=a36 (nm,a) ((d5 x8 fs).take k) (false,[]);rw[hPk,c3Z] at h;rw[hM,G1];simp only[c3H] at h;omega
      cases inn
      ·cases hlx:x8 (nm,a) (xn,xt)
       ·have hput:C7 (nm,a) (false,Pl) (xn,xt)=(false,Pl++[(xn,xt)]):=by unfold C7;rw[hlx]
        rw[hlx] at hsl;rw[hput] at hpt;cbv;repeat (first|(with_reducible apply b6 hA;cbv)|(rw[gx];cbv)|(rw[hsl];cbv)|(refine z6 hA true ?_;cbv)|(refine w8 hA (by simp only[r4,c37,c3C,c3H];omega) ?_;cbv))
        refine⟨(qa .i64 (qb z 1),false,vd M [[.sc (.string xn),x0,x1,x2,x3]]),⟨k+1,hz1,h9,by rw[hpt],by rw[hpt];show vd M _=rF (Pl++[(xn,xt)]);rw[r4,hM,T4,T5,hxx]⟩,hmu,?_⟩;cbv
       ·have hput:C7 (nm,a) (false,Pl) (xn,xt)=(true,Pl++[(nm,a)]++[(xn,xt)]):=by unfold C7;rw[hlx]
        rw[hlx] at hsl;rw[hput] at hpt;cbv;repeat (first|(with_reducible apply b6 hA;cbv)|(rw[gx];cbv)|(rw[hsl];cbv)|(refine z6 hA true ?_;cbv)|(refine w8 hA (by simp only[r4,c37,c3C,c3H];omega) ?_;cbv))
        refine⟨(qa .i64 (qb z 1),true,vd (vd M [[.sc (.string nm),a0,a1,a2,a3]]) [[.sc (.string xn),x0,x1,x2,x3]]),⟨k+1,hz1,h9,by rw[hpt],by rw[hpt];show vd (vd M _) _=rF (Pl++[(nm,a)]++[(xn,xt)]);rw[r4,r4,hM,T4,T4,T5,T5,hxx,ha]⟩,hmu,?_⟩;cbv
      ·have hput:C7 (nm,a) (true,Pl) (xn,xt)=(true,Pl++[(xn,xt)]):=rfl;rw[hput] at hpt;cbv;repeat (first|(with_reducible apply b6 hA;cbv)|(rw[gx];cbv)|(rw[hsl];cbv)|(refine z6 hA true ?_;cbv)|(refine w8 hA (by simp only[r4,c37,c3C,c3H];omega) ?_;cbv))
       refine⟨(qa .i64 (qb z 1),true,vd M [[.sc (.string xn),x0,x1,x2,x3]]),⟨k+1,hz1,h9,by rw[hpt],by rw[hpt];show vd M _=rF (Pl++[(xn,xt)]);rw[r4,hM,T4,T5,hxx]⟩,hmu,?_⟩;cbv
     ·rw[c3I h9] at hlt;have hins:=a35 (nm,a) (d5 x8 fs) [];rw[c4i (by omega)] at hin hM
      have hMl:M.length<=1048577:=by
       have h:=a36 (nm,a) (d5 x8 fs) (false,[]);rw[hM,G1];simp only[c3H] at h;omega
      generalize hPk:(d5 x8 fs).foldl (C7 (nm,a)) (false,[])=P at *;obtain⟨Pb,Pl⟩:=P;simp only at hin hM hins;subst hin;rw[c4t,<-a5R] at hins;have hbl:b.parts.length<r.parts.length:=(m9 r).2 b (by rw[hk];simp);have hfs2:(fs++[(nm,a)])++c6 b=c6 t:=by rw[c4c,<-hfs,hfb];rfl
      rw[hlt];cases inn
      ·cbv;repeat (first|(refine a4W hA 4 3 _ rfl rfl ?_;cbv)|(with_reducible apply b6 hA;cbv)|(rw[g1];cbv)|(refine z6 hA true ?_;cbv)|(refine w8 hA (by simp only[r4,c37,c3C,c3H];omega) ?_;cbv))
       have hnew:vd M [[.sc (.string nm),a0,a1,a2,a3]]=rF (d5 x8 (fs++[(nm,a)])):=by rw[<-hins,c3G (by decide),r4,hM,T4,T5,ha]
       refine⟨(b,op',nm',n',K',vd M [[.sc (.string nm),a0,a1,a2,a3]],.d (.sl 5 (vd M [[.sc (.string nm),a0,a1,a2,a3]]))),⟨ks',fs++[(nm,a)],hb.symm,hK',hsb,hnew,hfs2,by rw[<-htl,htb],by rw[c37];show fs.length+1+b.parts.length<=_;omega,.inr rfl⟩,hbl,?_⟩;cbv
      ·cbv;repeat (first|(refine a4W hA 4 3 _ rfl rfl ?_;cbv)|(with_reducible apply b6 hA;cbv)|(rw[g1];cbv)|(refine z6 hA true ?_;cbv)|(refine w8 hA (by simp only[r4,c37,c3C,c3H];omega) ?_;cbv))
       have hnew:M=rF (d5 x8 (fs++[(nm,a)])):=by rw[<-hins,c3E rfl,c3X,hM]
       refine⟨(b,op',nm',n',K',M,.d (.sl 5 M)),⟨ks',fs++[(nm,a)],hb.symm,hK',hsb,hnew,hfs2,by rw[<-htl,htb],by rw[c37];show fs.length+1+b.parts.length<=_;omega,.inr rfl⟩,hbl,?_⟩;cbv
   ·cbv
    with_reducible apply b6 hA
    cbv;rw[g0];cbv
    repeat (first|(refine a2g hA 6 73 true rfl ?_;cbv)|(with_reducible apply b6 hA;cbv))
    refine l7 hA (γ:=Int×Bool×List (List D)) (λx=>[(8,vi .i64 x.1),(7,vb x.2.1),(6,.own 3)]) (λx=>[(3,.row true 73 x.2.2)])
     (λx=>∃k:Nat,x.1=(k:Int)/\k<=(d5 x8 fs).length/\x.2.1=(((d5 x8 fs).take k).foldl (C7 (nm,a)) (false,[])).1/\x.2.2=rF (((d5 x8 fs).take k).foldl (C7 (nm,a)) (false,[])).2) (λx=>(d5 x8 fs).length - x.1.toNat) (0,false,[]) ?_ ?_ ?_
    ·exact⟨0,rfl,c4e _,rfl,rfl⟩
    ·cbv
    ·intro x hinv;obtain⟨z,inn,M⟩:=x;cbv
     repeat ((with_reducible apply b6 hA);cbv)
     obtain⟨k,hz,hk2,hin,hM⟩:=hinv;replace hz:z=(k:Int):=hz;replace hin:inn=(((d5 x8 fs).take k).foldl (C7 (nm,a)) (false,[])).1:=hin;replace hM:M=rF (((d5 x8 fs).take k).foldl (C7 (nm,a)) (false,[])).2:=hM;have hsn:(d5 x8 fs).length=fs.length:=K8 fs;have hll:qy L=(((d5 x8 fs).length:Nat):Int):=by rw[r1,hL,G1]
     have hlt:qh z (qy L)=decide (k<(d5 x8 fs).length):=by rw[e7,hll,hz];exact c3M.2 (by omega)
     by_cases h9:k<(d5 x8 fs).length
     ·rw[c3K h9] at hlt;obtain⟨x,hx⟩:∃x,(d5 x8 fs)[k]?=some x:=⟨_,c39 h9⟩;have hpt:=a7K (nm,a) (d5 x8 fs) hx (false,[]);generalize hPk:((d5 x8 fs).take k).foldl (C7 (nm,a)) (false,[])=P at *;obtain⟨xn,xt⟩:=x;obtain⟨x0,x1,x2,x3,hxx⟩:=c9 xt;have gx:qz L z=some [.sc (.string xn),x0,x1,x2,x3]:=by rw[r2,hz,c3E (by omega),hL,show ((k:Int)).toNat=k by omega,a1d hx,hxx]
      have hsl:qm (qo nm) (qo xn)=x8 (nm,a) (xn,xt):=by rw[s2,s3,s3];rfl
      rw[hlt];obtain⟨Pb,Pl⟩:=P;simp only at hin hM;subst hin;have hz1:qa .i64 (qb z 1)=((k+1:Nat):Int):=by rw[e1,e2,hz,IntWalk.i64_in _ (by omega)];omega
      have hmu:(d5 x8 fs).length - (qa .i64 (qb z 1)).toNat<(d5 x8 fs).length - z.toNat:=by rw[hz1,hz];omega
      have hMl:M.length<=1048577:=by
       have h:=a36 (nm,a) ((d5 x8 fs).take k) (false,[]);rw[hPk,c3Z] at h;rw[hM,G1];simp only[c3H] at h;omega
      cases inn
      ·cases hlx:x8 (nm,a) (xn,xt)
       ·have hput:C7 (nm,a) (false,Pl) (xn,xt)=(false,Pl++[(xn,xt)]):=by unfold C7;rw[hlx]
        rw[hlx] at hsl;rw[hput] at hpt;cbv;repeat (first|(with_reducible apply b6 hA;cbv)|(rw[gx];cbv)|(rw[hsl];cbv)|(refine z6 hA true ?_;cbv)|(refine w8 hA (by simp only[r4,c37,c3C,c3H];omega) ?_;cbv))
        refine⟨(qa .i64 (qb z 1),false,vd M [[.sc (.string xn),x0,x1,x2,x3]]),⟨k+1,hz1,h9,by rw[hpt],by rw[hpt];show vd M _=rF (Pl++[(xn,xt)]);rw[r4,hM,T4,T5,hxx]⟩,hmu,?_⟩;cbv
       ·have hput:C7 (nm,a) (false,Pl) (xn,xt)=(true,Pl++[(nm,a)]++[(xn,xt)]):=by unfold C7;rw[hlx]
        rw[hlx] at hsl;rw[hput] at hpt;cbv;repeat (first|(with_reducible apply b6 hA;cbv)|(rw[gx];cbv)|(rw[hsl];cbv)|(refine z6 hA true ?_;cbv)|(refine w8 hA (by simp only[r4,c37,c3C,c3H];omega) ?_;cbv))
        refine⟨(qa .i64 (qb z 1),true,vd (vd M [[.sc (.string nm),a0,a1,a2,a3]]) [[.sc (.string xn),x0,x1,x2,x3]]),⟨k+1,hz1,h9,by rw[hpt],by rw[hpt];show vd (vd M _) _=rF (Pl++[(nm,a)]++[(xn,xt)]);rw[r4,r4,hM,T4,T4,T5,T5,hxx,ha]⟩,hmu,?_⟩;cbv
      ·have hput:C7 (nm,a) (true,Pl) (xn,xt)=(true,Pl++[(xn,xt)]):=rfl;rw[hput] at hpt;cbv;repeat (first|(with_reducible apply b6 hA;cbv)|(rw[gx];cbv)|(rw[hsl];cbv)|(refine z6 hA true ?_;cbv)|(refine w8 hA (by simp only[r4,c37,c3C,c3H];omega) ?_;cbv))
       refine⟨(qa .i64 (qb z 1),true,vd M [[.sc (.string xn),x0,x1,x2,x3]]),⟨k+1,hz1,h9,by rw[hpt],by rw[hpt];show vd M _=rF (Pl++[(xn,xt)]);rw[r4,hM,T4,T5,hxx]⟩,hmu,?_⟩;cbv
     ·rw[c3I h9] at hlt;have hins:=a35 (nm,a) (d5 x8 fs) [];rw[c4i (by omega)] at hin hM
      have hMl:M.length<=1048577:=by
       have h:=a36 (nm,a) (d5 x8 fs) (false,[]);rw[hM,G1];simp only[c3H] at h;omega
      generalize hPk:(d5 x8 fs).foldl (C7 (nm,a)) (false,[])=P at *;obtain⟨Pb,Pl⟩:=P;simp only at hin hM hins;subst hin;rw[c4t,<-a5R] at hins;have hbl:b.parts.length<r.parts.length:=(m9 r).2 b (by rw[hk];simp);have hfs2:(fs++[(nm,a)])++c6 b=c6 t:=by rw[c4c,<-hfs,hfb];rfl
      rw[hlt];cases inn
      ·cbv;repeat (first|(refine a4W hA 4 3 _ rfl rfl ?_;cbv)|(with_reducible apply b6 hA;cbv)|(rw[g1];cbv)|(refine z6 hA true ?_;cbv)|(refine w8 hA (by simp only[r4,c37,c3C,c3H];omega) ?_;cbv))
       have hnew:vd M [[.sc (.string nm),a0,a1,a2,a3]]=rF (d5 x8 (fs++[(nm,a)])):=by rw[<-hins,c3G (by decide),r4,hM,T4,T5,ha]
       refine⟨(b,op',nm',n',K',vd M [[.sc (.string nm),a0,a1,a2,a3]],.d (.sl 5 (vd M [[.sc (.string nm),a0,a1,a2,a3]]))),⟨ks',fs++[(nm,a)],hb.symm,hK',hsb,hnew,hfs2,by rw[<-htl,htb],by rw[c37];show fs.length+1+b.parts.length<=_;omega,.inr rfl⟩,hbl,?_⟩;cbv
      ·cbv;repeat (first|(refine a4W hA 4 3 _ rfl rfl ?_;cbv)|(with_reducible apply b6 hA;cbv)|(rw[g1];cbv)|(refine z6 hA true ?_;cbv)|(refine w8 hA (by simp only[r4,c37,c3C,c3H];omega) ?_;cbv))
       have hnew:M=rF (d5 x8 (fs++[(nm,a)])):=by rw[<-hins,c3E rfl,c3X,hM]
       refine⟨(b,op',nm',n',K',M,.d (.sl 5 M)),⟨ks',fs++[(nm,a)],hb.symm,hK',hsb,hnew,hfs2,by rw[<-htl,htb],by rw[c37];show fs.length+1+b.parts.length<=_;omega,.inr rfl⟩,hbl,?_⟩;cbv
  ·rw[c3I hop] at h11;obtain⟨hf0,ht0⟩:=z8 (t:=r) (by rw[hr];exact hop);rw[hf0,c3X] at hfs;have hLQ:L=Q:=by rw[hL,hfs,hQ]
   rw[ht0,hr] at htl;rw[<-htl,cT,<-hK] at hq;rw[h11]
   rcases hv with⟨hL0,rfl⟩|rfl
   ·cbv;refine b79 hA 4 5 L hL0 rfl ?_;rw[hLQ];cases hq;cbv
    repeat ((with_reducible apply b6 hA);cbv)
   ·rw[hLQ];cases hq;cbv
    repeat ((with_reducible apply b6 hA);cbv)
section
section
variable {I0:Nat->Nat->Prop} {X:Nat->Prop} {w0:W0} {I:Nat->Nat->Prop} {g:Nat->Value} {s:S} {a:Act} {w:World}
theorem RelI.move (h:RelI I0 X w0 I g s a w) {j k:Nat} {z z':Bool} {e e':Nat} {R R':List (List D)} (hj:s.o[j]?=some (.row z e R)) (hk:s.o[k]?=some (.row z' e' R')) (hjk:j≠k) :
  RelI I0 X w0 I (upd g j (g k)) ⟨F3 j s.t,((x7 j s.o).set k .dead).set j (.row z' e' R')⟩ a w:=by
 have hlt:=(c35.1 hj).1;have hltk:=(c35.1 hk).1;obtain⟨usj,hown,_⟩:=h.obj j _ hj;have hnp:J9 (g j)=true->upd g j (g k) j=g j:=λhr=>by rcases hown.2 with⟨e1,_⟩|⟨_,_,_,e1,_⟩ <;> rw[e1] at hr <;> cases hr
 have hg':∀i,i≠j->upd g j (g k) i=g i:=λi hi=>n8 hi
 have hlk:B1 s k:=⟨_,hk,by simp⟩
 have hget:∀i o,(((x7 j s.o).set k .dead).set j (.row z' e' R'))[i]?=some o->o≠.dead->(i=j/\o=.row z' e' R')\/(i≠j/\i≠k/\(x7 j s.o)[i]?=some o):=λi o ho hd=>by
  by_cases hij:j=i
  ·subst hij;rw[c3V (by rw[c3N,G8];exact hlt)] at ho;injection ho with ho;exact .inl ⟨rfl,ho.symm⟩
  ·rw[c3O hij] at ho
   by_cases hik:k=i
   ·subst hik;rw[c3V (by rw[G8];exact hltk)] at ho;injection ho with ho;exact absurd ho.symm hd
   ·rw[c3O hik] at ho;exact .inr ⟨c4W hij,c4W hik,ho⟩
 refine⟨h.im,h.lt,h.fr,h.kp,by simp only[c3N,G8];exact h.lo,λi hi hr=>?_,λi o ho=>?_,λi i' b hi hi' hb hb'=>?_,λi hi=>?_,a2B hg' hnp h.tmp,h.dfr⟩
 ·have e:=h.st i hi hr;refine(hg' i λej=>?_).trans e;subst ej;rw[<-e] at hr
  rcases hown.2 with⟨e1,_⟩|⟨_,_,_,e1,_⟩ <;> rw[e1] at hr <;> cases hr
 ·by_cases hd:o=.dead
  ·subst hd;exact True.intro
  rcases hget i o ho hd with⟨rfl,rfl⟩|⟨hij,hik,ho⟩
  ·obtain⟨us,h1,h2,h3,h4⟩:=h.obj k _ hk;exact⟨us,by rw[i7];exact h1,h2,h3,by rw[i7];exact h4⟩
  ·obtain⟨o',ho',hdd,hsh⟩:=T8 j s.o i o ho;have hob:=h.obj i o' ho'
   rcases hsh with⟨cs,rfl,rfl⟩|⟨ks,rfl,rfl⟩|⟨rfl,hnb,hnf⟩
   ·obtain⟨b,us,t,h1,h2,h3,h4⟩:=hob;exact⟨b,us,t,by rw[n8 hij];exact h1,h2,a1A hg' hnp h3,h4⟩
   ·obtain⟨us,h1,h2,h3⟩:=hob;refine⟨us,by rw[n8 hij];exact h1,h2,λi2 u hu=>?_⟩
    by_cases e:i2=j
    ·exact .inr (.inr (by rw[e];exact c38 ..))
    ·rcases h3 i2 u hu with h4|h4|h4
     ·exact .inl h4
     ·exact .inr (.inl (by rw[n8 e];exact h4))
     ·exact .inr (.inr (c36 _ h4))
   ·cases o with
    | dead=>exact True.intro
    | box cs=>exact absurd rfl (hnb cs)
    | kl ks=>exact absurd rfl (hnf ks)
    | mp kt es =>
     obtain⟨b,l,c,h1,h2⟩:=hob;exact⟨b,l,c,by rw[n8 hij];exact h1,h2⟩
    | ob T vs =>
     obtain⟨b,h1,h2⟩:=hob;exact⟨b,by rw[n8 hij];exact h1,h2⟩
    | it P =>
     obtain⟨A,n,cap,F,h1,h2⟩:=hob;exact⟨A,n,cap,F,by rw[n8 hij];exact h1,h2⟩
    | row z2 e2 rows =>
     obtain⟨us,h1,h2,h3,h4⟩:=hob;exact⟨us,by rw[n8 hij];exact h1,h2,h3,by rw[n8 hij];exact h4⟩
 ·have a1q:∀i,B1 ⟨F3 j s.t,((x7 j s.o).set k .dead).set j (.row z' e' R')⟩ i->∃i2,B1 s i2/\upd g j (g k) i=g i2/\((i=j/\i2=k)\/(i≠j/\i2=i/\i≠k)):=λi hl=>by
   obtain⟨o,ho,hd⟩:=hl
   rcases hget i o ho hd with⟨rfl,rfl⟩|⟨hij,hik,ho⟩
   ·exact⟨k,hlk,i7 ..,.inl ⟨rfl,rfl⟩⟩
   ·obtain⟨o',ho',hdd,_⟩:=T8 j s.o i o ho;exact⟨i,⟨o',ho',hdd hd⟩,n8 hij,.inr ⟨hij,rfl,hik⟩⟩
  obtain⟨i2,l2,e2,c2⟩:=a1q i hi;obtain⟨i3,l3,e3,c3⟩:=a1q i' hi';rw[e2] at hb;rw[e3] at hb';have:=h.dis i2 i3 b l2 l3 hb hb';omega
 ·simp only[c3N,G8] at hi;rw[n8 (by omega)];exact h.out i hi
end
theorem v7.move (s:S) (i j k:Nat) (hjk:H5 j k=false) {z z':Bool} {e e':Nat} {R R':List (List D)} (hi:m5 s.t i=.own k) (hj:m7 s.o j=.row z e R) (hk:m7 s.o k=.row z' e' R') :
  v7 s ⟨G5 (F3 j s.t) i (.own j),B5 (B5 (x7 j s.o) k .dead) j (.row z' e' R')⟩:=by
 rintro I0 X w0 a w ⟨I,g,h⟩
 have hne:j≠k:=a0V.1 hjk;have h2:=h.move (j8 hj (by simp)) (j8 hk (by simp)) hne;refine⟨I,upd g j (g k),?_⟩;rw[y5,y5];refine RelI.reread (s:=⟨F3 j s.t,((x7 j s.o).set k .dead).set j (.row z' e' R')⟩) h2 λv hv=>?_
 have h4:=h.tmp.2 i v _ hv (K6 hi (by simp));cases h4 with
 | own _ A n cap hg=>exact .own _ _ _ _ (by rw[i7];exact hg)
theorem a2b.of {n:Nat} {s s1 s2:S} (h:v7 s s1) (hw:weak s1 s2) (hl:n<=j6 s2.o):a2b n s s2:=λI0 X w0 a w hn hr=>(h _ _ _ _ _ hr).weak (c4E hn (by rw[<-l9];exact hl)) (.inr hw)
def b4z (c:Code) (s:S) (l:List (Nat×V)) (m:List (Nat×O)) (x:List O):S:=⟨b1r l (b2M (wr c []) s.t),b0N (a8U m s.o) x⟩
section
variable {qa:_} {qb:_} {qc:_} {qd:_} {qe:_} {qf:_} {qg:_} {qh:_} {qi:_} {qj:_} {qk:_} {ql:_} {qm:_} {qo:_} {qp:_} {qq:_} {qs:_} {qt:_} {qu:_} {qv:_} {qw:_} {qx:_} {qy:_} {qz:_} {vc:_} {vd:_} {ve:_} {vf:_} {vg:_} {vh:_} {vj:_} {vk:_} {vl:_} {vp:_} {vq:_} {vr:_} {vt:_} {vu:_} {vv:_} {vw:_} {vx:_} {vy:_} {vz:_} (hA:Ar.mk qa qb qc qd qe qf qg qh qi qj qk ql qm qo qp qq qs qt qu qv qw qx qy qz vc vd ve vf vg vh vj vk vl vp vq vr vt vu vv vw vx vy vz=a7)
include hA
theorem b7B {c:Code} {body:S->(X->S->Prop)->Prop} {s:S} {K:X->S->Prop} {γ:Type} (slots:γ->List (Nat×V)) (objs:γ->List (Nat×O)) (xs:γ->List O) (inv:γ->Prop) (μ:γ->Nat) (x0:γ) (h0:inv x0) (hw:a2b (j6 s.o) s (b4z c s (slots x0) (objs x0) (xs x0)))
  (hr:∀x,inv x->body (b4z c s (slots x) (objs x) (xs x)) (λe s'=>a2z (λs2=>∃y,inv y/\μ y<μ x/\a2b (j6 s.o) s2 (b4z c s (slots y) (objs y) (xs y))) K e s')):vz c body s K:=by
 have e:vz=a7.loop:=congrArg Ar.loop hA;rw[e]
 exact .inr (.inr ⟨γ,λx=>b4z c s (slots x) (objs x) (xs x),inv,μ,λx _=>by
  show j6 s.o<=j6 (b0N (a8U (objs x) s.o) (xs x));rw[l9,l9,a3t,c37,a5L]
  exact c5M _ _,⟨x0,hw,h0⟩,hr⟩)
end
end
theorem b5N (t:Ty) (hs:G2 t) (hN:t.parts.length<=1048576):o5 64 [.ag (ofD (cT t))] [] (λres os'=>res=[.own 0,.ag (ofD (cT (f7 t)))]/\os'=[.row false 73 (rF (d5 x8 (c6 t)))]):=by
 obtain⟨Q,hQ⟩:∃Q,Q=rF (d5 x8 (c6 t)):=⟨_,rfl⟩;rw[<-hQ];obtain⟨q0,q1,q2,q3,hq⟩:=c9 (f7 t);rw[hq];obtain⟨op,nm,n,ks⟩:=t;generalize ht:Ty.mk op nm n ks=t at *;have hc:cT t=[.sc (.int .u8 op),.sc (.string nm),.sc (.int .i64 n),.sl 4 (rT ks)]:=by rw[<-ht,cT]
 obtain⟨K0,hK0⟩:∃K,K=rT ks:=⟨_,rfl⟩;rw[hc,<-hK0];refine so9 Tryd.func64 rfl ?_;intro qa qb _ _ _ _ _ qh _ qj _ _ qm qo _ _ _ _ _ _ _ _ qy qz _ vd;intros;rename_i hA;cbv
 repeat (with_reducible apply b6 hA;cbv)
 obtain⟨e1,e2,e3,e4,e5,e6,e7,e8,e9⟩:=j3 hA;obtain⟨s1,s2,s3,s4,s5,s6,-⟩:=w7 hA;obtain⟨r1,r2,r3,r4⟩:=m8 hA
 refine b7B hA (γ:=Ty×Int×ByteArray×Int×List (List D)×List (List D)) (λx=>[(4,.own 2)]) (λx=>[(0,.box [.d (.sc (.int .u8 x.2.1)),.d (.sc (.string x.2.2.1)),.d (.sc (.int .i64 x.2.2.2.1)),.d (.sl 4 x.2.2.2.2.1)])]) (λx=>[.row false 73 x.2.2.2.2.2])
  (λx=>∃ks fs,x.1=.mk x.2.1 x.2.2.1 x.2.2.2.1 ks/\x.2.2.2.2.1=rT ks/\G2 x.1/\x.2.2.2.2.2=rF (d5 x8 fs)/\fs++c6 x.1=c6 t/\f7 x.1=f7 t/\fs.length+x.1.parts.length<=1048576) (λx=>x.1.parts.length) (t,op,nm,n,K0,[]) ?_ ?_ ?_
 ·exact⟨ks,[],ht.symm,hK0,hs,rfl,rfl,rfl,by simpa using hN⟩
 ·refine a2b.of (v7.own _ 4 73 false rfl) ?_ (by exact c4p rfl);cbv
 ·intro x hinv;obtain⟨r,op,nm,n,K,L⟩:=x;cbv;refine gn ?_;obtain⟨ks,fs,hr,hK,hsr,hL,hfs,htl,hlen⟩:=hinv;replace hr:r=.mk op nm n ks:=hr;replace hK:K=rT ks:=hK;replace hsr:G2 r:=hsr;replace hL:L=rF (d5 x8 fs):=hL;replace hfs:fs++c6 r=c6 t:=hfs;replace htl:f7 r=f7 t:=htl;replace hlen:fs.length+r.parts.length<=1048576:=hlen;have h11:qj op 11=decide (op=11):=e9 _ _
  by_cases hop:op=11
  ·rw[c3K hop] at h11;obtain⟨a,b,hk,hsb,hfb,htb⟩:=C4 hsr (by rw[hr];exact hop);have hnmr:r.name=nm:=by rw[hr];rfl
   rw[hnmr] at hfb;have hks:ks=[a,b]:=by rw[<-hk,hr];rfl
   obtain⟨a0,a1,a2,a3,ha⟩:=c9 a;obtain⟨op',nm',n',ks'⟩:=b;generalize hb:Ty.mk op' nm' n' ks'=b at *;have hcb:cT b=[.sc (.int .u8 op'),.sc (.string nm'),.sc (.int .i64 n'),.sl 4 (rT ks')]:=by rw[<-hb,cT]
   obtain⟨K',hK'⟩:∃K,K=rT ks':=⟨_,rfl⟩;rw[<-hK'] at hcb;have g0:qz K 0=some [a0,a1,a2,a3]:=by rw[r2,c3E (by omega),hK,hks];exact congrArg some ha
   have g1:qz K 1=some [.sc (.int .u8 op'),.sc (.string nm'),.sc (.int .i64 n'),.sl 4 K']:=by rw[r2,c3E (by omega),hK,hks];exact congrArg some hcb
   rw[h11];cbv;refine gn ?_;rw[g0];cbv
   repeat (first|(refine a2g hA 6 73 false rfl ?_;cbv)|(with_reducible apply b6 hA;cbv))
   refine l7 hA (γ:=Int×Bool×List (List D)) (λx=>[(8,vi .i64 x.1),(7,vb x.2.1),(6,.own 4)]) (λx=>[(4,.row false 73 x.2.2)])
    (λx=>∃k:Nat,x.1=(k:Int)/\k<=(d5 x8 fs).length/\x.2.1=(((d5 x8 fs).take k).foldl (C7 (nm,a)) (false,[])).1/\x.2.2=rF (((d5 x8 fs).take k).foldl (C7 (nm,a)) (false,[])).2) (λx=>(d5 x8 fs).length - x.1.toNat) (0,false,[]) ?_ ?_ ?_
   ·exact⟨0,rfl,c4e _,rfl,rfl⟩
   ·cbv
   ·intro x hinv;obtain⟨z,inn,M⟩:=x;cbv;refine gn ?_;obtain⟨k,hz,hk2,hin,hM⟩:=hinv;replace hz:z=(k:Int):=hz;replace hin:inn=(((d5 x8 fs).take k).foldl (C7 (nm,a)) (false,[])).1:=hin;replace hM:M=rF (((d5 x8 fs).take k).foldl (C7 (nm,a)) (false,[])).2:=hM;have hsn:(d5 x8 fs).length=fs.length:=K8 fs;have hll:qy L=(((d5 x8 fs).length:Nat):Int):=by rw[r1,hL,G1]
    have hlt:qh z (qy L)=decide (k<(d5 x8 fs).length):=by rw[e7,hll,hz];exact c3M.2 (by omega)
    by_cases h9:k<(d5 x8 fs).length
    ·rw[c3K h9] at hlt;obtain⟨x,hx⟩:∃x,(d5 x8 fs)[k]?=some x:=⟨_,c39 h9⟩;have hpt:=a7K (nm,a) (d5 x8 fs) hx (false,[]);generalize hPk:((d5 x8 fs).take k).foldl (C7 (nm,a)) (false,[])=P at *;obtain⟨xn,xt⟩:=x;obtain⟨x0,x1,x2,x3,hxx⟩:=c9 xt;have gx:qz L z=some [.sc (.string xn),x0,x1,x2,x3]:=by rw[r2,hz,c3E (by omega),hL,show ((k:Int)).toNat=k by omega,a1d hx,hxx]
     have hsl:qm (qo nm) (qo xn)=x8 (nm,a) (xn,xt):=by rw[s2,s3,s3];rfl
     rw[hlt];obtain⟨Pb,Pl⟩:=P;simp only at hin hM;subst hin;have hz1:qa .i64 (qb z 1)=((k+1:Nat):Int):=by rw[e1,e2,hz,IntWalk.i64_in _ (by omega)];omega
     have hmu:(d5 x8 fs).length - (qa .i64 (qb z 1)).toNat<(d5 x8 fs).length - z.toNat:=by rw[hz1,hz];omega
     have hMl:M.length<=1048577:=by
      have h:=a36 (nm,a) ((d5 x8 fs).take k) (false,[]);rw[hPk,c3Z] at h;rw[hM,G1];simp only[c3H] at h;omega
     cases inn
     ·cases hlx:x8 (nm,a) (xn,xt)
      ·have hput:C7 (nm,a) (false,Pl) (xn,xt)=(false,Pl++[(xn,xt)]):=by unfold C7;rw[hlx]
       rw[hlx] at hsl;rw[hput] at hpt;cbv;repeat (first|(with_reducible apply b6 hA;cbv)|(rw[gx];cbv)|(rw[hsl];cbv)|(refine z6 hA true ?_;cbv)|(refine w8 hA (by simp only[r4,c37,c3C,c3H];omega) ?_;cbv))
       refine⟨(qa .i64 (qb z 1),false,vd M [[.sc (.string xn),x0,x1,x2,x3]]),⟨k+1,hz1,h9,by rw[hpt],by rw[hpt];show vd M _=rF (Pl++[(xn,xt)]);rw[r4,hM,T4,T5,hxx]⟩,hmu,?_⟩;cbv
      ·have hput:C7 (nm,a) (false,Pl) (xn,xt)=(true,Pl++[(nm,a)]++[(xn,xt)]):=by unfold C7;rw[hlx]
       rw[hlx] at hsl;rw[hput] at hpt;cbv;repeat (first|(with_reducible apply b6 hA;cbv)|(rw[gx];cbv)|(rw[hsl];cbv)|(refine z6 hA true ?_;cbv)|(refine w8 hA (by simp only[r4,c37,c3C,c3H];omega) ?_;cbv))
       refine⟨(qa .i64 (qb z 1),true,vd (vd M [[.sc (.string nm),a0,a1,a2,a3]]) [[.sc (.string xn),x0,x1,x2,x3]]),⟨k+1,hz1,h9,by rw[hpt],by rw[hpt];show vd (vd M _) _=rF (Pl++[(nm,a)]++[(xn,xt)]);rw[r4,r4,hM,T4,T4,T5,T5,hxx,ha]⟩,hmu,?_⟩;cbv
     ·have hput:C7 (nm,a) (true,Pl) (xn,xt)=(true,Pl++[(xn,xt)]):=rfl;rw[hput] at hpt;cbv;repeat (first|(with_reducible apply b6 hA;cbv)|(rw[gx];cbv)|(rw[hsl];cbv)|(refine z6 hA true ?_;cbv)|(refine w8 hA (by simp only[r4,c37,c3C,c3H];omega) ?_;cbv))
      refine⟨(qa .i64 (qb z 1),true,vd M [[.sc (.string xn),x0,x1,x2,x3]]),⟨k+1,hz1,h9,by rw[hpt],by rw[hpt];show vd M _=rF (Pl++[(xn,xt)]);rw[r4,hM,T4,T5,hxx]⟩,hmu,?_⟩;cbv
    ·rw[c3I h9] at hlt;have hins:=a35 (nm,a) (d5 x8 fs) [];rw[c4i (by omega)] at hin hM
     have hMl:M.length<=1048577:=by
      have h:=a36 (nm,a) (d5 x8 fs) (false,[]);rw[hM,G1];simp only[c3H] at h;omega
     generalize hPk:(d5 x8 fs).foldl (C7 (nm,a)) (false,[])=P at *;obtain⟨Pb,Pl⟩:=P;simp only at hin hM hins;subst hin;rw[c4t,<-a5R] at hins;have hbl:b.parts.length<r.parts.length:=(m9 r).2 b (by rw[hk];simp);have hfs2:(fs++[(nm,a)])++c6 b=c6 t:=by rw[c4c,<-hfs,hfb];rfl
     rw[hlt];cases inn
     ·cbv;repeat (first|(with_reducible apply b6 hA;cbv)|(rw[g1];cbv)|(refine z6 hA true ?_;cbv)|(refine w8 hA (by simp only[r4,c37,c3C,c3H];omega) ?_;cbv))
      have hnew:vd M [[.sc (.string nm),a0,a1,a2,a3]]=rF (d5 x8 (fs++[(nm,a)])):=by rw[<-hins,c3G (by decide),r4,hM,T4,T5,ha]
      refine⟨(b,op',nm',n',K',vd M [[.sc (.string nm),a0,a1,a2,a3]]),⟨ks',fs++[(nm,a)],hb.symm,hK',hsb,hnew,hfs2,by rw[<-htl,htb],by rw[c37];show fs.length+1+b.parts.length<=_;omega⟩,hbl,a2b.of (v7.move _ 4 2 4 rfl rfl rfl rfl) ?_ (by exact c4p rfl)⟩;cbv
     ·cbv;repeat (first|(with_reducible apply b6 hA;cbv)|(rw[g1];cbv)|(refine z6 hA true ?_;cbv)|(refine w8 hA (by simp only[r4,c37,c3C,c3H];omega) ?_;cbv))
      have hnew:M=rF (d5 x8 (fs++[(nm,a)])):=by rw[<-hins,c3E rfl,c3X,hM]
      refine⟨(b,op',nm',n',K',M),⟨ks',fs++[(nm,a)],hb.symm,hK',hsb,hnew,hfs2,by rw[<-htl,htb],by rw[c37];show fs.length+1+b.parts.length<=_;omega⟩,hbl,a2b.of (v7.move _ 4 2 4 rfl rfl rfl rfl) ?_ (by exact c4p rfl)⟩;cbv
  ·rw[c3I hop] at h11;obtain⟨hf0,ht0⟩:=z8 (t:=r) (by rw[hr];exact hop);rw[hf0,c3X] at hfs;have hLQ:L=Q:=by rw[hL,hfs,hQ]
   rw[ht0,hr] at htl;rw[<-htl,cT,<-hK] at hq;rw[h11,hLQ];cases hq;cbv;refine gn ?_;exact i6 hA [2] ⟨rfl,rfl,rfl,rfl,rfl,rfl,rfl,rfl⟩ ⟨rfl,rfl⟩
section
def a0z {α:Type} (a b:Nat):Nat->List α->List α
 | 0,l=>l
 | k+1,l=>match (a0z a b k l)[a+k]?,(a0z a b k l)[b+k]? with
  | some x,some y=>((a0z a b k l).set (a+k) y).set (b+k) x
  | _,_=>a0z a b k l
theorem a38 {α:Type} (a b:Nat):∀(k:Nat) (l:List α),(a0z a b k l).length=l.length
 | 0,l=>rfl
 | k+1,l=>by
  unfold a0z
  split
  ·rw[c3N,c3N,a38]
  ·exact a38 a b k l
theorem a8X {α:Type} (a b:Nat):∀(k:Nat) (l:List α),a+k<=b->b+k<=l.length->∀i,(a0z a b k l)[i]?=if a<=i/\i<a+k then l[i - a+b]? else if b<=i/\i<b+k then l[i - b+a]? else l[i]?
 | 0,l,_,_,i=>by
  rw[c3G (by omega),c3G (by omega)];rfl
 | k+1,l,h1,h2,i=>by
  have ih:=a8X a b k l (by omega) (by omega);have ea:=ih (a+k);have eb:=ih (b+k);rw[c3G (by omega),c3G (by omega)] at ea eb;have hla:a+k<l.length:=by omega
  have hlb:b+k<l.length:=by omega
  rw[c39 hla] at ea;rw[c39 hlb] at eb;unfold a0z;rw[ea,eb];simp only;have hsl:=a38 a b k l
  by_cases e1:i=b+k
  ·subst e1;rw[c3V (by rw[c3N,hsl];omega),c3G (by omega),c3E (by omega),show b+k - b+a=a+k by omega,c39 hla]
  ·rw[c3O (by omega)]
   by_cases e2:i=a+k
   ·subst e2;rw[c3V (by rw[hsl];omega),c3E (by omega),show a+k - a+b=b+k by omega,c39 hlb]
   ·rw[c3O (by omega),ih i]
    by_cases c1:a<=i/\i<a+k
    ·rw[c3E c1,c3E (by omega)]
    ·rw[c3G c1]
     by_cases c2:b<=i/\i<b+k
     ·rw[c3E c2,c3G (by omega),c3E (by omega)]
     ·rw[c3G c2,c3G (by omega),c3G (by omega)]
theorem a3d {α:Type} (P X M Y S:List α) (h:X.length=Y.length):a0z P.length (P.length+X.length+M.length) X.length (P++(X++(M++(Y++S))))=P++(Y++(M++(X++S))):=by
 apply c5h
 intro i;rw[a8X _ _ _ _ (by omega) (by simp only[c37];omega)];simp only[List.getElem?_append]
 repeat' split
 all_goals first
  | rfl
  | omega
  | (congr 1;omega)
theorem a1f {α:Type} {l:List α} {n:Nat} (h:n<=l.length):∃a b,l=a++b/\a.length=n:=⟨l.take n,l.drop n,(c4D n l).symm,by simp;omega⟩
theorem a3e {α:Type} {xs:List α} {k:Nat} {y:α} (h:xs[k]?=some y):xs.take (k+1)=xs.take k++[y]:=by
 obtain⟨hi,e⟩:=c35.1 h;rw[c5p hi,e]
theorem a1K:∀l:List UInt8,Op.bytesLess l l=false
 | []=>rfl
 | a::l=>by simp[Op.bytesLess,a1K l]
theorem a5S:∀x y z:List UInt8,Op.bytesLess x y=true->Op.bytesLess y z=true->Op.bytesLess x z=true
 | x,[],_,h,_=>by cases x <;> simp[Op.bytesLess] at h
 | _,_::_,[],_,h=>by simp[Op.bytesLess] at h
 | [],_::_,_::_,_,_=>by simp[Op.bytesLess]
 | a::x,b::y,c::z,h1,h2=>by
  simp only[Op.bytesLess,c45,c4T,c3D,c4v] at h1 h2 ⊢
  rcases h1 with h1|⟨rfl,h1⟩
  ·rcases h2 with h2|⟨rfl,h2⟩
   ·exact .inl (UInt8.lt_trans h1 h2)
   ·exact .inl h1
  ·rcases h2 with h2|⟨rfl,h2⟩
   ·exact .inl h2
   ·exact .inr ⟨rfl,a5S x y z h1 h2⟩
theorem a5T:∀x y z:List UInt8,Op.bytesLess x y=false->Op.bytesLess y z=false->Op.bytesLess x z=false
 | x,_,[],_,_=>by cases x <;> simp[Op.bytesLess]
 | _,[],_::_,_,h=>by simp[Op.bytesLess] at h
 | [],_::_,_,h,_=>by simp[Op.bytesLess] at h
 | a::x,b::y,c::z,h1,h2=>by
  simp only[Op.bytesLess,c54,decide_eq_false_iff_not,Bool.and_eq_false_iff,c3R,ne_eq] at h1 h2 ⊢;obtain⟨h1,h1'⟩:=h1;obtain⟨h2,h2'⟩:=h2
  have h3:¬a<c:=λh=>by
   rw[c5e] at h h1 h2;omega
  refine⟨h3,?_⟩
  by_cases hac:a=c
  ·subst hac
   right
   have hab:a=b:=by
    rw[c5e] at h1 h2;exact c59.1 (by omega)
   subst hab;exact a5T x y z (by simpa using h1') (by simpa using h2')
  ·exact .inl hac
abbrev Rw:=List D
def c2u:Rw->List UInt8
 | .sc (.string a)::_=>a.toList
 | _=>[]
def A9 (x y:Rw):Bool:=Op.bytesLess (c2u x) (c2u y)
theorem M6:Swo A9:=⟨λ_=>a1K _,λ_ _ _=>a5S _ _ _,λ_ _ _=>a5T _ _ _⟩
theorem b13 {α β:Type} {f:α->β} {lt:α->α->Bool} {lt2:β->β->Bool} (h:∀x y,lt2 (f x) (f y)=lt x y) (x:α):∀l:List α,P8 lt2 (f x) (l.map f)=(P8 lt x l).map f
 | []=>rfl
 | y::l=>by
  rw[c3Y,P8,P8,h]
  split
  ·rfl
  ·rw[c3Y,b13 h x l]
theorem a8Y {α β:Type} {f:α->β} {lt:α->α->Bool} {lt2:β->β->Bool} (h:∀x y,lt2 (f x) (f y)=lt x y) (l:List α):d5 lt2 (l.map f)=(d5 lt l).map f:=by
 have key:∀(l acc:List α),(l.map f).foldl (λacc x=>P8 lt2 x acc) (acc.map f)=(l.foldl (λacc x=>P8 lt x acc) acc).map f:=by
  intro l
  induction l with
  | nil=>intro acc;rfl
  | cons x l ih=>intro acc;rw[c3Y,c4P,c4P,b13 h,ih]
 exact key l []
theorem c10 {x:Rw} {L:List Rw} {y:Rw} (hs:P7 A9 (L++[y])) (h:A9 x y=false):∀z∈L++[y],A9 x z=false:=by
 intro z hz
 rcases c4b.1 hz with hz|hz
 ·exact M6.neg x y z h ((C6.1 hs).2.2 z hz y (by simp))
 ·simp at hz;subst hz;exact h
theorem b14 {α:Type} (A R:List α) (x y:α) {k:Nat} (h:A.length=k):((A++y::x::R).set (k+1) y).set k x=A++x::y::R:=by
 subst h;rw[c4V _ _ (by omega),show A.length+1 - A.length=1 by omega,c4V _ _ (c3A _),c5g];rfl
theorem a6D {V:List Rw} {h:Nat} {y:Rw} (hs:P7 A9 V) (hy:V[h]?=some y):(∀z∈V.take h,A9 y z=false)/\∀z∈V.drop (h+1),A9 z y=false:=by
 obtain⟨hh,e⟩:=c35.1 hy
 have hsp:V=V.take h++y::V.drop (h+1):=by
  conv=>lhs;rw[<-c4D h V,c3U hh,e]
 rw[hsp] at hs;obtain⟨_,h2,h3⟩:=C6.1 hs;exact⟨λz hz=>h3 z hz y (c38 ..),λz hz=>(c4n.1 h2).1 z hz⟩
theorem b5O {V:List Rw} {h:Nat} {y u:Rw} (hs:P7 A9 V) (hy:V[h]?=some y) (hl:A9 y u=true):∀z∈V.take (h+1),A9 z u=true:=by
 intro z hz;rw[a3e hy] at hz
 rcases c4b.1 hz with hz|hz
 ·exact a3a M6 ((a6D hs hy).1 z hz) hl
 ·simp at hz;subst hz;exact hl
theorem b15 {V:List Rw} {h:Nat} {y u:Rw} (hs:P7 A9 V) (hy:V[h]?=some y) (hl:A9 y u=false):∀z∈V.drop h,A9 z u=false:=by
 intro z hz;obtain⟨hh,e⟩:=c35.1 hy;rw[c3U hh,e] at hz
 rcases c3F.1 hz with rfl|hz
 ·exact hl
 ·exact M6.neg z y u ((a6D hs hy).2 z hz) hl
theorem b5P {α:Type} (A R:List α) (x y:α) {k:Nat} (h:A.length=k):((A++x::y::R).set k y).set (k+1) x=A++y::x::R:=by
 subst h;rw[c4V _ _ (c3A _),c5g,List.set_cons_zero,c4V _ _ (by omega),show A.length+1 - A.length=1 by omega];rfl
theorem b2R {V:List Rw} {h:Nat} {y u:Rw} (hs:P7 A9 V) (hy:V[h]?=some y) (hl:A9 u y=false):∀z∈V.take (h+1),A9 u z=false:=by
 intro z hz;rw[a3e hy] at hz
 rcases c4b.1 hz with hz|hz
 ·exact M6.neg u y z hl ((a6D hs hy).1 z hz)
 ·simp at hz;subst hz;exact hl
theorem b0d {V:List Rw} {h:Nat} {y u:Rw} (hs:P7 A9 V) (hy:V[h]?=some y) (hl:A9 u y=true):∀z∈V.drop h,A9 u z=true:=by
 intro z hz;obtain⟨hh,e⟩:=c35.1 hy;rw[c3U hh,e] at hz
 rcases c3F.1 hz with rfl|hz
 ·exact hl
 ·exact a0x M6 hl ((a6D hs hy).2 z hz)
theorem a3f {l:List Rw} (h:P7 A9 l) {i j:Nat} {x y:Rw} (hij:i<=j) (hx:l[i]?=some x) (hy:l[j]?=some y):A9 y x=false:=by
 rcases c4q i j with hlt|hge
 ·obtain⟨hi,ei⟩:=c35.1 hx;obtain⟨hj,ej⟩:=c35.1 hy;have:=List.pairwise_iff_getElem.1 h i j hi hj hlt;rw[ei,ej] at this;exact this
 ·obtain rfl:i=j:=by omega
  rw[hx] at hy;injection hy with hy;subst hy;exact M6.irr x
def a4o (a m b mid s0 r0:Nat):Prop:=(m<=mid/\s0=a/\r0=m)\/(mid<m/\s0+b=mid+m/\r0=mid)
def b7C (U V:List Rw) (a m p s0 s:Nat):Prop:=∀c x y,s0<=c->c<s->U[c - a]?=some x->V[p - c - m]?=some y->A9 y x=false
def b16 (U V:List Rw) (a m p r r0:Nat):Prop:=∀c x y,r<=c->c<r0->U[c - a]?=some x->V[p - c - m]?=some y->A9 y x=true
section
variable {U V:List Rw} {a m b mid p s0 r0:Nat}
theorem H7 (hw:a4o a m b mid s0 r0) (hmid:mid=(a+b) / 2) (ham:a<m) (hmb:m<b) {s:Nat} (h1:s0<=s) (h2:s<=r0):a<=s/\s<=m/\s<=mid/\m<=mid+m - s/\mid+m - s<=b/\mid<=mid+m - s:=by
 rcases hw with⟨h,rfl,rfl⟩|⟨h,h3,rfl⟩ <;> omega
theorem b99 (hU:P7 A9 U) (hV:P7 A9 V) (hw:a4o a m b mid s0 r0) (hmid:mid=(a+b) / 2) (ham:a<m) (hmb:m<b) (hp:p+1=mid+m) {c:Nat} {x y:Rw} (hc0:s0<=c) (hc:c<r0) (hx:U[c - a]?=some x) (hy:V[p - c - m]?=some y) (hl:A9 y x=false) :
  b7C U V a m p s0 (c+1):=by
 intro d x' y' hd hdc hx' hy';have b1:=H7 hw hmid ham hmb hc0 (Nat.le_of_lt hc);have b2:=H7 hw hmid ham hmb hd (by omega);have h1:=a3f hU (show d - a<=c - a by omega) hx' hx;have h2:=a3f hV (show p - c - m<=p - d - m by omega) hy hy';exact M6.neg _ _ _ (M6.neg _ _ _ h2 hl) h1
theorem b2S (hU:P7 A9 U) (hV:P7 A9 V) (hw:a4o a m b mid s0 r0) (hmid:mid=(a+b) / 2) (ham:a<m) (hmb:m<b) (hp:p+1=mid+m) {c:Nat} {x y:Rw} (hc0:s0<=c) (hc:c<r0) (hx:U[c - a]?=some x) (hy:V[p - c - m]?=some y) (hl:A9 y x=true) :
  b16 U V a m p c r0:=by
 intro d x' y' hd hdr hx' hy';have b1:=H7 hw hmid ham hmb hc0 (Nat.le_of_lt hc);have h1:=a3f hU (show c - a<=d - a by omega) hx hx';have h2:=a3f hV (show p - d - m<=p - c - m by omega) hy' hy;exact a0x M6 (a3a M6 h2 hl) h1
theorem c11 (hU:P7 A9 U) (hV:P7 A9 V) (hUl:U.length=m - a) (hVl:V.length=b - m) (hw:a4o a m b mid s0 r0) (hmid:mid=(a+b) / 2) (ham:a<m) (hmb:m<b) (hp:p+1=mid+m) {s:Nat} (h1:s0<=s) (h2:s<=r0) (hlo:b7C U V a m p s0 s) (hhi:b16 U V a m p s r0) :
  (∀x∈U.drop (s - a),∀y∈V.take (mid+m - s - m),A9 y x=true)/\∀x∈U.take (s - a),∀y∈V.drop (mid+m - s - m),A9 y x=false:=by
 have b0:=H7 hw hmid ham hmb h1 h2
 constructor
 ·intro x hx y hy;obtain⟨i,hi⟩:=c4f.1 hx;obtain⟨j,hj⟩:=c4f.1 hy;rw[c4k] at hi
  have hj2:j<mid+m - s - m/\V[j]?=some y:=by
   rw[c4l] at hj
   split at hj
   ·exact⟨by omega,hj⟩
   ·cases hj
  have hiu:s - a+i<U.length:=(c35.1 hi).1
  by_cases hs:s<r0
  ·obtain⟨x0,hx0⟩:∃x0,U[s - a]?=some x0:=⟨_,c39 (by omega)⟩;obtain⟨y0,hy0⟩:∃y0,V[p - s - m]?=some y0:=⟨_,c39 (by omega)⟩;have h:=hhi s x0 y0 (c3A _) hs hx0 hy0;exact a0x M6 (a3a M6 (a3f hV (show j<=p - s - m by omega) hj2.2 hy0) h) (a3f hU (show s - a<=s - a+i by omega) hx0 hi)
  ·rcases hw with⟨h,rfl,rfl⟩|⟨h,h3,rfl⟩ <;> omega
 ·intro x hx y hy;obtain⟨i,hi⟩:=c4f.1 hx;obtain⟨j,hj⟩:=c4f.1 hy;rw[c4k] at hj
  have hi2:i<s - a/\U[i]?=some x:=by
   rw[c4l] at hi
   split at hi
   ·exact⟨by omega,hi⟩
   ·cases hi
  have hjv:mid+m - s - m+j<V.length:=(c35.1 hj).1
  by_cases hs:s0<s
  ·have b1:=H7 hw hmid ham hmb (s:=s - 1) (by omega) (by omega);obtain⟨x0,hx0⟩:∃x0,U[s - 1 - a]?=some x0:=⟨_,c39 (by omega)⟩;obtain⟨y0,hy0⟩:∃y0,V[p - (s - 1) - m]?=some y0:=⟨_,c39 (by omega)⟩;have h:=hlo (s - 1) x0 y0 (by omega) (by omega) hx0 hy0;exact M6.neg _ _ _ (M6.neg _ _ _ (a3f hV (show p - (s - 1) - m<=mid+m - s - m+j by omega) hy0 hj) h) (a3f hU (show i<=s - 1 - a by omega) hi2.2 hx0)
  ·rcases hw with⟨h,rfl,rfl⟩|⟨h,h3,rfl⟩ <;> omega
end
def a3g (bs:Nat) (bl:List (List Rw)):Prop:=∀x∈bl,x.length=bs/\P7 A9 x
theorem a7L {bs:Nat}:∀ {bl:List (List Rw)},a3g bs bl->bl.flatten.length=bl.length * bs
 | [],_=>by simp
 | x::bl,h=>by
  rw[c4x,c37,(h x (c38 ..)).1,a7L λy hy=>h y (c36 _ hy),c3C,c4R];omega
theorem a3g.snoc {bs:Nat} {bl:List (List Rw)} {x:List Rw} (h:a3g bs bl) (hx:x.length=bs/\P7 A9 x):a3g bs (bl++[x]):=λy hy=>by
 rcases c4b.1 hy with hy|hy
 ·exact h y hy
 ·simp at hy;subst hy;exact hx
end
theorem c2v {x:Rw} (h:x.length=5):∃x0 x1 x2 x3 x4,x=[x0,x1,x2,x3,x4]:=by
 match x,h with
 | [x0,x1,x2,x3,x4],_=>exact⟨x0,x1,x2,x3,x4,rfl⟩
theorem a0N {α:Type} (a b:Nat):∀(k:Nat) (l:List α),∀x∈a0z a b k l,x∈l
 | 0,l,x,h=>h
 | k+1,l,x,h=>by
  unfold a0z at h
  split at h
  ·rename_i y z h1 h2
   rcases c46 h with h|rfl
   ·rcases c46 h with h|rfl
    ·exact a0N a b k l x h
    ·exact a0N a b k l _ (c3J h2)
   ·exact a0N a b k l _ (c3J h1)
  ·exact a0N a b k l x h
theorem b2T (rows:List Rw) (h5:∀x∈rows,x.length=5) (a b k fid:Nat) (hN:rows.length<=1048576) (hab:a+k<=b) (hb:b+k<=rows.length) :
  a0Z 96 [.own 0,vi .i64 a,vi .i64 b,vi .i64 k,.cl fid []] [.row false 73 rows] (λres os=>res=[]/\os=[.row false 73 (a0z a b k rows)]):=by
 obtain⟨za,hza⟩:∃z:Int,z=(a:Int):=⟨_,rfl⟩;obtain⟨zb,hzb⟩:∃z:Int,z=(b:Int):=⟨_,rfl⟩;obtain⟨zk,hzk⟩:∃z:Int,z=(k:Int):=⟨_,rfl⟩;rw[<-hza,<-hzb,<-hzk];obtain⟨S,hS⟩:∃S,S=a0z a b k rows:=⟨_,rfl⟩;rw[<-hS];refine a0w Tryd.func96 rfl (by kernel_rfl) (by kernel_rfl) (by kernel_rfl) rfl rfl (by rintro _ _ ⟨_,rfl⟩;rfl) ?_;intro qa qb _ _ _ _ _ qh _ _ _ _ _ _ _ _ _ _ _ _ _ _ _ qz _ _ ve;intros;rename_i hA K hK;cbv;refine gn ?_;obtain⟨e1,e2,e3,e4,e5,e6,e7,e8,e9⟩:=j3 hA;obtain⟨r1,r2,r3,r4⟩:=m8 hA;obtain⟨m1,m2,m3,m4⟩:=N6 hA;replace hza:za=(a:Int):=hza;replace hzb:zb=(b:Int):=hzb;replace hzk:zk=(k:Int):=hzk;refine l7 hA (γ:=Int×List (List D)) (λx=>[(10,vi .i64 x.1),(29,.jk),(35,.jk)]) (λx=>[(0,.row false 73 x.2)]) (λx=>∃j:Nat,x.1=(j:Int)/\j<=k/\x.2=a0z a b j rows) (λx=>k - x.1.toNat) (0,rows) ?_ ?_ ?_
 ·exact⟨0,rfl,c4e _,rfl⟩
 ·cbv
 ·intro x hinv;obtain⟨z,L⟩:=x;cbv;refine gn ?_;obtain⟨j,hz,hj,hL⟩:=hinv;replace hz:z=(j:Int):=hz;replace hza:za=(a:Int):=hza;replace hzb:zb=(b:Int):=hzb;replace hzk:zk=(k:Int):=hzk;replace hL:L=a0z a b j rows:=hL;have hlt:qh z zk=decide (j<k):=by rw[e7,hz,hzk];exact c3M.2 (by omega)
  by_cases h9:j<k
  ·rw[c3K h9] at hlt;have hLl:L.length=rows.length:=by rw[hL,a38]
   obtain⟨x,hx⟩:∃x,L[a+j]?=some x:=⟨_,c39 (by omega)⟩;obtain⟨y,hy⟩:∃y,L[b+j]?=some y:=⟨_,c39 (by omega)⟩;have hx5:=h5 x (a0N a b j rows x (by rw[<-hL];exact c3J hx));have hy5:=h5 y (a0N a b j rows y (by rw[<-hL];exact c3J hy));obtain⟨x0,x1,x2,x3,x4,rfl⟩:=c2v hx5;obtain⟨y0,y1,y2,y3,y4,rfl⟩:=c2v hy5;have wa:qa .i64 (qb za z)=((a+j:Nat):Int):=by rw[e1,e2,hza,hz,IntWalk.i64_in _ (by omega)];omega
   have wb:qa .i64 (qb zb z)=((b+j:Nat):Int):=by rw[e1,e2,hzb,hz,IntWalk.i64_in _ (by omega)];omega
   have g1:qz L (qa .i64 (qb zb z))=some [y0,y1,y2,y3,y4]:=by rw[wb,r2,c3E (by omega),c3W];exact hy
   have g2:qz L (qa .i64 (qb za z))=some [x0,x1,x2,x3,x4]:=by rw[wa,r2,c3E (by omega),c3W];exact hx
   have g3:∀v,qz (ve L (qa .i64 (qb za z)) v) (qa .i64 (qb zb z))=some [y0,y1,y2,y3,y4]:=λv=>by rw[wb,wa,r2,c3E (by omega),m4,c3W,c3W,c3O (by omega)];exact hy
   have hsw:a0z a b (j+1) rows=(L.set (a+j) [y0,y1,y2,y3,y4]).set (b+j) [x0,x1,x2,x3,x4]:=by
    rw[a0z,<-hL,hx,hy]
   rw[hlt];cbv;refine gn ?_
   repeat (first|(rw[g1];cbv)|(rw[g2];cbv)|(rw[g3];cbv)|(with_reducible apply b6 hA;cbv))
   replace hz:z=(j:Int):=hz;have hz1:qa .i64 (qb z 1)=((j+1:Nat):Int):=by rw[e1,e2,hz,IntWalk.i64_in _ (by omega)];omega
   refine⟨(qa .i64 (qb z 1),ve (ve L (qa .i64 (qb za z)) [y0,y1,y2,y3,y4]) (qa .i64 (qb zb z)) [x0,x1,x2,x3,x4]),⟨j+1,hz1,h9,?_⟩,?_,?_⟩
   ·show ve (ve L _ _) _ _=_;rw[m4,m4,wa,wb,c3W,c3W,hsw]
   ·show k - (qa .i64 (qb z 1)).toNat<k - z.toNat;rw[hz1,hz];omega
   ·cbv
  ·rw[c3I h9] at hlt;rw[hlt];cbv;refine gn ?_;have hjk:j=k:=by omega
   exact hK [] [.row false 73 L] ⟨rfl,by rw[hS,<-hjk,<-hL]⟩
theorem b7D (P X Y S:List Rw) (h5:∀x∈P++(X++(Y++S)),x.length=5) (fid:Nat) (hN:(P++(X++(Y++S))).length<=1048576) (hx:0<X.length) (hy:0<Y.length) :
  a0Z 89 [.own 0,vi .i64 P.length,vi .i64 (P.length+X.length:Nat),vi .i64 (P.length+X.length+Y.length:Nat),.cl fid []] [.row false 73 (P++(X++(Y++S)))] (λres os=>res=[]/\os=[.row false 73 (P++(Y++(X++S)))]):=by
 obtain⟨za,hza⟩:∃z:Int,z=(P.length:Int):=⟨_,rfl⟩;obtain⟨zm,hzm⟩:∃z:Int,z=((P.length+X.length:Nat):Int):=⟨_,rfl⟩;obtain⟨zb,hzb⟩:∃z:Int,z=((P.length+X.length+Y.length:Nat):Int):=⟨_,rfl⟩;obtain⟨L,hL⟩:∃L,L=P++(X++(Y++S)):=⟨_,rfl⟩;obtain⟨M,hM⟩:∃M,M=P++(Y++(X++S)):=⟨_,rfl⟩;rw[<-hza,<-hzm,<-hzb,<-hM,<-hL];rw[<-hL] at h5 hN;have hLl:L.length=P.length+X.length+Y.length+S.length:=by rw[hL];simp only[c37];omega
 refine a0w Tryd.func89 rfl (by kernel_rfl) (by kernel_rfl) (by kernel_rfl) rfl rfl (by rintro _ _ ⟨_,rfl⟩;rfl) ?_;intro qa qb qc _ _ _ _ qh _ qj;intros;rename_i hA K hK;cbv;refine gn ?_;try simp only[nc] at *
 obtain⟨e1,e2,e3,e4,e5,e6,e7,e8,e9⟩:=j3 hA;have wi:qa .i64 (qc zm za)=(X.length:Int):=by rw[e1,e3,hza,hzm,IntWalk.i64_in _ (by omega)];omega
 have wj:qa .i64 (qc zb zm)=(Y.length:Int):=by rw[e1,e3,hzb,hzm,IntWalk.i64_in _ (by omega)];omega
 refine l7 hA (γ:=Int×Int×List (List D)) (λx=>[(10,vi .i64 x.1),(11,vi .i64 x.2.1)]) (λx=>[(0,.row false 73 x.2.2)])
  (λx=>∃P' X' Y' S':List Rw,0<X'.length/\0<Y'.length/\P'.length+X'.length=P.length+X.length/\x.1=(X'.length:Int)/\x.2.1=(Y'.length:Int)/\P'++(Y'++(X'++S'))=M/\x.2.2=P'++(X'++(Y'++S'))/\x.2.2.length=L.length/\∀r∈x.2.2,r.length=5) (λx=>x.1.toNat+x.2.1.toNat) (qa .i64 (qc zm za),qa .i64 (qc zb zm),L) ?_ ?_ ?_
 ·exact⟨P,X,Y,S,hx,hy,rfl,wi,wj,hM.symm,hL,rfl,h5⟩
 ·cbv
 ·intro x hinv;obtain⟨zi,zj,Q⟩:=x;cbv;refine gn ?_;try simp only[nc] at *
  obtain⟨P',X',Y',S',hx',hy',hm,hi,hj,he,hQ,hQl,hQ5⟩:=hinv;replace hQ:Q=P'++(X'++(Y'++S')):=hQ;replace hQl:Q.length=L.length:=hQl;have hQl2:Q.length=P'.length+X'.length+Y'.length+S'.length:=by rw[hQ];simp only[c37];omega
  have heq:qj zi zj=(zi == zj):=e9 _ _;have hgt:qh zj zi=decide (Y'.length<X'.length):=by rw[e7,hi,hj];exact c3M.2 (by omega)
  have wp:qa .i64 (qc zm zi)=(P'.length:Int):=by rw[e1,e3,hzm,hi,IntWalk.i64_in _ (by omega)];omega
  by_cases hij:X'.length=Y'.length
  ·have h1:qj zi zj=true:=by rw[heq,hi,hj,hij];exact c4M _
   have hsp:=a3d P' X' [] Y' S' hij;rw[c4t,c4t,<-hQ,he,c3H,c4F] at hsp;have hsw:=b2T Q hQ5 P'.length (P'.length+X'.length) X'.length fid (by omega) (c3A _) (by omega);rw[hsp,<-wp,hm,<-hzm,<-hi] at hsw;rw[h1];cbv;refine gn ?_;try simp only[nc] at *
   refine F7 hA [0] hsw ⟨rfl,rfl,rfl,rfl,rfl,rfl,rfl⟩ ?_
   rintro res os2 ⟨rfl,rfl⟩
   cbv;refine gn ?_;try simp only[nc] at *
   exact hK [] [.row false 73 M] ⟨rfl,rfl⟩
  ·have h1:qj zi zj=false:=by rw[heq,hi,hj,c3R];omega
   rw[h1];cbv;refine gn ?_;try simp only[nc] at *
   by_cases hlt:Y'.length<X'.length
   ·rw[c3K hlt] at hgt;obtain⟨X1,X2,hX,hX1⟩:=a1f (l:=X') (n:=Y'.length) (by omega);have hX2:Y'.length+X2.length=X'.length:=by rw[hX,c37];omega
    have hsp:=a3d P' X1 X2 Y' S' hX1;have hQ2:P'++(X1++(X2++(Y'++S')))=Q:=by rw[hQ,hX];simp only[c4c]
    rw[hQ2,hX1] at hsp;have hsw:=b2T Q hQ5 P'.length (P'.length+Y'.length+X2.length) Y'.length fid (by omega) (by omega) (by omega);rw[hsp,show P'.length+Y'.length+X2.length=P.length+X.length by omega,<-wp,<-hzm,<-hj] at hsw;rw[hgt];cbv;refine gn ?_;try simp only[nc] at *
    refine F7 hA [0] hsw ⟨rfl,rfl,rfl,rfl,rfl,rfl,rfl⟩ ?_
    rintro res os2 ⟨rfl,rfl⟩
    cbv;refine gn ?_;try simp only[nc] at *
    have wz:qa .i64 (qc zi zj)=(X2.length:Int):=by rw[e1,e3,hi,hj,IntWalk.i64_in _ (by omega)];omega
    have hmu:(qa .i64 (qc zi zj)).toNat+zj.toNat<zi.toNat+zj.toNat:=by rw[wz,hi,hj];omega
    refine⟨(qa .i64 (qc zi zj),zj,P'++(Y'++(X2++(X1++S')))),⟨P'++Y',X2,X1,S',by omega,by omega,by rw[c37];omega,wz,by rw[hX1];exact hj,?_,by simp only[c4c],?_,?_⟩,hmu,?_⟩
    ·rw[<-he,hX];simp only[c4c]
    ·show (P'++(Y'++(X2++(X1++S')))).length=L.length;rw[<-hQl,<-hQ2];simp only[c37];omega
    ·intro r hr;refine hQ5 r ?_;rw[<-hQ2];simp only[c4b] at hr ⊢
     grind
    ·cbv
   ·rw[c3I hlt] at hgt;obtain⟨Y1,Y2,hY,hY1⟩:=a1f (l:=Y') (n:=Y'.length - X'.length) (by omega);have hY2:Y2.length=X'.length:=by have:=congrArg List.length hY;rw[c37] at this;omega
    have hsp:=a3d P' X' Y1 Y2 S' hY2.symm;have hQ2:P'++(X'++(Y1++(Y2++S')))=Q:=by rw[hQ,hY];simp only[c4c]
    rw[hQ2] at hsp;have hsw:=b2T Q hQ5 P'.length (P'.length+X'.length+Y1.length) X'.length fid (by omega) (by omega) (by omega)
    have wq:qa .i64 (qc (qa .i64 (qb zm zj)) zi)=((P'.length+X'.length+Y1.length:Nat):Int):=by
     have h2:qa .i64 (qb zm zj)=((P.length+X.length+Y'.length:Nat):Int):=by rw[e1,e2,hzm,hj,IntWalk.i64_in _ (by omega)];omega
     rw[h2,e1,e3,hi,IntWalk.i64_in _ (by omega)];omega
    rw[hsp,<-wp,<-wq,<-hi] at hsw;rw[hgt];cbv;refine gn ?_;try simp only[nc] at *
    refine F7 hA [0] hsw ⟨rfl,rfl,rfl,rfl,rfl,rfl,rfl⟩ ?_
    rintro res os2 ⟨rfl,rfl⟩
    cbv;refine gn ?_;try simp only[nc] at *
    have wz:qa .i64 (qc zj zi)=(Y1.length:Int):=by rw[e1,e3,hi,hj,IntWalk.i64_in _ (by omega)];omega
    have hmu:zi.toNat+(qa .i64 (qc zj zi)).toNat<zi.toNat+zj.toNat:=by rw[wz,hi,hj];omega
    refine⟨(zi,qa .i64 (qc zj zi),P'++(Y2++(Y1++(X'++S')))),⟨P',Y2,Y1,X'++S',by omega,by omega,by omega,by rw[hY2];exact hi,wz,?_,rfl,?_,?_⟩,hmu,?_⟩
    ·rw[<-he,hY];simp only[c4c]
    ·show (P'++(Y2++(Y1++(X'++S')))).length=L.length;rw[<-hQl,<-hQ2];simp only[c37];omega
    ·intro r hr;refine hQ5 r ?_;rw[<-hQ2];simp only[c4b] at hr ⊢
     grind
    ·cbv
def a3K (a b:List UInt8):Int:=if Op.bytesLess a b=true then -1 else if Op.bytesLess b a=true then 1 else 0
theorem a4X (a b:List UInt8):decide (a3K a b<0)=Op.bytesLess a b:=by
 unfold a3K
 split
 ·simp_all
 ·split <;> simp_all
def b0e (fid:Nat):Prop:=∀(n m:ByteArray) (x1 x2 x3 x4 y1 y2 y3 y4:D),l6 fid [.ag [.sc (.string n),x1,x2,x3,x4],.ag [.sc (.string m),y1,y2,y3,y4]] [.one (.sc (.int .i64 (a3K n.toList m.toList)))]
def Ok5 (x:Rw):Prop:=∃n x1 x2 x3 x4,x=[.sc (.string n),x1,x2,x3,x4]
theorem Ok5.len {x:Rw} (h:Ok5 x):x.length=5:=by obtain⟨n,x1,x2,x3,x4,rfl⟩:=h;rfl
theorem b2U (l:List Rw) (x:Rw) {m:List Rw} (hs:P7 A9 m) (ht:Z5 A9 m (d5 A9 l++[x])):m=d5 A9 (l++[x]):=a6C M6 hs (ht.trans (Z5.append (Y3 M6 l) (.refl _)))
theorem b17 (fid:Nat) (hc:b0e fid) (P D S:List Rw) (h5:∀x∈P++(D++S),Ok5 x) (hN:(P++(D++S)).length<=1048576) :
  a0Z 80 [.own 0,vi .i64 P.length,vi .i64 (P.length+D.length:Nat),.cl fid []] [.row false 73 (P++(D++S))] (λres os=>res=[]/\os=[.row false 73 (P++(d5 A9 D++S))]):=by
 obtain⟨za,hza⟩:∃z:Int,z=(P.length:Int):=⟨_,rfl⟩;obtain⟨zb,hzb⟩:∃z:Int,z=((P.length+D.length:Nat):Int):=⟨_,rfl⟩;obtain⟨L,hL⟩:∃L,L=P++(D++S):=⟨_,rfl⟩;obtain⟨M,hM⟩:∃M,M=P++(d5 A9 D++S):=⟨_,rfl⟩;rw[<-hza,<-hzb,<-hM,<-hL];rw[<-hL] at h5 hN;have hLl:L.length=P.length+D.length+S.length:=by rw[hL];simp only[c37];omega
 refine a0w Tryd.func80 rfl (by kernel_rfl) (by kernel_rfl) (by kernel_rfl) rfl rfl (by rintro _ _ ⟨_,rfl⟩;rfl) ?_;intro qa qb qc _ _ _ _ qh _ _ _ _ _ _ _ _ _ _ _ _ _ _ _ qz _ _ ve;intros;rename_i hA K hK;cbv;refine gn ?_;try simp only[nc] at *
 obtain⟨e1,e2,e3,e4,e5,e6,e7,e8,e9⟩:=j3 hA;obtain⟨r1,r2,r3,r4⟩:=m8 hA;obtain⟨m1,m2,m3,m4⟩:=N6 hA;have wi:qa .i64 (qb za 1)=((P.length+1+0:Nat):Int):=by rw[e1,e2,hza,IntWalk.i64_in _ (by omega)];omega
 refine l7 hA (γ:=Int×List Rw) (λx=>[(8,vi .i64 x.1)]) (λx=>[(0,.row false 73 x.2)])
  (λx=>∃k:Nat,x.1=((P.length+1+k:Nat):Int)/\(k=0\/k+1<=D.length)/\x.2=P++(d5 A9 (D.take (k+1))++(D.drop (k+1)++S))/\x.2.length=L.length/\∀r∈x.2,r∈L) (λx=>L.length+1 - x.1.toNat) (qa .i64 (qb za 1),L) ?_ ?_ ?_
 ·refine⟨0,wi,.inl rfl,?_,rfl,λr h=>h⟩
  have:d5 A9 (D.take 1)=D.take 1:=by
   cases D with
   | nil=>rfl
   | cons d D=>rfl
  show L=_;rw[this,hL,<-c4c (D.take 1),c4D]
 ·cbv
 ·intro x hinv;obtain⟨z,Q⟩:=x;cbv;refine gn ?_;try simp only[nc] at *
  obtain⟨k,hz,hk,hQ,hQl,hQm⟩:=hinv;have hlt:qh z zb=decide (k+1<D.length):=by rw[e7,hz,hzb];exact c3M.2 (by omega)
  by_cases h9:k+1<D.length
  ·rw[c3K h9] at hlt;obtain⟨x,hx⟩:∃x,D[k+1]?=some x:=⟨_,c39 h9⟩;obtain⟨hxi,hxe⟩:=c35.1 hx;obtain⟨D1,hD1⟩:∃D1,D1=D.take (k+1):=⟨_,rfl⟩;obtain⟨D2,hD2⟩:∃D2,D2=D.drop (k+1+1):=⟨_,rfl⟩;have hdrop:D.drop (k+1)=x::D2:=by rw[hD2,c3U hxi,hxe]
   have htake:D.take (k+1+1)=D1++[x]:=by rw[hD1];exact a3e hx
   rw[<-hD1,hdrop] at hQ;obtain⟨E,hE⟩:∃E,E=d5 A9 D1:=⟨_,rfl⟩;rw[<-hE] at hQ;have hEl:E.length=k+1:=by rw[hE,K8,hD1,c3Z];omega
   have hEs:P7 A9 E:=by rw[hE];exact M4 M6 D1
   have hxm:x∈L:=hQm x (by rw[hQ];simp);obtain⟨nx,x1,x2,x3,x4,hxx⟩:=h5 x hxm;rw[hlt];cbv;refine gn ?_;try simp only[nc] at *
   refine l7 hA (γ:=Int×List Rw) (λx=>[(9,vi .i64 x.1)]) (λx=>[(0,.row false 73 x.2)])
    (λy=>∃L1 L2:List Rw,y.1=((P.length+L1.length:Nat):Int)/\E=L1++L2/\(∀r∈L2,A9 x r=true)/\y.2=P++(L1++(x::(L2++(D2++S))))/\y.2.length=L.length/\∀r∈y.2,r∈L) (λy=>y.1.toNat) (z,Q) ?_ ?_ ?_
   ·exact⟨E,[],by rw[hEl];show z=_;rw[hz];congr 1;omega,by simp,by simp,by rw[hQ];simp,hQl,hQm⟩
   ·cbv
   ·intro y hinv;obtain⟨zj,N⟩:=y;cbv;refine gn ?_;try simp only[nc] at *
    obtain⟨L1,L2,hj,hEE,hL2,hNN,hNl,hNm⟩:=hinv;have hLAST:=λ(h1:∀y∈L1,A9 x y=false)=>a3U M6 (x:=x) (u1:=L1) (u2:=L2) (by rw[<-hEE];exact hEs) h1 hL2
    have hNl2:N.length=P.length+L1.length+1+L2.length+D2.length+S.length:=by rw[hNN];simp only[c37,c3C];omega
    have hz1:qa .i64 (qb z 1)=((P.length+1+(k+1):Nat):Int):=by rw[e1,e2,hz,IntWalk.i64_in _ (by omega)];omega
    have hmz:L.length+1 - (qa .i64 (qb z 1)).toNat<L.length+1 - z.toNat:=by rw[hz1,hz];omega
    have hdone:(∀y∈L1,A9 x y=false)->N=P++(d5 A9 (D.take (k+1+1))++(D.drop (k+1+1)++S)):=λh=>by
     obtain⟨h1,h2⟩:=hLAST h;have h3:L1++x::L2=d5 A9 (D1++[x]):=b2U D1 x h1 (by rw[<-hE,hEE];exact h2);rw[htake,<-hD2,<-h3,hNN]
     simp
    rcases (show L1=[]\/∃L y,L1=L++[y] by simpa [c5K] using List.eq_nil_or_concat L1) with hnil|⟨L0,y,hsn⟩
    ·have hlt2:qh za zj=false:=by rw[e7,hza,hj,hnil];simp
     rw[hlt2];cbv;refine gn ?_;try simp only[nc] at *
     refine⟨(qa .i64 (qb z 1),N),⟨k+1,hz1,.inr h9,hdone (by rw[hnil];simp),hNl,hNm⟩,hmz,?_⟩;cbv
    ·have hl1:L1.length=L0.length+1:=by rw[hsn];simp
     have hlt2:qh za zj=true:=by rw[e7,hza,hj];exact c3K (by omega)
     have hym:y∈L:=hNm y (by rw[hNN,hsn];simp);obtain⟨ny,y1,y2,y3,y4,hyy⟩:=h5 y hym;have wj:qa .i64 (qc zj 1)=((P.length+L0.length:Nat):Int):=by rw[e1,e3,hj,IntWalk.i64_in _ (by omega)];omega
     have hNP:N=(P++L0)++y::x::(L2++(D2++S)):=by rw[hNN,hsn];simp
     have hpl:(P++L0).length=P.length+L0.length:=c37
     have gx:qz N zj=some [.sc (.string nx),x1,x2,x3,x4]:=by
      rw[r2,c3E (by omega),hj,c3W,hNP,c3Q (by omega),hpl,show P.length+L1.length - (P.length+L0.length)=1 by omega,<-hxx];rfl
     have gy:qz N (qa .i64 (qc zj 1))=some [.sc (.string ny),y1,y2,y3,y4]:=by
      rw[wj,r2,c3E (by omega),c3W,hNP,c3Q (by omega),hpl,c5g,<-hyy];rfl
     have gy2:∀v,qz (ve N zj v) (qa .i64 (qc zj 1))=some [.sc (.string ny),y1,y2,y3,y4]:=λv=>by
      rw[<-gy,r2,r2,m4,wj,hj,c3W,c3W,c3O (by omega)]
     have hcmp:=hc nx ny x1 x2 x3 x4 y1 y2 y3 y4;have hneg:qh (a3K nx.toList ny.toList) 0=A9 x y:=by rw[e7,a4X,hxx,hyy];rfl
     generalize a3K nx.toList ny.toList=cv at *;rw[hlt2];cbv;refine gn ?_;try simp only[nc] at *
     repeat (first|(rw[gx];cbv)|(rw[gy];cbv)|(with_reducible apply b6 hA;cbv))
     refine c7 hA _ hcmp ?_;cbv;cases hb:A9 x y
     ·rw[hb] at hneg;rw[hneg];cbv;refine gn ?_;try simp only[nc] at *
      refine⟨(qa .i64 (qb z 1),N),⟨k+1,hz1,.inr h9,hdone ?_,hNl,hNm⟩,hmz,?_⟩
      ·rw[hsn];exact c10 (by rw[<-hsn];exact(C6.1 (by rw[<-hEE];exact hEs)).1) hb
      ·cbv
     ·rw[hb] at hneg;rw[hneg];cbv;refine gn ?_;try simp only[nc] at *
      repeat (first|(rw[gx];cbv)|(rw[gy];cbv)|(rw[gy2];cbv)|(with_reducible apply b6 hA;cbv))
      try simp only[nc] at *
      refine⟨(qa .i64 (qc zj 1),ve (ve N zj [.sc (.string ny),y1,y2,y3,y4]) (qa .i64 (qc zj 1)) [.sc (.string nx),x1,x2,x3,x4]),⟨L0,y::L2,wj,by rw[hEE,hsn];simp,?_,?_,?_,?_⟩,?_,?_⟩
      ·intro r hr
       rcases c3F.1 hr with rfl|hr
       ·exact hb
       ·exact hL2 r hr
      ·show ve (ve N zj _) _ _=_;rw[m4,m4,wj,hj,c3W,c3W,hNP,<-hxx,<-hyy,show P.length+L1.length=P.length+L0.length+1 by omega,b14 _ _ _ _ hpl]
       simp
      ·show (ve (ve N zj _) _ _).length=_;rw[m4,m4,c3N,c3N];exact hNl
      ·intro r hr;have hr:r∈ve (ve N zj [.sc (.string ny),y1,y2,y3,y4]) (qa .i64 (qc zj 1)) [.sc (.string nx),x1,x2,x3,x4]:=hr;rw[m4,m4,<-hxx,<-hyy] at hr
       rcases c46 hr with hr|rfl
       ·rcases c46 hr with hr|rfl
        ·exact hNm r hr
        ·exact hym
       ·exact hxm
      ·show (qa .i64 (qc zj 1)).toNat<zj.toNat;rw[wj,hj];omega
      ·cbv
  ·rw[c3I h9] at hlt;rw[hlt];cbv;refine gn ?_;try simp only[nc] at *
   have e:Q=M:=by rw[hQ,hM,c4i (by omega),c4m (by omega)];rfl
   rw[e];exact hK [] [.row false 73 M] ⟨rfl,rfl⟩
end Go.Proofs.YtlofmibkljoapaaDoor.Vm
end

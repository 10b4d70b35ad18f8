/- Part 8 of the proof. Conditions: none. -/
import Derived.Test.YtncijebklnbhlaaGreatDoorQ1
import Derived.Test.YtncijebklnbhlaaGreatDoorQ4
import Derived.Shelf.Strings.Builder1
import Derived.Shelf.Strings.Builder2
import Derived.Shelf.Strings.OnBuilder
import Derived.Shelf.Small.Strs
import Derived.Shelf.Small.Wraps
import Derived.Shelf.Strconv.Itoa0
import Derived.Shelf.Strconv.Itoa1
import Derived.Shelf.LaysM
import Derived.Shelf.Strconv.Itoa2
import Derived.Shelf.Strconv.Itoa3
import Derived.Shelf.Strconv.Itoa4
import Derived.Test.YtncijebklnbhlaaGreatDoorProg
import Derived.Lib.Builder
import Derived.Laws.Externs
import Derived.Lib.Walk
import Derived.Lib.AppendStr
import Derived.Lib.Hide
import Derived.Lib.UnsafeStr
import Derived.IntWalk
import Derived.Lib.ItoaNum
import Derived.Lib.ItoaLen
set_option linter.all false
set_option linter.unusedVariables false
set_option linter.unusedSimpArgs false
section
namespace Go.Proofs.YtncijebklnbhlaaGreatDoor.Vm
open Go.RowKit
set_option maxRecDepth 100000
set_option maxHeartbeats 4000000
section
theorem b9h (os:List O) (d:D):toD os .jk≠some d:=λh=>by rw[toD] at h <;> first|cases h|simp
theorem E2.read (s:S) (i:Nat) (d:D) (hi:toD s.o (o6 s.t i)=some d):E2 s ⟨I4 s.t i (.d d),s.o⟩:=by
 rintro I0 X w0 a w ⟨I,g,h⟩
 have hj:o6 s.t i≠.jk:=λe=>b9h _ _ (e ▸ hi)
 exact⟨I,g,h.reread λv hv=>.d (a8s h (h.tmp.2 i v _ hv (U6 rfl hj)) hi)⟩
theorem E2.nil (s:S) (i z:Nat) (L:List (List D)) (hL:L=[]) (hi:o6 s.t i=.em):E2 s ⟨I4 s.t i (.d (.sl z L)),s.o⟩:=by
 subst hL
 rintro I0 X w0 a w ⟨I,g,h⟩
 refine⟨I,g,h.reread λv hv=>?_⟩;have h4:=h.tmp.2 i v _ hv (U6 hi (by simp));rw[h4.unem];exact .d (.nil _ _ _)
section
variable {qa:_} {qb:_} {qc:_} {qd:_} {qe:_} {qf:_} {qg:_} {qh:_} {qi:_} {qj:_} {qk:_} {ql:_} {qm:_} {qo:_} {qp:_} {qq:_} {qt:_} {qu:_} {qv:_} {qw:_} {qx:_} {qy:_} {qz:_} {va:_} {vc:_} {vd:_} {ve:_} {vf:_} {vg:_} {vh:_} {vj:_} {vk:_} {vl:_} {vm:_} {vn:_} {vo:_} {vp:_} {vq:_} {vr:_} {vt:_} {vu:_} {vv:_} {vw:_} (hA:Ar.mk qa qb qc qd qe qf qg qh qi qj qk ql qm qo qp qq qt qu qv qw qx qy qz va vc vd ve vf vg vh vj vk vl vm vn vo vp vq vr vt vu vv vw=j1)
include hA
theorem b5o {N:S->Prop} {s:S} (i z:Nat) (L:List (List D)) (hL:L=[]) (hi:o6 s.t i=.em) (h:N ⟨I4 s.t i (.d (.sl z L)),s.o⟩):vt N s:=T6 hA _ (E2.nil s i z L hL hi) h
theorem a3N {N:S->Prop} {s:S} (i k:Nat) (d:D) (hk:o6 s.t i=.own k) (hi:toD s.o (.own k)=some d) (h:N ⟨I4 s.t i (.d d),s.o⟩):vt N s:=T6 hA _ (E2.read s i d (hk ▸ hi)) h
end
end
section
section
variable {I0:Nat->Nat->Prop} {X:Nat->Prop} {w0:W0} {I:Nat->Nat->Prop} {g:Nat->Value} {s:S} {a:Act} {w:World}
theorem RelI.move (h:RelI I0 X w0 I g s a w) {j k:Nat} {z z':Bool} {e e':Nat} {R R':List (List D)} (hj:s.o[j]?=some (.row z e R)) (hk:s.o[k]?=some (.row z' e' R')) (hjk:j≠k) :
  RelI I0 X w0 I (upd g j (g k)) ⟨E5 j s.t,((A6 j s.o).set k .dead).set j (.row z' e' R')⟩ a w:=by
 have hlt:=(List.getElem?_eq_some_iff.1 hj).1;have hltk:=(List.getElem?_eq_some_iff.1 hk).1;obtain⟨usj,hown,_⟩:=h.obj j _ hj;have hnp:Q0 (g j)=true->upd g j (g k) j=g j:=λhr=>by rcases hown.2 with⟨e1,_⟩|⟨_,_,_,e1,_⟩ <;> rw[e1] at hr <;> cases hr
 have hg':∀i,i≠j->upd g j (g k) i=g i:=λi hi=>A2 hi
 have hlk:J1 s k:=⟨_,hk,by simp⟩
 have hget:∀i o,(((A6 j s.o).set k .dead).set j (.row z' e' R'))[i]?=some o->o≠.dead->(i=j/\o=.row z' e' R')\/(i≠j/\i≠k/\(A6 j s.o)[i]?=some o):=λi o ho hd=>by
  by_cases hij:j=i
  ·subst hij;rw[List.getElem?_set_self (by rw[List.length_set,G8];exact hlt)] at ho;injection ho with ho;exact .inl ⟨rfl,ho.symm⟩
  ·rw[List.getElem?_set_ne hij] at ho
   by_cases hik:k=i
   ·subst hik;rw[List.getElem?_set_self (by rw[G8];exact hltk)] at ho;injection ho with ho;exact absurd ho.symm hd
   ·rw[List.getElem?_set_ne hik] at ho;exact .inr ⟨Ne.symm hij,Ne.symm hik,ho⟩
 refine⟨h.im,h.lt,h.fr,h.kp,by simp only[List.length_set,G8];exact h.lo,λi hi hr=>?_,λi o ho=>?_,λi i' b hi hi' hb hb'=>?_,λi hi=>?_,a1N hg' hnp h.tmp,h.dfr⟩
 ·have e:=h.st i hi hr;refine(hg' i λej=>?_).trans e;subst ej;rw[<-e] at hr
  rcases hown.2 with⟨e1,_⟩|⟨_,_,_,e1,_⟩ <;> rw[e1] at hr <;> cases hr
 ·by_cases hd:o=.dead
  ·subst hd;exact True.intro
  rcases hget i o ho hd with⟨rfl,rfl⟩|⟨hij,hik,ho⟩
  ·obtain⟨us,h1,h2,h3,h4⟩:=h.obj k _ hk;exact⟨us,by rw[n7];exact h1,h2,h3,by rw[n7];exact h4⟩
  ·obtain⟨o',ho',hdd,hsh⟩:=Q5 j s.o i o ho;have hob:=h.obj i o' ho'
   rcases hsh with⟨cs,rfl,rfl⟩|⟨ks,rfl,rfl⟩|⟨rfl,hnb,hnf⟩
   ·obtain⟨b,us,t,h1,h2,h3,h4⟩:=hob;exact⟨b,us,t,by rw[A2 hij];exact h1,h2,a0Q hg' hnp h3,h4⟩
   ·obtain⟨us,h1,h2,h3⟩:=hob;refine⟨us,by rw[A2 hij];exact h1,h2,λi2 u hu=>?_⟩
    by_cases e:i2=j
    ·exact .inr (.inr (by rw[e];exact List.mem_cons_self ..))
    ·rcases h3 i2 u hu with h4|h4|h4
     ·exact .inl h4
     ·exact .inr (.inl (by rw[A2 e];exact h4))
     ·exact .inr (.inr (List.mem_cons_of_mem _ h4))
   ·cases o with
    | dead=>exact True.intro
    | box cs=>exact absurd rfl (hnb cs)
    | kl ks=>exact absurd rfl (hnf ks)
    | mp kt es =>
     obtain⟨b,l,c,h1,h2⟩:=hob;exact⟨b,l,c,by rw[A2 hij];exact h1,h2⟩
    | ob T vs =>
     obtain⟨b,h1,h2⟩:=hob;exact⟨b,by rw[A2 hij];exact h1,h2⟩
    | it P =>
     obtain⟨A,n,cap,F,h1,h2⟩:=hob;exact⟨A,n,cap,F,by rw[A2 hij];exact h1,h2⟩
    | row z2 e2 rows =>
     obtain⟨us,h1,h2,h3,h4⟩:=hob;exact⟨us,by rw[A2 hij];exact h1,h2,h3,by rw[A2 hij];exact h4⟩
 ·have a0t:∀i,J1 ⟨E5 j s.t,((A6 j s.o).set k .dead).set j (.row z' e' R')⟩ i->∃i2,J1 s i2/\upd g j (g k) i=g i2/\((i=j/\i2=k)\/(i≠j/\i2=i/\i≠k)):=λi hl=>by
   obtain⟨o,ho,hd⟩:=hl
   rcases hget i o ho hd with⟨rfl,rfl⟩|⟨hij,hik,ho⟩
   ·exact⟨k,hlk,n7 ..,.inl ⟨rfl,rfl⟩⟩
   ·obtain⟨o',ho',hdd,_⟩:=Q5 j s.o i o ho;exact⟨i,⟨o',ho',hdd hd⟩,A2 hij,.inr ⟨hij,rfl,hik⟩⟩
  obtain⟨i2,l2,e2,c2⟩:=a0t i hi;obtain⟨i3,l3,e3,c3⟩:=a0t i' hi';rw[e2] at hb;rw[e3] at hb';have:=h.dis i2 i3 b l2 l3 hb hb';omega
 ·simp only[List.length_set,G8] at hi;rw[A2 (by omega)];exact h.out i hi
end
theorem E2.move (s:S) (i j k:Nat) (hjk:K7 j k=false) {z z':Bool} {e e':Nat} {R R':List (List D)} (hi:o6 s.t i=.own k) (hj:y5 s.o j=.row z e R) (hk:y5 s.o k=.row z' e' R') :
  E2 s ⟨I4 (E5 j s.t) i (.own j),J8 (J8 (A6 j s.o) k .dead) j (.row z' e' R')⟩:=by
 rintro I0 X w0 a w ⟨I,g,h⟩
 have hne:j≠k:=a1l.1 hjk;have h2:=h.move (A5 hj (by simp)) (A5 hk (by simp)) hne;refine⟨I,upd g j (g k),?_⟩;rw[H5,H5];refine RelI.reread (s:=⟨E5 j s.t,((A6 j s.o).set k .dead).set j (.row z' e' R')⟩) h2 λv hv=>?_
 have h4:=h.tmp.2 i v _ hv (U6 hi (by simp));cases h4 with
 | own _ A n cap hg=>exact .own _ _ _ _ (by rw[n7];exact hg)
theorem a1o.of {n:Nat} {s s1 s2:S} (h:E2 s s1) (hw:weak s1 s2) (hl:n<=o7 s2.o):a1o n s s2:=λI0 X w0 a w hn hr=>(h _ _ _ _ _ hr).weak (Nat.le_trans hn (by rw[<-r6];exact hl)) (.inr hw)
def b25 (c:Code) (s:S) (l:List (Nat×V)) (m:List (Nat×O)) (x:List O):S:=⟨a9J l (b1h (wr c []) s.t),b3i (a7I m s.o) x⟩
section
variable {qa:_} {qb:_} {qc:_} {qd:_} {qe:_} {qf:_} {qg:_} {qh:_} {qi:_} {qj:_} {qk:_} {ql:_} {qm:_} {qo:_} {qp:_} {qq:_} {qt:_} {qu:_} {qv:_} {qw:_} {qx:_} {qy:_} {qz:_} {va:_} {vc:_} {vd:_} {ve:_} {vf:_} {vg:_} {vh:_} {vj:_} {vk:_} {vl:_} {vm:_} {vn:_} {vo:_} {vp:_} {vq:_} {vr:_} {vt:_} {vu:_} {vv:_} {vw:_} (hA:Ar.mk qa qb qc qd qe qf qg qh qi qj qk ql qm qo qp qq qt qu qv qw qx qy qz va vc vd ve vf vg vh vj vk vl vm vn vo vp vq vr vt vu vv vw=j1)
include hA
theorem b5p {c:Code} {body:S->(X->S->Prop)->Prop} {s:S} {K:X->S->Prop} {γ:Type} (slots:γ->List (Nat×V)) (objs:γ->List (Nat×O)) (xs:γ->List O) (inv:γ->Prop) (μ:γ->Nat) (x0:γ) (h0:inv x0) (hw:a1o (o7 s.o) s (b25 c s (slots x0) (objs x0) (xs x0)))
  (hr:∀x,inv x->body (b25 c s (slots x) (objs x) (xs x)) (λe s'=>a8i (λs2=>∃y,inv y/\μ y<μ x/\a1o (o7 s.o) s2 (b25 c s (slots y) (objs y) (xs y))) K e s')):vw c body s K:=by
 have e:vw=j1.loop:=congrArg Ar.loop hA;rw[e]
 exact .inr (.inr ⟨γ,λx=>b25 c s (slots x) (objs x) (xs x),inv,μ,λx _=>by
  show o7 s.o<=o7 (b3i (a7I (objs x) s.o) (xs x));rw[r6,r6,a3w,List.length_append,a42]
  exact Nat.le_add_right _ _,⟨x0,hw,h0⟩,hr⟩)
end
end
section
section
variable {I0:Nat->Nat->Prop} {X:Nat->Prop} {w0:W0} {I:Nat->Nat->Prop} {g:Nat->Value} {s:S} {a:Act} {w:World}
theorem n6.reset {us:List Value} {cs:List V} {i:Nat} {x:V} (h:n6 I w g us cs) (hx:∀v,us[i]?=some v->AtV I w g v x):n6 I w g us (cs.set i x):=by
 refine⟨by rw[List.length_set];exact h.1,λj v y hv hy=>?_⟩
 by_cases hji:i=j
 ·subst hji;have hlt:i<cs.length:=by have:=(List.getElem?_eq_some_iff.1 hy).1;rw[List.length_set] at this;exact this
  rw[List.getElem?_set_self hlt] at hy;cases hy;exact hx v hv
 ·rw[List.getElem?_set_ne hji] at hy;exact h.2 j v y hv hy
theorem RelI.rebox (h:RelI I0 X w0 I g s a w) {k:Nat} {cs ds:List V} (hk:s.o[k]?=some (.box cs)) (hd:∀us,n6 I w g us cs->n6 I w g us ds):RelI I0 X w0 I g ⟨s.t,s.o.set k (.box ds)⟩ a w:=by
 have hlt:=(List.getElem?_eq_some_iff.1 hk).1
 have a0t:∀i,J1 ⟨s.t,s.o.set k (.box ds)⟩ i->J1 s i:=λi hl=>by
  obtain⟨o,ho,hdd⟩:=hl
  by_cases hik:k=i
  ·subst hik;exact⟨_,hk,by simp⟩
  ·simp only[List.getElem?_set_ne hik] at ho;exact⟨o,ho,hdd⟩
 refine⟨h.im,h.lt,h.fr,h.kp,by simp only[List.length_set];exact h.lo,h.st,λi o ho=>?_,λi j b hi hj=>h.dis i j b (a0t i hi) (a0t j hj),λi hi=>h.out i (by simpa using hi),h.tmp,h.dfr⟩
 by_cases hik:k=i
 ·subst hik;simp only[List.getElem?_set_self hlt] at ho;cases ho;obtain⟨b,us,t,h1,h2,h3,h4⟩:=h.obj k _ hk;exact⟨b,us,t,h1,h2,hd us h3,h4⟩
 ·simp only[List.getElem?_set_ne hik] at ho;exact h.obj i o ho
end
theorem E2.ownBox (s:S) (k i e:Nat) (z:Bool) {cs:List V} (hk:y5 s.o k=.box cs) (hi:o6 cs i=.em):E2 s ⟨s.t,J8 (y8 s.o (.row z e [])) k (.box (I4 cs i (.own (o7 s.o))))⟩:=by
 rintro I0 X w0 a w ⟨I,g,h⟩
 have hk2:=A5 hk (by simp);have hlt:=(List.getElem?_eq_some_iff.1 hk2).1;have h2:=h.newObj (.row z e []) (.slice none 0 0) ⟨[],by rw[n7];exact World.ownsRow_nil w 0 e _,by simp,A8.nil I w,λb hb=>by rw[n7] at hb;cases hb⟩ (λj b _ _ hb=>by cases hb);have h3:RelI I0 X w0 I (upd g s.o.length (.slice none 0 0)) ⟨s.t,y8 s.o (.row z e [])⟩ a w:=h2;refine⟨I,upd g s.o.length (.slice none 0 0),?_⟩;rw[H5,a07];refine h3.rebox (cs:=cs) (by show (y8 s.o _)[k]?=_;rw[Z4,List.getElem?_append_left hlt];exact hk2) λus hus=>hus.reset λv hv=>?_
 have hs:=U6 hi (by simp);have h4:=hus.2 i v _ hv hs;rw[h4.unem];exact .own _ _ _ _ (by rw[r6,n7];rfl)
section
variable {qa:_} {qb:_} {qc:_} {qd:_} {qe:_} {qf:_} {qg:_} {qh:_} {qi:_} {qj:_} {qk:_} {ql:_} {qm:_} {qo:_} {qp:_} {qq:_} {qt:_} {qu:_} {qv:_} {qw:_} {qx:_} {qy:_} {qz:_} {va:_} {vc:_} {vd:_} {ve:_} {vf:_} {vg:_} {vh:_} {vj:_} {vk:_} {vl:_} {vm:_} {vn:_} {vo:_} {vp:_} {vq:_} {vr:_} {vt:_} {vu:_} {vv:_} {vw:_} (hA:Ar.mk qa qb qc qd qe qf qg qh qi qj qk ql qm qo qp qq qt qu qv qw qx qy qz va vc vd ve vf vg vh vj vk vl vm vn vo vp vq vr vt vu vv vw=j1)
include hA
theorem a7K {N:S->Prop} {s:S} (k i e:Nat) (z:Bool) {cs:List V} (hk:y5 s.o k=.box cs) (hi:o6 cs i=.em) (h:N ⟨s.t,J8 (y8 s.o (.row z e [])) k (.box (I4 cs i (.own (o7 s.o))))⟩):vt N s:=T6 hA _ (E2.ownBox s k i e z hk hi) h
end
end
section
theorem a1a {f:Nat} {vs vs':List V} {os':List O} {o:List O} {ks:List Nat} {r:List V} (h:K3 f vs' os' (λres o2=>res=r/\o2=os')) (hs:SubOk ks vs' os' vs ⟨[],o⟩) (hb:E1 ks (N2 ks (o7 o) os') o=o):a5G f vs o (a0u (upT ks (o7 o) r)):=by
 have h1:=a1R h hs;refine⟨h1.1,λI0 X w0 I g t a w us hrel hv=>(h1.2 I0 X w0 I g t a w us hrel hv).mono ?_⟩
 rintro e w' ⟨v,x,o',ks',I',g',rfl,h2,h3,rfl,res,os2,⟨rfl,rfl⟩,rfl,rfl⟩
 rw[hb] at h2;exact⟨_,I',g',rfl,h2,h3⟩
section
variable {qa:_} {qb:_} {qc:_} {qd:_} {qe:_} {qf:_} {qg:_} {qh:_} {qi:_} {qj:_} {qk:_} {ql:_} {qm:_} {qo:_} {qp:_} {qq:_} {qt:_} {qu:_} {qv:_} {qw:_} {qx:_} {qy:_} {qz:_} {va:_} {vc:_} {vd:_} {ve:_} {vf:_} {vg:_} {vh:_} {vj:_} {vk:_} {vl:_} {vm:_} {vn:_} {vo:_} {vp:_} {vq:_} {vr:_} {vt:_} {vu:_} {vv:_} {vw:_} (hA:Ar.mk qa qb qc qd qe qf qg qh qi qj qk ql qm qo qp qq qt qu qv qw qx qy qz va vc vd ve vf vg vh vj vk vl vm vn vo vp vq vr vt vu vv vw=j1)
include hA
theorem c08 {f:Nat} {vs:List V} {s:S} {K:V->S->Prop} (ks:List Nat) {vs':List V} {os':List O} {Q:List V->Prop} (h:K3 f vs' os' (λres o2=>Q res/\o2=os')) (hs:SubOk ks vs' os' vs s) (hb:E1 ks (N2 ks (o7 s.o) os') s.o=s.o) (hK:∀res,Q res->K (a0u (upT ks (o7 s.o) res)) s):vn f vs s K :=
 E7 hA ks h hs λres os2 ⟨hq,e⟩=>by subst e;rw[hb];exact hK res hq
theorem b9i {f:Nat} {vs:List V} {o:List O} {K:V->Prop} (ks:List Nat) {vs':List V} {os':List O} {r:List V} (h:K3 f vs' os' (λres o2=>res=r/\o2=os')) (hs:SubOk ks vs' os' vs ⟨[],o⟩) (hb:E1 ks (N2 ks (o7 o) os') o=o) (hK:K (a0u (upT ks (o7 o) r))):vm f vs o K:=by
 have e:vm=j1.calld:=congrArg Ar.calld hA;rw[e];exact⟨_,a1a h hs hb,hK⟩
end
end
def dd:List Nat->List Nat
 | []=>[]
 | x::l=>match l.any (Nat.beq x) with|true=>dd l|false=>x::dd l
theorem b1m (x:Nat):∀l:List Nat,x∈dd l↔x∈l
 | []=>Iff.rfl
 | y::l=>by
  rw[dd];cases h:l.any (Nat.beq y) with
  | true =>
   simp only[b1m x l,List.mem_cons];refine⟨.inr,λh2=>h2.elim (λe=>?_) id⟩;obtain⟨z,hz,he⟩:=List.any_eq_true.1 h;rw[Nat.beq_eq] at he;rw[e,he];exact hz
  | false=>simp only[List.mem_cons,b1m x l]
def b26:List Oper->List (List Nat)->List (List Nat)
 | [],acc=>acc
 | o::l,acc=>b26 l (acc++[dd ((a1s o).flatMap λj=>j::acc.getD j [])])
def a9Q (a b:List (List Nat)):Prop:=a.length=b.length/\∀i j,j∈a.getD i []↔j∈b.getD i []
theorem a9Q.snoc {a b:List (List Nat)} (h:a9Q a b) {x y:List Nat} (hx:∀j,j∈x↔j∈y):a9Q (a++[x]) (b++[y]):=by
 refine⟨by simp[h.1],λi j=>?_⟩
 rcases Nat.lt_trichotomy i a.length with hi|hi|hi
 ·have e1:(a++[x]).getD i []=a.getD i []:=by rw[List.getD_eq_getElem?_getD,List.getElem?_append_left hi,List.getD_eq_getElem?_getD]
  have e2:(b++[y]).getD i []=b.getD i []:=by rw[List.getD_eq_getElem?_getD,List.getElem?_append_left (by rw[<-h.1];exact hi),List.getD_eq_getElem?_getD]
  rw[e1,e2];exact h.2 i j
 ·have e1:(a++[x]).getD i []=x:=by rw[List.getD_eq_getElem?_getD,hi];simp
  have e2:(b++[y]).getD i []=y:=by rw[List.getD_eq_getElem?_getD,hi,h.1];simp
  rw[e1,e2];exact hx j
 ·have e1:(a++[x]).getD i []=[]:=by rw[List.getD_eq_getElem?_getD,List.getElem?_eq_none (by simp;omega)];rfl
  have e2:(b++[y]).getD i []=[]:=by rw[List.getD_eq_getElem?_getD,List.getElem?_eq_none (by simp;have:=h.1;omega)];rfl
  rw[e1,e2]
theorem a7L:∀(l:List Oper) (a b:List (List Nat)),a9Q a b->a9Q (G6 l a) (b26 l b)
 | [],a,b,h=>h
 | o::l,a,b,h=>by
  rw[G6,b26];refine a7L l _ _ (h.snoc λj=>?_);rw[b1m,List.mem_flatMap,List.mem_flatMap];refine exists_congr λk=>and_congr_right λ_=>?_
  rw[List.mem_cons,List.mem_cons,h.2 k j]
def b27 (ops:Array Oper):Bool :=
 let l:=ops.toList
 let an:=b26 l []
 let d:=n5 l
 l.all (b2m (M5 l)) && (List.range l.length).all λi=>(an.getD i []).all (λj=>Nat.blt j i) && (List.range i).all λj=>a6o d (M5 l) l an j i
theorem b1n {ops:Array Oper} (h:b27 ops=true):a6p ops=true:=by
 have hs:=a7L ops.toList [] [] ⟨rfl,λ_ _=>Iff.rfl⟩;have h0:=Bool.and_eq_true_iff.1 h;refine Bool.and_eq_true_iff.2 ⟨h0.1,List.all_eq_true.2 λi hi=>?_⟩;have h1:=List.all_eq_true.1 h0.2 i hi;rw[Bool.and_eq_true] at h1 ⊢;refine⟨List.all_eq_true.2 λj hj=>List.all_eq_true.1 h1.1 j ((hs.2 i j).1 hj),List.all_eq_true.2 λj hj=>?_⟩;have h2:=List.all_eq_true.1 h1.2 j hj;unfold a6o at h2 ⊢;rw[Bool.or_eq_true] at h2 ⊢;refine h2.imp (λh3=>?_) id;rw[List.contains_iff_mem] at h3 ⊢;exact(hs.2 i j).2 h3
def Y9 (P:Program):Code->Bool
 | .region _ ops d=>b2n P ops.toList && (!d || (b27 ops || b4L ops.toList))
 | .seq c d=>Y9 P c && Y9 P d
 | .cond _ c d=>Y9 P c && Y9 P d
 | .block _ c=>Y9 P c
 | .loop c=>Y9 P c
 | _=>true
theorem P7 {P:Program}:∀ {c:Code},Y9 P c=true->y6 P c=true
 | .region _ ops d,h=>by
  simp only[y6,Y9,Bool.and_eq_true,Bool.or_eq_true] at h ⊢;exact⟨h.1,h.2.imp id λh2=>h2.imp b1n id⟩
 | .seq c d,h=>by
  simp only[y6,Y9,Bool.and_eq_true] at h ⊢;exact⟨P7 h.1,P7 h.2⟩
 | .cond _ c d,h=>by
  simp only[y6,Y9,Bool.and_eq_true] at h ⊢;exact⟨P7 h.1,P7 h.2⟩
 | .block _ c,h=>P7 (c:=c) h
 | .loop c,h=>P7 (c:=c) h
 | .skip,_=>rfl
 | .exit _,_=>rfl
 | .ret,_=>rfl
 | .rangeFunc _ _ _ _,_=>rfl
 | .scope _,_=>rfl
 | .label _,_=>rfl
 | .goto _,_=>rfl
 | .refuse _,_=>rfl
section
def a0k (i:Nat):List Nat->List Nat
 | []=>[]
 | x::l=>match K7 x i with|true=>a0k i l|false=>x::a0k i l
def a9R:List (List Nat)->Nat->List Nat
 | [],_=>[]
 | x::_,0=>x
 | _::l,n+1=>a9R l n
def b34:List Oper->Nat->Option Oper
 | [],_=>none
 | x::_,0=>some x
 | _::l,n+1=>b34 l n
def a6z:List Nat->List Nat->Bool
 | [],_=>true
 | j::m,l=>match a5e j l with|true=>false|false=>a6z m l
def a7i (an:List (List Nat)) (l:List Nat) (i:Nat):Bool:=a6z (a9R an i) l
def a1b (an:List (List Nat)) (l:List Nat):List Nat->Option Nat
 | []=>none
 | i::fr=>match a5e i l with
  | true=>match a7i an l i with|true=>some i|false=>a1b an l fr
  | false=>a1b an l fr
def b35 (an:List (List Nat)) (l:List Nat):List Nat->List Nat
 | []=>[]
 | i::m=>match a7i an l i with|true=>i::b35 an l m|false=>b35 an l m
def b9j (f:Nat->Prop):List Nat->Prop
 | []=>True
 | [i]=>f i
 | i::j::l=>f i/\b9j f (j::l)
theorem b28 {f:Nat->Prop}:∀ {l:List Nat},b9j f l->∀i∈l,f i
 | [],_,i,h=>by simp at h
 | [x],h,i,hi=>by simp at hi;subst hi;exact h
 | x::y::l,h,i,hi=>by
  rcases List.mem_cons.1 hi with rfl|hi
  ·exact h.1
  ·exact b28 h.2 i hi
def b9k:Op->Bool
 | .move _=>true
 | .load _ _=>true
 | .fieldAddr _ _ _=>true
 | .field _ _ _=>true
 | .indexAddr _ _ _=>true
 | .extract _ _=>true
 | _=>false
def a9S:Oper->Bool
 | ⟨_,op,_,_,_,none⟩=>b9k op
 | _=>false
theorem a9T:∀(l:List (List Nat)) (i:Nat),a9R l i=l.getD i []
 | [],i=>by simp[a9R]
 | x::l,0=>rfl
 | x::l,i+1=>by rw[a9R,a9T l i];simp
theorem a8L:∀(l:List Oper) (i:Nat),b34 l i=l[i]?
 | [],i=>by simp[b34]
 | x::l,0=>rfl
 | x::l,i+1=>by rw[b34,a8L l i];simp
theorem a0a {i j:Nat}:∀ {l:List Nat},j∈a0k i l↔j∈l/\j≠i
 | []=>by simp[a0k]
 | x::l=>by
  rw[a0k];cases e:K7 x i
  ·have:=a1l.1 e;simp only[List.mem_cons,a0a (l:=l)]
   constructor
   ·rintro (rfl|h)
    ·exact⟨.inl rfl,this⟩
    ·exact⟨.inr h.1,h.2⟩
   ·rintro ⟨rfl|h,h2⟩
    ·exact .inl rfl
    ·exact .inr ⟨h,h2⟩
  ·have:=B2.1 e;subst this;simp only[a0a (l:=l),List.mem_cons];exact⟨λh=>⟨.inr h.1,h.2⟩,λh=>⟨h.1.resolve_left h.2,h.2⟩⟩
theorem a7M {i j:Nat}:∀(l:List Nat),a0k i (a0k j l)=a0k j (a0k i l)
 | []=>rfl
 | x::l=>by
  cases e:K7 x i <;> cases e2:K7 x j <;> simp[a0k,e,e2,a7M l]
theorem a7N:∀ {m l:List Nat},a6z m l=true↔∀j∈m,j∉l
 | [],l=>by simp[a6z]
 | a::m,l=>by
  rw[a6z];cases e:a5e a l
  ·simp only[List.forall_mem_cons,a7N (m:=m)];exact Iff.intro (λh=>And.intro (λhm=>(by rw[a2v.2 hm] at e;cases e)) h) λh=>h.2
  ·simp only[List.forall_mem_cons];exact Iff.intro (λh=>(by cases h)) λh=>absurd (a2v.1 e) h.1
theorem a3g {an:List (List Nat)} {l:List Nat} {i:Nat}:a7i an l i=true↔∀j∈an.getD i [],j∉l:=by
 rw[a7i,a9T,a7N]
theorem a60 {an:List (List Nat)} {l:List Nat} {i:Nat}:∀ {m:List Nat},i∈b35 an l m↔i∈m/\a7i an l i=true
 | []=>by simp[b35]
 | x::m=>by
  rw[b35];cases e:a7i an l x
  ·simp only[a60 (m:=m),List.mem_cons];refine Iff.intro (λh=>⟨.inr h.1,h.2⟩) λh=>⟨h.1.resolve_left λe2=>?_,h.2⟩
   rw[e2,e] at h;cases h.2
  ·simp only[List.mem_cons,a60 (m:=m)]
   constructor
   ·rintro (rfl|h)
    ·exact⟨.inl rfl,e⟩
    ·exact⟨.inr h.1,h.2⟩
   ·rintro ⟨rfl|h,h2⟩
    ·exact .inl rfl
    ·exact .inr ⟨h,h2⟩
theorem a1x {an:List (List Nat)} {l:List Nat} {i:Nat}:∀ {fr:List Nat},a1b an l fr=some i->i∈fr/\i∈l/\a7i an l i=true
 | [],h=>by cases h
 | x::fr,h=>by
  rw[a1b] at h
  split at h
  ·rename_i hm
   split at h
   ·rename_i hr;injection h with h;subst h;exact⟨List.mem_cons_self ..,a2v.1 hm,hr⟩
   ·obtain⟨h1,h2⟩:=a1x h;exact⟨List.mem_cons_of_mem _ h1,h2⟩
  ·obtain⟨h1,h2⟩:=a1x h;exact⟨List.mem_cons_of_mem _ h1,h2⟩
def a8M (ops:Array Oper) (o:Oper) (s:S) (K1:S->Prop):Prop:=∀(I0:Nat->Nat->Prop) (X:Nat->Prop) (w0:W0) (a:Act) (w:World) (ro:Option Nat) (n:Nat) (Q:Exit->Act->World->Prop) (Kw:Act->World->Prop),Z8 Tryz.prog o.op=true->Z3 I0 X w0 s a w->(∀s' a' w',Z3 I0 X w0 s' a' w'->K1 s'->Kw a' w') ->
 if Region.wanted o (yielded ops a.tmps) then o.wpIn (FW ro) n Tryz.prog a w Kw Q else (∀f,o.about Tryz.prog w a.eval=some f->(FW ro).fn f)/\Kw (a.put o.dst undef) w
theorem a8M.mono {ops:Array Oper} {o:Oper} {s:S} {K K':S->Prop} (h:a8M ops o s K) (hK:∀s,K s->K' s):a8M ops o s K' :=
 λI0 X w0 a w ro n Q Kw hop hr hk=>h I0 X w0 a w ro n Q Kw hop hr λs' a' w' h1 h2=>hk s' a' w' h1 (hK s' h2)
theorem a9U {ops:Array Oper} {o:Oper} {s:S} {K1:S->Prop} (h:a0s j1 (n5 ops.toList) [o] s K1):a8M ops o s K1:=by
 intro I0 X w0 a w ro n Q Kw hop hrel hKw;obtain⟨dst,op,type,pos,after,gd⟩:=o
 have hstep:a4J j1 s dst K1 op->Oper.wpIn (FW ro) n Tryz.prog ⟨dst,op,type,pos,after,gd⟩ a w Kw Q:=λhs =>
  a71 (λc hc=>a0V hop c hc) (Oper.wp_mono (λa' w' ⟨s',h1,h2⟩=>hKw s' a' w' h1 h2) (a9A hrel (o:=⟨dst,op,type,pos,after,gd⟩) (Q:=Q) hop hs))
 have hskip:K1 (s.put dst T1)->Kw (a.put dst undef) w:=λhs=>by
  obtain⟨I,g,h⟩:=hrel;exact hKw _ _ w ⟨I,g,h.put (x:=T1) (.tu [] [] rfl (λi u c hu _=>by simp at hu)) dst⟩ hs
 cases gd with
 | none =>
  rw[if_pos (by rfl)];rw[a0s] at h;exact hstep h
 | some jb =>
  obtain⟨j,b⟩:=jb;rw[a0s] at h;obtain⟨c,hc,hK⟩:=a5Z hrel h;have hw:Region.wanted ⟨dst,op,type,pos,after,some (j,b)⟩ (yielded ops a.tmps)=(c == some b):=by simp[Region.wanted,hc]
  rw[hw];cases c with
  | none =>
   rw[if_neg (by simp)];exact⟨λ_ _=>trivial,hskip hK⟩
  | some c =>
   simp only at hK
   split at hK
   ·rename_i hb;rw[a0I] at hb;rw[if_pos (by simpa using hb)];exact hstep hK
   ·rename_i hb;rw[a0I] at hb;rw[if_neg (by simpa using hb)];exact⟨λ_ _=>trivial,hskip hK⟩
theorem a5t {dsts:List (Option Nat)} {o:Oper} (ho:a9S o=true) {s:S} {K:S->Prop}:a0s j1 dsts [o] s K=m9 j1 dsts o s K:=by
 obtain⟨dst,op,type,pos,after,gd⟩:=o;cases gd with
 | some g=>cases ho
 | none =>
  have h:b9k op=true:=ho;cases op <;> first|rfl|cases h
def exG (ops:Array Oper) (o:Oper) (s:S) (K:S->Prop):Prop:=if a9S o=true then m9 j1 (n5 ops.toList) o s K else a8M ops o s K
theorem exG.mono {ops:Array Oper} {o:Oper} {s:S} {K K':S->Prop} (h:exG ops o s K) (hK:∀s,K s->K' s):exG ops o s K':=by
 unfold exG at h ⊢
 split
 ·rename_i hr;rw[if_pos hr] at h;exact Q7 hK h
 ·rename_i hr;rw[if_neg hr] at h;exact h.mono hK
theorem exG.sem {ops:Array Oper} {o:Oper} {s:S} {K:S->Prop} (h:exG ops o s K):a8M ops o s K:=by
 unfold exG at h
 split at h
 ·rename_i hr;rw[<-a5t hr] at h;exact a9U h
 ·exact h
theorem exG.of {ops:Array Oper} {o:Oper} {s:S} {K:S->Prop} (h:a0s j1 (n5 ops.toList) [o] s K):exG ops o s K:=by
 unfold exG
 split
 ·rename_i hr;rw[<-a5t hr];exact h
 ·exact a9U h
theorem b29 {l:List Nat} {i:Nat} (hn:l.Nodup) (hi:i∈l):(a0k i l).length+1=l.length:=by
 have e:∀l:List Nat,a0k i l=l.filter (· != i):=by
  intro l
  induction l with
  | nil=>rfl
  | cons x l ih =>
   rw[a0k,List.filter_cons];cases e:K7 x i
   ·have:=a1l.1 e;simp[this,ih]
   ·have:=B2.1 e;simp[this,ih]
 rw[e,<-hn.erase_eq_filter,List.length_erase_of_mem hi];have:=List.length_pos_of_mem hi;omega
theorem a3h {i:Nat}:∀ {l:List Nat},l.Nodup->(a0k i l).Nodup
 | [],_=>List.nodup_nil
 | x::l,h=>by
  obtain⟨h1,h2⟩:=List.nodup_cons.1 h;rw[a0k];cases K7 x i
  ·exact List.nodup_cons.2 ⟨λhm=>h1 (a0a.1 hm).1,a3h h2⟩
  ·exact a3h h2
section
variable {I0:Nat->Nat->Prop} {X:Nat->Prop} {w0:W0}
end
section
variable {qa:IntKind->Int->Int} {qb:Int->Int->Int} {qc:Int->Int->Int} {qd:Int->Int->Int} {qe:Int->Int->Int} {qf:Int->Int->Int} {qg:BinOp->IntKind->Int->IntKind->Int->Option Int} {qh:Int->Int->Bool} {qi:Int->Int->Bool} {qj:Int->Int->Bool} {qk:Int->Prop->Prop} {ql:List UInt8->List UInt8->Bool} {qm:List UInt8->List UInt8->Bool} {qo:ByteArray->List UInt8} {qp:ByteArray->ByteArray->ByteArray} {qq:ByteArray->ByteArray->Prop->Prop} {qt:ByteArray->Int} {qu:ByteArray->Int->Option Int} {qv:ByteArray->Int->Int->Option ByteArray} {qw:List (List D)->Option ByteArray} {qx:ByteArray->List (List D)} {qy:Int->Nat->Option Nat} {qz:List (List D)->Int} {va:List (List D)->Int->Option (List D)} {vc:List (List D)->Int->Int->Option (List (List D))} {vd:List (List D)->List (List D)->List (List D)} {ve:List (List D)->Int->List D->List (List D)} {vf:List (List D)->List (List D)->Prop->Prop} {vg:List (R×R)->R->Option R} {vh:List (R×R)->R->R->List (R×R)} {vj:List D->List D->Bool} {vk:Int->List D->(List (List D)->Prop)->Prop} {vl:Nat->List R->(List R->Prop)->Prop} {vm:Nat->List V->List O->(V->Prop)->Prop} {vn:Nat->List V->S->(V->S->Prop)->Prop} {vo:Nat->List V->List Nat->S->(V->S->Prop)->Prop} {vp:Nat->(Bool->Prop)->Prop} {vq:Nat->(Bool->Prop)->Prop} {vr:Nat->(List V->List O->Prop)->List V->S->Prop} {vt:(S->Prop)->S->Prop} {vu:Op->Option Nat->S->(S->Prop)->Prop} {vv:Array Oper->S->(S->Prop)->Prop} {vw:Code->(S->(X->S->Prop)->Prop)->S->(X->S->Prop)->Prop}
end
end
end Go.Proofs.YtncijebklnbhlaaGreatDoor.Vm
end
section
set_option maxRecDepth 10000
namespace Go.Proofs.YtncijebklnbhlaaGreatDoor.Vm
open Go.RowKit
section
def st1:V->Bool
 | .d _=>true
 | .ptr _ _=>true
 | .em=>true
 | _=>false
def b9l:List V->Bool
 | []=>true
 | x::l=>match st1 x with|true=>b9l l|false=>false
def stB:V->Bool
 | .d _=>true
 | .ptr _ _=>true
 | .em=>true
 | .ag cs=>b9l cs
 | _=>false
def b1o (s:S):List Nat->Bool
 | []=>true
 | t::l=>match stB (o6 s.t t) with|true=>b1o s l|false=>false
def stD (s:S):Option Nat->Bool
 | some d=>stB (o6 s.t d)
 | none=>false
def b9m:Op->Bool
 | .move _=>true
 | .fieldAddr _ _ _=>true
 | .field _ _ _=>true
 | .binOp _ _ _ _ _=>true
 | .build _ _=>true
 | .extract _ _=>true
 | .nilCheck _=>true
 | .convert t0 t _=>!(Z1 (ty t0).kind && Z1 (ty t).kind)
 | _=>false
def a61:Oper->Bool
 | ⟨some _,op,_,_,_,none⟩=>b9m op
 | _=>false
def a9V:Oper->Bool
 | ⟨_,.buildSlice _ (_+1) _,_,_,_,none⟩=>true
 | _=>false
def a9W:Oper->Bool
 | ⟨_,.call ⟨.value (.func _),_,_⟩,_,_,_,none⟩=>true
 | _=>false
def alU:Oper->Bool
 | ⟨_,.alloc _,_,_,_,none⟩=>true
 | _=>false
def slO:Oper->Bool
 | ⟨_,.slice _ _ _ _ _,_,_,_,none⟩=>true
 | _=>false
def frG (o:Oper):Bool:=slO o || a9S o || a61 o || a9V o || a9W o || alU o || a9C o
def a7O (all:List Oper) (an:List (List Nat)) (i:Nat):Bool:=match all[i]? with
 | some o=>a61 o && (List.range all.length).all λj=>(an.getD i []).contains j || (an.getD j []).contains i || Nat.beq j i || match all[j]? with|some oj=>frG oj && I5 o.dst (looks (n5 all) oj) && I5 oj.dst (looks (n5 all) o) && o.dst != oj.dst|none=>true
 | none=>false
def b5q (a:Ar) (dsts:List (Option Nat)) (o:Oper) (s:S) (K:S->Prop):Prop:=match a9V o with
 | true=>run a false dsts [o] s K
 | false=>a0s a dsts [o] s K
def b1p (a:Ar) (dsts:List (Option Nat)) (all:List Oper) (an:List (List Nat)) (fx:List Nat):Nat->List Nat->S->(S->Prop)->Prop
 | 0,_,s,K=>a.next K s
 | n+1,l,s,K=>match a1b an l fx with
  | some i=>match b34 all i with
   | some o=>match b1o s (looks dsts o) with
    | true=>b5q a dsts o s (λs1=>match stD s1 o.dst with|true=>b1p a dsts all an fx n (a0k i l) s1 K|false=>False)
    | false=>False
   | none=>False
  | none=>b9j (λi=>match b34 all i with
   | some o=>b5q a dsts o s (λs=>b1p a dsts all an fx n (a0k i l) s K)
   | none=>False) (b35 an l l)
def b2A (ops:Array Oper) (fx:List Nat):Bool :=
 let an:=G6 ops.toList []
 (List.range ops.size).all (λi=>(an.getD i []).all λj=>Nat.blt j i) && fx.all (a7O ops.toList an)
theorem a9X {v:V} (h:stB v=true) (k:Nat):C8 k v=v:=by
 cases v with
 | d x=>rfl
 | ptr j o=>rfl
 | em=>rfl
 | ag cs =>
  rw[stB] at h;rw[C8]
  congr 1
  induction cs with
  | nil=>rfl
  | cons x l ih =>
   rw[b9l] at h
   split at h
   ·rename_i hx;rw[A0,ih h]
    congr 1
    cases x <;> first|rfl|cases hx
   ·cases h
 | _=>cases h
theorem a7P:∀(ks:List Nat) (l:List V) (i:Nat),stB (o6 l i)=true->o6 (A7 ks l) i=o6 l i
 | [],l,i,h=>rfl
 | k::ks,l,i,h=>by
  have e:o6 (E5 k l) i=o6 l i:=by rw[a0m,a9X h]
  rw[A7,a7P ks (E5 k l) i (by rw[e];exact h),e]
theorem a7Q {v:V} (h:stB v=true):∀(ks:List Nat) (l:List V) (i:Nat),A7 ks (I4 l i v)=I4 (A7 ks l) i v
 | [],l,i=>rfl
 | k::ks,l,i=>by rw[A7,a4x,a9X h,a7Q h ks,A7]
theorem a8N {s:S}:∀ {l:List Nat},b1o s l=true->∀t∈l,stB (o6 s.t t)=true
 | [],_,t,ht=>by simp at ht
 | x::l,h,t,ht=>by
  rw[b1o] at h
  split at h
  ·rename_i hx
   rcases List.mem_cons.1 ht with rfl|ht
   ·exact hx
   ·exact a8N h t ht
  ·cases h
theorem b2B {s:S}:∀ {l:List Nat},(∀t∈l,stB (o6 s.t t)=true)->b1o s l=true
 | [],_=>rfl
 | x::l,h=>by
  rw[b1o,h x (List.mem_cons_self ..)];exact b2B λt ht=>h t (List.mem_cons_of_mem _ ht)
theorem b1q {op:Op} (h:b9m op=true):a2Y op=true:=by cases op <;> first|rfl|cases h
theorem a62 {o:Oper} (h:a61 o=true):∃d op ty p a,o=⟨some d,op,ty,p,a,none⟩/\b9m op=true:=by
 obtain⟨dst,op,ty,p,a,gd⟩:=o;cases dst with
 | none=>cases h
 | some d =>
  cases gd with
  | none=>exact⟨d,op,ty,p,a,rfl,h⟩
  | some g=>cases h
theorem a8O {dsts:List (Option Nat)} {o:Oper} (ho:a61 o=true) {s:S} {K:S->Prop}:a0s j1 dsts [o] s K=m9 j1 dsts o s K:=by
 obtain⟨d,op,ty',p,a,rfl,h⟩:=a62 ho;cases op
 case convert t0 t x =>
  have e:c0f s (.convert t0 t x)=false:=by
   have h:(!(Z1 (ty t0).kind && Z1 (ty t).kind))=true:=h;show (match Z1 (ty t0).kind with|true=>Z1 (ty t).kind|false=>false)=false;generalize Z1 (ty t0).kind=x at *;generalize Z1 (ty t).kind=y at *;cases x <;> cases y <;> first|rfl|cases h
  show a4J j1 s (some d) (λs=>K s) _=_;unfold a4J;rw[e];rfl
 all_goals first|rfl|cases h
theorem b2C {o:Oper} (h:a9V o=true):∃dst t n ps ty p a,o=⟨dst,.buildSlice t (n+1) ps,ty,p,a,none⟩:=by
 obtain⟨dst,op,ty,p,a,gd⟩:=o;unfold a9V at h
 split at h
 ·rename_i e;injection e with e1 e2 e3 e4 e5 e6;subst e1 e2 e6;exact⟨_,_,_,_,_,_,_,rfl⟩
 ·cases h
theorem c17 {ops:Array Oper} {o:Oper} (hl:a9V o=true) {s:S} {K1:S->Prop} (h:m9 j1 (n5 ops.toList) o s K1):a8M ops o s K1:=by
 obtain⟨dst,t,m,ps,type,pos,after,rfl⟩:=b2C hl;intro I0 X w0 a w ro n Q Kw hop hrel hKw;rw[if_pos (by rfl)];obtain⟨I,g,hr⟩:=hrel;exact a71 (λc hc=>a0V hop c hc) (Oper.wp_mono (λa' w' ⟨s',h1,h2⟩=>hKw s' a' w' h1 h2) (a83 hr (m:=false) (o:=⟨dst,.buildSlice t (m+1) ps,type,pos,after,none⟩) (Q:=Q) hop h))
theorem b2D {dsts:List (Option Nat)} {o:Oper} (ho:slO o=true) {s:S} {K:S->Prop}:a0s j1 dsts [o] s K=m9 j1 dsts o s K:=by
 obtain⟨dst,op,type,pos,after,gd⟩:=o;cases gd <;> cases op <;> first|rfl|cases ho
def a4V (o:Oper):Bool:=slO o || a9S o || a61 o || a9V o
theorem b5r {o:Oper} (h:a4V o=true):a38 o.op=true:=by
 unfold a4V at h;rw[Bool.or_eq_true,Bool.or_eq_true,Bool.or_eq_true] at h
 rcases h with ((h|h)|h)|h
 ·obtain⟨dst,op,type,pos,after,gd⟩:=o;cases gd <;> cases op <;> first|rfl|cases h
 ·obtain⟨dst,op,type,pos,after,gd⟩:=o;cases gd with
  | some g=>cases h
  | none=>have h:b9k op=true:=h;cases op <;> first|rfl|cases h
 ·obtain⟨d,op,ty,p,a,rfl,h⟩:=a62 h;cases op <;> first|rfl|cases h
 ·obtain⟨dst,t,m,ps,type,pos,after,rfl⟩:=b2C h;rfl
def exH (ops:Array Oper) (o:Oper) (s:S) (K:S->Prop):Prop:=if a4V o=true then m9 j1 (n5 ops.toList) o s K else if (a9W o || alU o)=true then a0s j1 (n5 ops.toList) [o] s K else if a9C o=true then m9 j1 (n5 ops.toList) o s K else a8M ops o s K
theorem b2E {dsts:List (Option Nat)} {o:Oper} (ho:a9C o=true) {s:S} {K:S->Prop}:a0s j1 dsts [o] s K=m9 j1 dsts o s K:=by
 obtain⟨dst,op,type,pos,after,gd⟩:=o;cases gd <;> cases dst <;> cases op <;> first|rfl|cases ho
theorem a9Z {o:Oper} (h:a9W o=true):∃dst f args ts ty p a,o=⟨dst,.call ⟨.value (.func f),args,ts⟩,ty,p,a,none⟩:=by
 obtain⟨dst,op,ty,p,a,gd⟩:=o;unfold a9W at h
 split at h
 ·rename_i e;injection e with e1 e2 e3 e4 e5 e6;subst e1 e2 e6;exact⟨_,_,_,_,_,_,_,rfl⟩
 ·cases h
theorem b5s {o:Oper} (h:alU o=true):∃dst e ty p a,o=⟨dst,.alloc e,ty,p,a,none⟩:=by
 obtain⟨dst,op,ty,p,a,gd⟩:=o;unfold alU at h
 split at h
 ·rename_i e;injection e with e1 e2 e3 e4 e5 e6;subst e1 e2 e6;exact⟨_,_,_,_,_,rfl⟩
 ·cases h
theorem c0A {dsts:List (Option Nat)} {dst:Option Nat} {f:Nat} {args:Array Operand} {ts:Array TypeId} {ty:TypeId} {p:String} {a:Array Edge} {s:S} {K:S->Prop}:a0s j1 dsts [⟨dst,.call ⟨.value (.func f),args,ts⟩,ty,p,a,none⟩] s K=N3 f (G3 s.get args.toList) s.o (λu o' ks=>K (S.put ⟨A7 ks s.t,o'⟩ dst u)):=rfl
theorem b8o {dsts:List (Option Nat)} {dst:Option Nat} {e:Nat} {ty:TypeId} {p:String} {a:Array Edge} {s:S} {K:S->Prop}:a0s j1 dsts [⟨dst,.alloc e,ty,p,a,none⟩] s K=match a1F (C6 (Vm.ty e).zero) with
  | true=>K ((s.obj (a4g e)).put dst (.ptr (o7 s.o) 0))
  | false=>False:=rfl
theorem exH.mono {ops:Array Oper} {o:Oper} {s:S} {K K':S->Prop} (h:exH ops o s K) (hK:∀s,K s->K' s):exH ops o s K':=by
 unfold exH at h ⊢
 split at h
 ·rename_i hr;rw[if_pos hr];exact Q7 hK h
 ·rename_i hr;rw[if_neg hr]
  split at h
  ·rename_i hc;rw[if_pos hc];rw[Bool.or_eq_true] at hc
   rcases hc with hc|hc
   ·obtain⟨dst,f,args,ts,ty,p,a,rfl⟩:=a9Z hc;rw[c0A] at h ⊢;exact h.mono λ_ _ _ hx=>hK _ hx
   ·obtain⟨dst,e,ty,p,a,rfl⟩:=b5s hc;rw[b8o] at h ⊢
    split at h
    ·exact hK _ h
    ·exact h.elim
  ·rename_i hc;rw[if_neg hc]
   split at h
   ·rename_i hs;rw[if_pos hs];exact Q7 hK h
   ·rename_i hs;rw[if_neg hs];exact h.mono hK
theorem exH.sem {ops:Array Oper} {o:Oper} {s:S} {K:S->Prop} (h:exH ops o s K):a8M ops o s K:=by
 unfold exH at h
 split at h
 ·rename_i hr;unfold a4V at hr;rw[Bool.or_eq_true,Bool.or_eq_true,Bool.or_eq_true] at hr
  rcases hr with ((hr|hr)|hr)|hr
  ·rw[<-b2D hr] at h;exact a9U h
  ·rw[<-a5t hr] at h;exact a9U h
  ·rw[<-a8O hr] at h;exact a9U h
  ·exact c17 hr h
 ·split at h
  ·exact a9U h
  ·split at h
   ·rename_i hs;rw[<-b2E hs] at h;exact a9U h
   ·exact h
theorem exH.of {ops:Array Oper} {o:Oper} {s:S} {K:S->Prop} (h:b5q j1 (n5 ops.toList) o s K):exH ops o s K:=by
 unfold b5q at h;unfold exH
 split at h
 ·rename_i hl;rw[if_pos (by unfold a4V;rw[hl,Bool.or_true])];exact h
 ·rename_i hl
  split
  ·rename_i hr;unfold a4V at hr;rw[hl,Bool.or_false,Bool.or_eq_true,Bool.or_eq_true] at hr
   rcases hr with (hr|hr)|hr
   ·rw[<-b2D hr];exact h
   ·rw[<-a5t hr];exact h
   ·rw[<-a8O hr];exact h
  ·split
   ·exact h
   ·split
    ·rename_i hs;rw[<-b2E hs];exact h
    ·exact a9U h
theorem b5t {ops:Array Oper} {o:Oper} (hf:frG o=true) {d:Nat} {v:V} {s:S} {K:S->Prop} (hl:I5 (some d) (looks (n5 ops.toList) o)=true) (h:exH ops o (s.put (some d) v) K):exH ops o s (λs'=>∃ks o' u,s'=S.put ⟨A7 ks s.t,o'⟩ o.dst u/\K (S.put ⟨A7 ks (s.put (some d) v).t,o'⟩ o.dst u)):=by
 unfold exH at h ⊢
 split at h
 ·rename_i hr;rw[if_pos hr];obtain⟨u,h1,h2⟩:=a3A (b5r hr) h;exact h2 s _ (H8 (G9 hl)).symm ⟨[],s.o,u,rfl,h1⟩
 ·rename_i hr;rw[if_neg hr]
  by_cases hc:(a9W o || alU o)=true
  case neg =>
   have hs:a9C o=true:=by
    unfold frG at hf;unfold a4V at hr;cases h1:a9S o <;> cases h2:a61 o <;> cases h3:a9V o <;> cases h4:slO o <;> simp_all
   rw[if_neg hc,if_pos hs] at h ⊢;obtain⟨o',h1,h2⟩:=a6e hs h
   have hd:o.dst=none:=by
    unfold a9C at hs;simp only[Bool.and_eq_true,Option.isNone_iff_eq_none] at hs;exact hs.2
   exact h2 s _ rfl (λt ht=>(a0n hl t ht).symm) ⟨[],o',.em,by rw[hd];rfl,by rw[hd];exact h1⟩
  rw[if_pos hc] at h ⊢;rw[Bool.or_eq_true] at hc
  rcases hc with hc|hc
  ·obtain⟨dst,f,args,ts,ty,p,a,rfl⟩:=a9Z hc;rw[c0A] at h ⊢
   have hargs:∀l:List Operand,(∀z∈l,z∈args.toList)->G3 (s.put (some d) v).get l=G3 s.get l:=by
    intro l
    induction l with
    | nil=>intro _;rfl
    | cons z l ih =>
     intro hz;rw[G3,G3,ih λz' h'=>hz z' (List.mem_cons_of_mem _ h')]
     congr 1
     cases z with
     | tmp i =>
      show o6 (s.put (some d) v).t i=o6 s.t i;refine a0n hl i ?_;unfold looks;refine List.mem_append_right _ (a39 ?_);have h0:Operand.tmp i∈args:=by simpa using hz _ (List.mem_cons_self ..)
      simp[Op.operands,Call.operands,h0]
     | _=>rfl
   rw[hargs _ λz hz=>hz] at h;exact h.mono λu o' ks hx=>⟨ks,o',u,rfl,hx⟩
  ·obtain⟨dst,e,ty,p,a,rfl⟩:=b5s hc;rw[b8o] at h ⊢
   split at h
   ·exact⟨[],_,_,rfl,h⟩
   ·exact h.elim
def PtB (dsts:List (Option Nat)) (o:Oper) (s:S) (v:V):Prop:=∀(s':S) (K':S->Prop),a6d (looks dsts o) s s'->K' (s'.put o.dst v)->m9 j1 dsts o s' K'
def b36 (ops:Array Oper) (K:S->Prop):Nat->List Nat->S->Prop
 | 0,l,s=>j1.next K s
 | n+1,l,s=>(∃i o v,i∈l/\a7i (G6 ops.toList []) l i=true/\a7O ops.toList (G6 ops.toList []) i=true/\ops.toList[i]?=some o/\b1o s (looks (n5 ops.toList) o)=true/\stB v=true/\PtB (n5 ops.toList) o s v/\b36 ops K n (a0k i l) (s.put o.dst v)) \/
   ∀i,i∈l->a7i (G6 ops.toList []) l i=true->∃o,ops.toList[i]?=some o/\exH ops o s (b36 ops K n (a0k i l))
theorem b1r {ops:Array Oper} {fx:List Nat} (hfx:∀i∈fx,a7O ops.toList (G6 ops.toList []) i=true):∀ {n:Nat} {l:List Nat} {s:S} {K:S->Prop},b1p j1 (n5 ops.toList) ops.toList (G6 ops.toList []) fx n l s K->b36 ops K n l s
 | 0,l,s,K,h=>h
 | n+1,l,s,K,h=>by
  rw[b1p] at h
  split at h
  ·rename_i i hi;obtain⟨h1,h2,h3⟩:=a1x hi
   split at h <;> try exact h.elim
   rename_i o ho;rw[a8L] at ho
   split at h <;> try exact h.elim
   rename_i hst
   have hb:a61 o=true:=by
    have:=hfx i h1;unfold a7O at this;rw[ho] at this;simp only[Bool.and_eq_true] at this;exact this.1
   have hnl:a9V o=false:=by
    obtain⟨d,op,ty,p,a,rfl,hop⟩:=a62 hb;cases op <;> first|rfl|cases hop
   unfold b5q at h;rw[hnl] at h;simp only at h;rw[a8O hb] at h;obtain⟨d,op,ty,p,a,e,hop⟩:=a62 hb;obtain⟨v,g1,g2⟩:=a3B (by rw[e];exact b1q hop) h
   split at g1 <;> try exact g1.elim
   rename_i hsd;refine .inl ⟨i,o,v,h2,h3,hfx i h1,ho,hst,?_,g2,b1r hfx g1⟩;rw[e] at hsd;have hsd:stB (o6 (I4 s.t d v) d)=true:=hsd
   rcases a0K (v:=v) (l:=s.t) (i:=d) with e2|e2
   ·rw[e2] at hsd;exact hsd
   ·rw[e2] at hsd;cases hsd
  ·refine .inr λi hi hr=>?_
   have h4:=b28 h i (a60.2 ⟨hi,hr⟩)
   split at h4 <;> try exact h4.elim
   rename_i o ho;rw[a8L] at ho;exact⟨o,ho,(exH.of h4).mono λs hs=>b1r hfx hs⟩
theorem b0a {ops:Array Oper} {K:S->Prop}:∀ {n:Nat} {l:List Nat} {s:S},b36 ops K (n+1) l s->l.Nodup->l.length=n+1->∀ {j:Nat} {oj:Oper},j∈l->a7i (G6 ops.toList []) l j=true->ops.toList[j]?=some oj->exH ops oj s (b36 ops K n (a0k j l))
 | n,l,s,h,hn,hl,j,oj,hj,hr,ho=>by
  rcases h with⟨i,o,v,hi,hri,hf,hoi,hst,hv,hpt,h⟩|h
  ·have hf0:=hf;unfold a7O at hf;rw[hoi] at hf;simp only[Bool.and_eq_true] at hf
   by_cases e:i=j
   ·subst e;rw[hoi] at ho;cases ho;unfold exH;rw[if_pos (by unfold a4V;rw[hf.1,Bool.or_true,Bool.true_or])];exact hpt s _ (λ_ _=>rfl) h
   ·cases n with
    | zero =>
     match l,hl with
     | [x],_=>simp at hi hj;omega
    | succ n =>
     have hd:=b29 hn hi;have h1:=b0a h (a3h hn) (by omega) (a0a.2 ⟨hj,λe2=>e e2.symm⟩) (a3g.2 λk hk hm=>a3g.1 hr k hk (a0a.1 hm).1) ho;have hjlt:j<ops.toList.length:=(List.getElem?_eq_some_iff.1 ho).1;have h2:=List.all_eq_true.1 hf.2 j (by simpa using hjlt);rw[ho] at h2;simp only[Bool.or_eq_true,Bool.and_eq_true,List.contains_iff_mem,Nat.beq_eq] at h2;obtain⟨d,op,ty,p,a,eo,hop⟩:=a62 hf.1
     rcases h2 with ((h2|h2)|h2)|⟨⟨⟨h2,h3⟩,h4⟩,h5⟩
     ·exact absurd hj (a3g.1 hri j h2)
     ·exact absurd hi (a3g.1 hr i h2)
     ·exact absurd h2.symm e
     ·have hdst:o.dst=some d:=by rw[eo]
      rw[hdst] at h1 h3 h5;refine(b5t h2 h3 h1).mono λs' ⟨ks,o',u,e1,hK⟩=>?_
      have hsame:a6d (looks (n5 ops.toList) o) s s':=λt ht=>by
       rw[e1,a0n h4 t ht];exact a7P ks s.t t (a8N hst t ht)
      refine .inl ⟨i,o,v,a0a.2 ⟨hi,e⟩,a3g.2 λk hk hm=>a3g.1 hri k hk (a0a.1 hm).1,hf0,hoi,b2B λt ht=>by rw[hsame t ht];exact a8N hst t ht,hv,λs2 K' hs hk=>hpt s2 K' (λt ht=>(hs t ht).trans (hsame t ht)) hk,?_⟩;rw[a7M,hdst,e1]
      have hcm:(S.put ⟨A7 ks s.t,o'⟩ oj.dst u).put (some d) v=S.put ⟨A7 ks (s.put (some d) v).t,o'⟩ oj.dst u:=by
       rw[a0Y (λz hz hz'=>by rw[hz,<-hz'] at h5;simp at h5)];show S.put ⟨I4 (A7 ks s.t) d v,o'⟩ oj.dst u=S.put ⟨A7 ks (I4 s.t d v),o'⟩ oj.dst u;rw[a7Q hv]
      rw[hcm];exact hK
  ·obtain⟨o,ho',h⟩:=h j hj hr;rw[ho] at ho';cases ho';exact h
section
variable {I0:Nat->Nat->Prop} {X:Nat->Prop} {w0:W0}
theorem b9n {ro:Option Nat} {n:Nat} {ops:Array Oper} {Q:Exit->Act->World->Prop} {K:S->Prop} (hQ:∀s' a' w',Z3 I0 X w0 s' a' w'->K s'->Q .normal a' w') (hok:∀o∈ops.toList,Z8 Tryz.prog o.op=true) (hd:∀i,i<ops.size->∀j∈(G6 ops.toList []).getD i [],j<i):∀(fuel:Nat) (l:List Nat) (listed:Array Bool) (s:S) (a:Act) (w:World),l.length=fuel->listed.size=ops.size->l.Pairwise (·<·)->(∀i,i∈l↔i<ops.size/\listed.getD i true=false)->(∀i,i<ops.size->listed.getD i false=true->∀j∈(G6 ops.toList []).getD i [],listed.getD j false=true)->Z3 I0 X w0 s a w->b36 ops K fuel l s->wpAnyIn (FW ro) n Tryz.prog .any ops Q fuel listed a w:=by
 intro fuel
 induction fuel with
 | zero =>
  intro l listed s a w hl hsz hp hmem hcl hrel hK;obtain rfl:=List.length_eq_zero_iff.1 hl;obtain⟨F,hg,hk⟩:=hK;obtain⟨s',hf,hr'⟩:=hg _ _ _ _ _ hrel;refine⟨?_,hQ _ _ _ hr' (hk s' hf)⟩;cases hr:Region.ready .any ops listed with
  | nil=>rfl
  | cons x xs =>
   obtain⟨h1,o,h2,_⟩:=mem_ready.1 (show x∈Region.ready .any ops listed by rw[hr];exact List.mem_cons_self ..);have:=(hmem x).2 ⟨(Array.getElem?_eq_some_iff.1 h2).1,h1⟩
   simp at this
 | succ fuel ih =>
  intro l listed s a w hl hsz hp hmem hcl hrel hK
  have un:∀j,j∈l->listed.getD j false=true->False:=λj hj h=>by
   obtain⟨h1,h2⟩:=(hmem j).1 hj
   simp[hsz,h1] at h h2
   rw[h2] at h;cases h
  refine⟨λhr=>?_,λi hi=>?_⟩
  ·exfalso;cases l with
   | nil=>simp at hl
   | cons i0 rest =>
    obtain⟨h1,h2⟩:=(hmem i0).1 (List.mem_cons_self ..);obtain⟨o,ho⟩:∃o,ops[i0]?=some o:=⟨_,Array.getElem?_eq_getElem h1⟩
    have:i0∈Region.ready .any ops listed:=mem_ready.2 ⟨h2,o,ho,λe he hb=>by
     have h3:e.on∈(G6 ops.toList []).getD i0 []:=by
      rw[b2w ho (hd i0 h1)];exact List.mem_flatMap.2 ⟨e.on,a6r he hb,List.mem_cons_self ..⟩
     have h4:=hd i0 h1 _ h3
     have h5:¬(e.on∈i0::rest):=λhm=>by
      rcases List.mem_cons.1 hm with hm|hm
      ·omega
      ·have:=(List.pairwise_cons.1 hp).1 _ hm;omega
     have h6:listed.getD e.on true=true:=by
      cases hx:listed.getD e.on true with
      | true=>rfl
      | false=>exact absurd ((hmem e.on).2 ⟨by omega,hx⟩) h5
     have hlt:e.on<listed.size:=by omega
     simpa [hlt] using h6⟩
    rw[hr] at this
    simp at this
  ·obtain⟨h1,o,ho,hall⟩:=mem_ready.1 hi;have hlt:=(Array.getElem?_eq_some_iff.1 ho).1;have hil:i∈l:=(hmem i).2 ⟨hlt,h1⟩
   have han:∀j∈(G6 ops.toList []).getD i [],listed.getD j false=true:=λj hj=>by
    rw[b2w ho (hd i hlt)] at hj;obtain⟨k,hk,hj⟩:=List.mem_flatMap.1 hj;obtain⟨e,he,hek⟩:=List.mem_map.1 hk;obtain⟨he1,he2⟩:=List.mem_filter.1 he;subst hek;have h3:=hall e (by simpa using he1) he2
    rcases List.mem_cons.1 hj with rfl|hj
    ·exact h3
    ·have:e.on<ops.size:=by
      rcases Nat.lt_or_ge e.on listed.size with h'|h'
      ·omega
      ·simp[Array.getElem?_eq_none h'] at h3
     exact hcl _ this h3 j hj
   have hot:ops.toList[i]?=some o:=by rw[Array.getElem?_toList];exact ho
   have hnd:l.Nodup:=hp.imp λh=>Nat.ne_of_lt h
   have hf:=(b0a hK hnd hl hil (a3g.2 λj hj hm=>un j hm (han j hj)) hot).sem
   have key:=hf I0 X w0 a w ro n Q (wpAnyIn (FW ro) n Tryz.prog .any ops Q fuel (listed.setIfInBounds i true)) (hok o (List.mem_of_getElem? hot)) hrel (λs' a' w' hrel' hK'=>by
    have hsub:(a0k i l).Pairwise (·<·):=by
     have e:∀l:List Nat,(a0k i l).Sublist l:=by
      intro l
      induction l with
      | nil=>exact .slnil
      | cons x l ih =>
       rw[a0k];cases K7 x i
       ·exact ih.cons_cons x
       ·exact ih.cons x
     exact hp.sublist (e l)
    refine ih (a0k i l) _ s' a' w' (by have:=b29 hnd hil;omega) (by simpa using hsz) hsub (λk=>?_) (λk hk hkl j hj=>?_) hrel' hK'
    ·rw[a0a]
     by_cases hik:i=k
     ·subst hik;refine⟨λhm=>absurd rfl hm.2,λhm=>?_⟩;have h6:=hm.2;have hlt':i<listed.size:=by omega
      simp[hlt'] at h6
     ·rw[getD_set_ne true hik,<-hmem k];exact⟨λh=>h.1,λh=>⟨h,λe=>hik e.symm⟩⟩
    ·by_cases hik:i=k
     ·subst hik;exact getD_set_true (han j hj)
     ·rw[getD_set_ne false hik] at hkl
      exact getD_set_true (hcl k hk hkl j hj))
   unfold wpOpIn;rw[ho];simp only
   split at key
   ·rename_i hw;rw[if_pos hw];exact key
   ·rename_i hw;rw[if_neg hw];exact key
end
theorem b7j {ops:Array Oper} {fx:List Nat} (hp:b2A ops fx=true) {s:S} {K:S->Prop} (h:b1p j1 (n5 ops.toList) ops.toList (G6 ops.toList []) fx ops.size (List.range ops.size) s K):j1.reg ops s K:=by
 intro I0 X w0 a w ro n Q hok hrel hQ;unfold b2A at hp;simp only[Bool.and_eq_true] at hp
 have hd:∀i,i<ops.size->∀j∈(G6 ops.toList []).getD i [],j<i:=λi hi j hj=>by
  have h1:=List.all_eq_true.1 hp.1 i (by simpa using hi)
  simpa [Nat.blt_eq] using List.all_eq_true.1 h1 j hj
 have hfx:∀i∈fx,a7O ops.toList (G6 ops.toList []) i=true:=λi hi=>List.all_eq_true.1 hp.2 i hi
 refine b9n hQ hok hd ops.size (List.range ops.size) _ s a w (by simp) (by simp) List.pairwise_lt_range (λi=>?_) (λi hi h=>?_) hrel (b1r hfx h)
 ·rw[List.mem_range];exact⟨λhi=>⟨hi,by simp[hi]⟩,λh=>h.1⟩
 ·simp[hi] at h
section
variable {qa:_} {qb:_} {qc:_} {qd:_} {qe:_} {qf:_} {qg:_} {qh:_} {qi:_} {qj:_} {qk:_} {ql:_} {qm:_} {qo:_} {qp:_} {qq:_} {qt:_} {qu:_} {qv:_} {qw:_} {qx:_} {qy:_} {qz:_} {va:_} {vc:_} {vd:_} {ve:_} {vf:_} {vg:_} {vh:_} {vj:_} {vk:_} {vl:_} {vm:_} {vn:_} {vo:_} {vp:_} {vq:_} {vr:_} {vt:_} {vu:_} {vv:_} {vw:_} (hA:Ar.mk qa qb qc qd qe qf qg qh qi qj qk ql qm qo qp qq qt qu qv qw qx qy qz va vc vd ve vf vg vh vj vk vl vm vn vo vp vq vr vt vu vv vw=j1)
include hA
theorem b2F {ops:Array Oper} (fx:List Nat) (hp:b2A ops fx=true) {s:S} {K:S->Prop} (h:b1p (Ar.mk qa qb qc qd qe qf qg qh qi qj qk ql qm qo qp qq qt qu qv qw qx qy qz va vc vd ve vf vg vh vj vk vl vm vn vo vp vq vr vt vu vv vw) (n5 ops.toList) ops.toList (G6 ops.toList []) fx ops.size (List.range ops.size) s K):vv ops s K:=by
 have e:vv=j1.reg:=congrArg Ar.reg hA;rw[e];rw[hA] at h;exact b7j hp h
end
end
end Go.Proofs.YtncijebklnbhlaaGreatDoor.Vm
end
section
namespace Go.Proofs.YtncijebklnbhlaaGreatDoor.Vm
open Go.RowKit
set_option maxRecDepth 100000
set_option maxHeartbeats 4000000
section
section
variable {qa:_} {qb:_} {qc:_} {qd:_} {qe:_} {qf:_} {qg:_} {qh:_} {qi:_} {qj:_} {qk:_} {ql:_} {qm:_} {qo:_} {qp:_} {qq:_} {qt:_} {qu:_} {qv:_} {qw:_} {qx:_} {qy:_} {qz:_} {va:_} {vc:_} {vd:_} {ve:_} {vf:_} {vg:_} {vh:_} {vj:_} {vk:_} {vl:_} {vm:_} {vn:_} {vo:_} {vp:_} {vq:_} {vr:_} {vt:_} {vu:_} {vv:_} {vw:_} (hA:Ar.mk qa qb qc qd qe qf qg qh qi qj qk ql qm qo qp qq qt qu qv qw qx qy qz va vc vd ve vf vg vh vj vk vl vm vn vo vp vq vr vt vu vv vw=j1)
include hA
theorem ew {k:IntKind} {x y z:Int} (h:k.wrap (x+y)=z):qa k (qb x y)=z:=by
 obtain⟨e1,e2,_⟩:=l7 hA;rw[e1,e2,h]
theorem eb {x y:Int} {b:Bool} (h:(x == y)=b):qj x y=b:=by
 obtain⟨_,_,_,_,_,_,_,_,e9⟩:=l7 hA;rw[e9,h]
theorem ebr {x:Int}:qj x x=true:=eb hA (beq_self_eq_true x)
theorem el {x y:Int} {b:Bool} (h:decide (x<y)=b):qh x y=b:=by
 obtain⟨_,_,_,_,_,_,e7,_⟩:=l7 hA;rw[e7,h]
theorem eln {x:Int} {r:List (List D)} {b:Bool} (h:decide (x<(r.length:Int))=b):qh x (qz r)=b:=by
 obtain⟨e,_⟩:=n8 hA;rw[e,el hA h]
theorem eg {r:List (List D)} {a:Int} {c:List D} (h:j1.get r a=some c):va r a=some c:=by
 have e:va=j1.get:=congrArg Ar.get hA;rw[e,h]
theorem ea (x y:List (List D)):vd x y=x++y:=by
 obtain⟨_,_,_,e⟩:=n8 hA;rw[e]
theorem es {x y:ByteArray} {b:Bool} (h:(x.toList == y.toList)=b):ql (qo x) (qo y)=b:=by
 obtain⟨s1,_,s3,_⟩:=o8 hA;rw[s1,s3,s3,h]
theorem esl (x y:ByteArray):ql (qo x) (qo y)=(x.data.toList == y.data.toList):=by
 obtain⟨s1,_,s3,_⟩:=o8 hA;rw[s1,s3,s3,ByteArray.toList_eq,ByteArray.toList_eq]
theorem esr {x:ByteArray}:ql (qo x) (qo x)=true:=es hA (beq_self_eq_true _)
theorem c0B {ops:Array Oper} {n:Nat} (hn:ops.size=n) (fx:List Nat) (hp:b2A ops fx=true) {s:S} {K:S->Prop} (s':S) (h:∀K:S->Prop,K s'->b1p (Ar.mk qa qb qc qd qe qf qg qh qi qj qk ql qm qo qp qq qt qu qv qw qx qy qz va vc vd ve vf vg vh vj vk vl vm vn vo vp vq vr vt vu vv vw) (n5 ops.toList) ops.toList (G6 ops.toList []) fx ops.size (List.range ops.size) s K) (hK:K s'):vv ops s K:=b2F hA fx hp (h K hK)
theorem cox {f:Nat} {vs vs' r:List V} {s:S} {K:V->S->Prop} (ks:List Nat) {os' o2:List O} (h:B0 f vs' os' (λres os=>res=r/\os=o2)) (hK:K (a0u (upT ks (o7 s.o) r)) (a0t ks o2 s)) (hs:SubOk ks vs' os' vs s:=by exact⟨rfl,rfl,rfl,rfl,rfl,rfl,rfl⟩):vn f vs s K :=
 l9 hA ks h hs λ_ _ ⟨e1,e2⟩=>by rw[e1,e2];exact hK
theorem cx {f:Nat} {vs vs' r:List V} {l:List Nat} {s:S} {K:V->S->Prop} (ks:List Nat) {os' o2:List O} (h:B0 f vs' os' (λres os=>res=r/\os=o2)) (hK:K (a0u (upT ks (o7 s.o) r)) ⟨s.t,E1 ks (N2 ks (o7 s.o) o2) s.o⟩) (hb:b1j os'=true:=by rfl) (hs:SubOk ks vs' os' vs s:=by exact⟨rfl,rfl,rfl,rfl,rfl,rfl,rfl⟩)
  (hk:a1n l s.t s.o (E1 ks (N2 ks (o7 s.o) o2) s.o):=by repeat (first|exact b1i _ _ _|refine a9K (λk hk=>by injection hk with hk;subst hk;rfl) ?_)):vo f vs l s K :=
 b5d hA ks (B0.box h hb) hs λ_ _ ⟨e1,e2⟩=>by rw[e1,e2];exact⟨hk,hK⟩
theorem rdx {f:Nat} {vs vs' r:List V} {s:S} {K:V->S->Prop} (ks:List Nat) {os':List O} (h:K3 f vs' os' (λres o2=>res=r/\o2=os')) (hK:K (a0u (upT ks (o7 s.o) r)) s) (hs:SubOk ks vs' os' vs s:=by exact⟨rfl,rfl,rfl,rfl,rfl,rfl,rfl⟩) (hb:E1 ks (N2 ks (o7 s.o) os') s.o=s.o:=by rfl):vn f vs s K :=
 c08 hA ks h hs hb λ_ e=>by rw[e];exact hK
theorem rdq {f:Nat} {vs vs' r:List V} {o:List O} {K:V->Prop} (ks:List Nat) {os':List O} (h:K3 f vs' os' (λres o2=>res=r/\o2=os')) (hK:K (a0u (upT ks (o7 o) r))) (hs:SubOk ks vs' os' vs ⟨[],o⟩:=by exact⟨rfl,rfl,rfl,rfl,rfl,rfl,rfl⟩) (hb:E1 ks (N2 ks (o7 o) os') o=o:=by rfl):vm f vs o K:=b9i hA ks h hs hb hK
end
theorem fin {p:Prop} (h:p:=by
  iterate 2 (all_goals try cbv;repeat' (first|(with_reducible apply j2 hA;exact hk)|((first|with_reducible apply j2 hA|rw[q0]|rw[q1]|rw[q2]|rw[q3]|rw[q4]|rw[q5]|rw[q6]|rw[q7]|rw[ew hA w0]|rw[ew hA w1]|rw[ew hA w2]|rw[ew hA w3]|rw[ew hA w4]|rw[ew hA w5]|rw[ew hA w6]|rw[ew hA w7]|rw[qL]|rw[eb hA b0]|rw[eb hA b1]|rw[eb hA b2]|rw[eb hA b3]|rw[eb hA b4]|rw[eb hA b5]|rw[eb hA b6]|rw[eb hA b7]|rw[eb hA b8]|rw[eb hA b9]|rw[el hA l0]|rw[el hA l1]|rw[el hA l2]|rw[el hA l3]|rw[eln hA l0]|rw[eln hA l1]|rw[eg hA g0]|rw[eg hA g1]|rw[eg hA g2]|rw[eg hA g3]|rw[eg hA g4]|rw[eg hA g5]|rw[es hA x0]|rw[es hA x1]|rw[es hA x2]|rw[es hA x3]|rw[esl hA]|rw[ebr hA]|rw[esr hA]|rw[ea hA]|refine cox hA [0,1] p0 ?_|refine cx hA [0,1] p0 ?_|refine cox hA [0,1] p1 ?_|refine cx hA [0,1] p1 ?_|refine cox hA [0,1] p2 ?_|refine cx hA [0,1] p2 ?_|refine cox hA [0,1] p3 ?_|refine cx hA [0,1] p3 ?_|refine cox hA [0,1] p4 ?_|refine cx hA [0,1] p4 ?_|refine cox hA [0,1] p5 ?_|refine cx hA [0,1] p5 ?_|refine cox hA [0,1] p6 ?_|refine cx hA [0,1] p6 ?_|refine cox hA [0,1] p7 ?_|refine cx hA [0,1] p7 ?_|refine cox hA [0,1] p8 ?_|refine cx hA [0,1] p8 ?_|refine cox hA [0,1] p9 ?_|refine cx hA [0,1] p9 ?_|refine cox hA [0,1] p10 ?_|refine cx hA [0,1] p10 ?_|refine cox hA [0,1] p11 ?_|refine cx hA [0,1] p11 ?_|refine cox hA [0,1] p12 ?_|refine cx hA [0,1] p12 ?_|refine cox hA [0,1] p13 ?_|refine cx hA [0,1] p13 ?_|refine j3 hA _ h0 rfl ?_|refine j4 hA _ h0 ?_|refine K4 hA _ h0 rfl ?_|refine j3 hA _ h1 rfl ?_|refine j4 hA _ h1 ?_|refine K4 hA _ h1 rfl ?_|refine j3 hA _ h2 rfl ?_|refine j4 hA _ h2 ?_|refine K4 hA _ h2 rfl ?_|refine j3 hA _ h3 rfl ?_|refine j4 hA _ h3 ?_|refine K4 hA _ h3 rfl ?_|refine j3 hA _ h4 rfl ?_|refine j4 hA _ h4 ?_|refine K4 hA _ h4 rfl ?_|refine j3 hA _ h5 rfl ?_|refine j4 hA _ h5 ?_|refine K4 hA _ h5 rfl ?_|refine j3 hA _ h6 rfl ?_|refine j4 hA _ h6 ?_|refine K4 hA _ h6 rfl ?_|refine j3 hA _ h7 rfl ?_|refine j4 hA _ h7 ?_|refine K4 hA _ h7 rfl ?_|refine j3 hA _ h8 rfl ?_|refine j4 hA _ h8 ?_|refine K4 hA _ h8 rfl ?_|refine j3 hA _ h9 rfl ?_|refine j4 hA _ h9 ?_|refine K4 hA _ h9 rfl ?_|refine j3 hA _ h10 rfl ?_|refine j4 hA _ h10 ?_|refine K4 hA _ h10 rfl ?_|refine j3 hA _ h11 rfl ?_|refine j4 hA _ h11 ?_|refine K4 hA _ h11 rfl ?_|refine rdx hA [] o0 ?_|refine rdq hA [] o0 ?_|refine rdx hA [] o1 ?_|refine rdq hA [] o1 ?_|refine rdx hA [] o2 ?_|refine rdq hA [] o2 ?_|refine rdx hA [] o3 ?_|refine rdq hA [] o3 ?_|refine a3I hA (a1a (ks:=[]) o0 ⟨rfl,rfl,rfl,rfl,rfl,rfl,rfl⟩ rfl) ?_|refine a3I hA (a1a (ks:=[]) o1 ⟨rfl,rfl,rfl,rfl,rfl,rfl,rfl⟩ rfl) ?_|refine a3I hA (a1a (ks:=[]) o2 ⟨rfl,rfl,rfl,rfl,rfl,rfl,rfl⟩ rfl) ?_|refine a3I hA (a1a (ks:=[]) o3 ⟨rfl,rfl,rfl,rfl,rfl,rfl,rfl⟩ rfl) ?_|refine rdx hA [1] r0 ?_|refine rdq hA [1] r0 ?_|refine rdx hA [1] r1 ?_|refine rdq hA [1] r1 ?_|refine rdx hA [1] r2 ?_|refine rdq hA [1] r2 ?_|refine cox hA [1] t0 ?_|refine y7 hA true ?_|refine a3e hA true ?_|(refine y9 hA (by first|(simp only[List.length_cons,List.length_nil];omega)|omega) ?_)|(show vv _ _ _;refine c0B hA (n:=12) rfl [0,2,4,6,8,10] (by kernel_rfl) _ (by intro K hk;exact fin) ?_)|(show vv _ _ _;refine c0B hA (n:=11) rfl [0,3,4,5] (by kernel_rfl) _ (by intro K hk;exact fin) ?_));cbv)|with_reducible apply And.intro))
  all_goals try first|(exact hK _ rfl;done)|exact r7 hA [0,1] ⟨rfl,rfl,rfl,rfl,rfl,rfl,rfl,rfl⟩ ⟨rfl,rfl⟩|(refine⟨_,hi,hm,?_⟩;cbv)):p:=h
theorem wk {f:Nat} {fn:Func} {c:Code} {rs q:List R} (hf:Tryz.prog.funcs[f]?=some fn) (hb:fn.body=some c) (hn:(fn.name != "runtime.NumGoroutine")=true:=by kernel_rfl) (hc:y6 Tryz.prog c=true:=by kernel_rfl) (hr:Q8 fn.results.toList=true:=by kernel_rfl)
  (h:∀qa qb qc qd qe qf qg qh qi qj qk ql qm qo qp qq qt qu qv qw qx qy qz va vc vd ve vf vg vh vj vk vl vm vn vo vp vq vr vt vu vv vw,Ar.mk qa qb qc qd qe qf qg qh qi qj qk ql qm qo qp qq qt qu qv qw qx qy qz va vc vd ve vf vg vh vj vk vl vm vn vo vp vq vr vt vu vv vw=j1->B7 (Ar.mk qa qb qc qd qe qf qg qh qi qj qk ql qm qo qp qq qt qu qv qw qx qy qz va vc vd ve vf vg vh vj vk vl vm vn vo vp vq vr vt vu vv vw) c (a2N rs (fn.ntmps - G5 rs)) (λx s=>b6S (Ar.mk qa qb qc qd qe qf qg qh qi qj qk ql qm qo qp qq qt qu qv qw qx qy qz va vc vd ve vf vg vh vj vk vl vm vn vo vp vq vr vt vu vv vw) fn.results.toList q x s):=by
  intro _ _ _ _ _ _ _ _ _ _ _ _ _ _ _ _ _ _ _ _ _ _ _ _ _ _ _ _ _ _ _ _ _ _ _ _ _ _ _ _ _ vv _ hA
  exact fin):j5 f rs q:=a5q hf hb hn hc hr h
end
section
theorem a2g {b c:ByteArray} (h:c=b):(some (R.one (D.sc (.string c)))=some (R.one (D.sc (.string b))))/\True:=⟨by rw[h],trivial⟩
theorem U0 (l:List UInt8):(⟨⟨l⟩⟩:ByteArray).size=l.length:=rfl
def rkM (op:Int) (nm:ByteArray):Int :=
 if op=35\/op=36\/op=38\/op=39 then 0 else if op=40 then (if nm=⟨⟨[60]⟩⟩\/nm=⟨⟨[61,61]⟩⟩ then 0 else if nm=⟨⟨[43]⟩⟩\/nm=⟨⟨[45]⟩⟩ then 1 else 2)
 else if op=37 then 3 else if op=46\/op=47 then 4 else if op=43\/op=44 then 5 else 6
theorem c0C (op:Int) (nm:ByteArray):0<=rkM op nm/\rkM op nm<=6:=by
 unfold rkM
 repeat (first|omega|split)
section
variable {op:Int} {nm:ByteArray} {d2 d3 d4 d5 d6 d7 d8 d9:D}
theorem b5u:j5 45 [.ag [.sc (.int .u8 op),.sc (.string nm),d2,d3,d4,d5,d6,d7,d8,d9]] [.one (.sc (.int .i64 (rkM op nm)))]:=by
 by_cases h40:op=40
 ·subst h40;obtain⟨r,hr⟩:∃r,r=rkM 40 nm:=⟨_,rfl⟩;rw[<-hr];unfold rkM at hr;rw[if_neg (by decide),if_pos rfl] at hr;refine C2 Tryz.func45 rfl λqa qb qc qd qe qf qg qh qi qj qk ql qm qo qp qq qt qu qv qw qx qy qz va vc vd ve vf vg vh vj vk vl vm vn vo vp vq vr vt vu vv vw hA=>?_
  obtain⟨s1,s2,s3,s4,s5,s6,-⟩:=o8 hA;have q0:=(l7 hA).2.2.2.2.2.2.2.2
  by_cases h1:nm=⟨⟨[60]⟩⟩
  ·rw[if_pos (.inl h1)] at hr;rw[hr,h1];have q1:=esr (x:=⟨⟨[60]⟩⟩) hA;cbv;exact fr
  have q1:ql (qo nm) (qo ⟨⟨[60]⟩⟩)=false:=by rw[s1,s3,s3,ByteArray.toList_eq,ByteArray.toList_eq];exact beq_false_of_ne λe=>h1 (a3K e)
  by_cases h2:nm=⟨⟨[61,61]⟩⟩
  ·rw[if_pos (.inr h2)] at hr;rw[hr];rw[h2] at q1 ⊢;have q2:=esr (x:=⟨⟨[61,61]⟩⟩) hA;cbv;exact fr
  have q2:ql (qo nm) (qo ⟨⟨[61,61]⟩⟩)=false:=by rw[s1,s3,s3,ByteArray.toList_eq,ByteArray.toList_eq];exact beq_false_of_ne λe=>h2 (a3K e)
  rw[if_neg (by rintro (h|h);exact h1 h;exact h2 h)] at hr
  by_cases h3:nm=⟨⟨[43]⟩⟩
  ·rw[if_pos (.inl h3)] at hr;rw[hr];rw[h3] at q1 q2 ⊢;have q3:=esr (x:=⟨⟨[43]⟩⟩) hA;cbv;exact fr
  have q3:ql (qo nm) (qo ⟨⟨[43]⟩⟩)=false:=by rw[s1,s3,s3,ByteArray.toList_eq,ByteArray.toList_eq];exact beq_false_of_ne λe=>h3 (a3K e)
  by_cases h4:nm=⟨⟨[45]⟩⟩
  ·rw[if_pos (.inr h4)] at hr;rw[hr];rw[h4] at q1 q2 q3 ⊢;have q4:=esr (x:=⟨⟨[45]⟩⟩) hA;cbv;exact fr
  have q4:ql (qo nm) (qo ⟨⟨[45]⟩⟩)=false:=by rw[s1,s3,s3,ByteArray.toList_eq,ByteArray.toList_eq];exact beq_false_of_ne λe=>h4 (a3K e)
  rw[if_neg (by rintro (h|h);exact h3 h;exact h4 h)] at hr;rw[hr];cbv;exact fr
 ·by_cases h:op=35\/op=36\/op=38\/op=39\/op=37\/op=46\/op=47\/op=43\/op=44
  ·obtain⟨r,hr⟩:∃r,r=rkM op nm:=⟨_,rfl⟩;rw[<-hr];unfold rkM at hr;rw[if_neg h40] at hr
   rcases h with rfl|rfl|rfl|rfl|rfl|rfl|rfl|rfl|rfl
   all_goals
    rw[show r=_ from hr];refine C2 Tryz.func45 rfl λqa qb qc qd qe qf qg qh qi qj qk ql qm qo qp qq qt qu qv qw qx qy qz va vc vd ve vf vg vh vj vk vl vm vn vo vp vq vr vt vu vv vw hA=>?_
    have q0:=(l7 hA).2.2.2.2.2.2.2.2;cbv;exact fr
  ·rw[show rkM op nm=6 by unfold rkM;rw[if_neg (by omega),if_neg h40,if_neg (by omega),if_neg (by omega),if_neg (by omega)]];refine C2 Tryz.func45 rfl λqa qb qc qd qe qf qg qh qi qj qk ql qm qo qp qq qt qu qv qw qx qy qz va vc vd ve vf vg vh vj vk vl vm vn vo vp vq vr vt vu vv vw hA=>?_
   have q0:=eb hA (beq_false_of_ne (show op≠35 by omega));have q1:=eb hA (beq_false_of_ne (show op≠36 by omega));have q2:=eb hA (beq_false_of_ne (show op≠38 by omega));have q3:=eb hA (beq_false_of_ne (show op≠39 by omega));have q4:=eb hA (beq_false_of_ne (show op≠40 by omega));have q5:=eb hA (beq_false_of_ne (show op≠37 by omega));have q6:=eb hA (beq_false_of_ne (show op≠46 by omega));have q7:=eb hA (beq_false_of_ne (show op≠47 by omega));have q8:=eb hA (beq_false_of_ne (show op≠43 by omega));have q9:=eb hA (beq_false_of_ne (show op≠44 by omega));cbv;exact fr
end
end
end Go.Proofs.YtncijebklnbhlaaGreatDoor.Vm
end
section
namespace Go.Proofs
open Go.Shelf
open Go.RowKit in
def Tryz.lays156_ren:Go.Shelf.Ren:=⟨fun|156=>83|165=>99|166=>94|169=>82|240=>102|241=>104|276=>110|277=>111|n=>n,fun|31=>48|9=>9|3=>3|4=>4|0=>0|20=>20|72=>101|76=>115|70=>99|37=>54|75=>114|127=>118|164=>129|5=>5|80=>105|n=>n,fun|n=>n⟩
theorem Tryz.lays156:Go.Proofs.Lays.n156 Tryz.prog Tryz.lays156_ren:={
 mixed:=by kernel_rfl
 f156:=Tryz.func83.trans (congrArg some (by kernel_rfl))
 f165:=Tryz.func99.trans (congrArg some (by kernel_rfl))
 f166:=Tryz.func94.trans (congrArg some (by kernel_rfl))
 f169:=Tryz.func82.trans (congrArg some (by kernel_rfl))
 f240:=Tryz.func102.trans (congrArg some (by kernel_rfl))
 f241:=Tryz.func104.trans (congrArg some (by kernel_rfl))
 f276:=Tryz.func110.trans (congrArg some (by kernel_rfl))
 f277:=Tryz.func111.trans (congrArg some (by kernel_rfl))
 t0:=Tryz.underlying0
 a0:=Tryz.isAgg0
 z0:=Tryz.sizeOf0
 v0:=Tryz.zeroValue0
 t3:=Tryz.underlying3
 a3:=Tryz.isAgg3
 z3:=Tryz.sizeOf3
 v3:=Tryz.zeroValue3
 t4:=Tryz.underlying4
 a4:=Tryz.isAgg4
 z4:=Tryz.sizeOf4
 v4:=Tryz.zeroValue4
 t9:=Tryz.underlying9
 a9:=Tryz.isAgg9
 z9:=Tryz.sizeOf9
 v9:=Tryz.zeroValue9
 t20:=Tryz.underlying20
 a20:=Tryz.isAgg20
 z20:=Tryz.sizeOf20
 v20:=Tryz.zeroValue20
 t31:=Tryz.underlying48
 a31:=Tryz.isAgg48
 z31:=Tryz.sizeOf48
 v31:=Tryz.zeroValue48
 t37:=Tryz.underlying54
 a37:=Tryz.isAgg54
 z37:=Tryz.sizeOf54
 v37:=Tryz.zeroValue54
 t70:=Tryz.underlying99
 a70:=Tryz.isAgg99
 z70:=Tryz.sizeOf99
 v70:=Tryz.zeroValue99
 t72:=Tryz.underlying101
 a72:=Tryz.isAgg101
 z72:=Tryz.sizeOf101
 v72:=Tryz.zeroValue101
 t75:=Tryz.underlying114
 a75:=Tryz.isAgg114
 z75:=Tryz.sizeOf114
 v75:=Tryz.zeroValue114
 t76:=Tryz.underlying115
 a76:=Tryz.isAgg115
 z76:=Tryz.sizeOf115
 v76:=Tryz.zeroValue115
 t127:=Tryz.underlying118
 a127:=Tryz.isAgg118
 z127:=Tryz.sizeOf118
 v127:=Tryz.zeroValue118
 t164:=Tryz.underlying129
 a164:=Tryz.isAgg129
 z164:=Tryz.sizeOf129
 v164:=Tryz.zeroValue129 }
theorem Tryz.Builder_Extra_156:Builder.Extra Tryz.prog Tryz.lays156_ren:={
 sizeBuilder:=by kernel_rfl
 liesBuilder:=by kernel_rfl
 t5:=Tryz.underlying5
 a5:=Tryz.isAgg5
 z5:=Tryz.sizeOf5
 v5:=Tryz.zeroValue5
 infoByte:=by kernel_rfl
 cellsByte:=by kernel_rfl
 sizeByte:=by kernel_rfl
 neB5:=by decide }
open Go.RowKit in
theorem Tryz.strings_Join (bk o c:Nat) (xs:List ByteArray) (sep:ByteArray) (w:World) (hcells:∀(j:Nat) x,xs[j]?=some x->w.cell? ⟨bk,o+j,none⟩=some (.string x)) (hbk:bk<w.heap.size) (hN:xs.length<=140737488355328) (hcap:xs.length<=c) (hlen:(Lib.join (xs.map (·.data.toList)) sep.data.toList).length<=140737488355328) :
  Calls Tryz.prog 83 #[.slice (some ⟨bk,o,none⟩) xs.length c,.string sep] w λe w'=>e=.returned (.string ⟨(Lib.join (xs.map (·.data.toList)) sep.data.toList).toArray⟩)/\Below w.heap.size w w':=Any.strings_Join Tryz.lays156 Tryz.Builder_Extra_156 bk o c xs sep w hcells hbk hN hcap hlen
def Tryz.lays121_ren:Go.Shelf.Ren:=⟨fun|121=>23|214=>43|n=>n,fun|4=>4|9=>9|n=>n,fun|n=>n⟩
theorem Tryz.lays121:Go.Proofs.Lays.n121 Tryz.prog Tryz.lays121_ren:={
 mixed:=by kernel_rfl
 f121:=Tryz.func23.trans (congrArg some (by kernel_rfl))
 f214:=Tryz.func43.trans (congrArg some (by kernel_rfl))
 t4:=Tryz.underlying4
 a4:=Tryz.isAgg4
 z4:=Tryz.sizeOf4
 v4:=Tryz.zeroValue4
 t9:=Tryz.underlying9
 a9:=Tryz.isAgg9
 z9:=Tryz.sizeOf9
 v9:=Tryz.zeroValue9 }
open Go.RowKit in
theorem Tryz.strconv_FormatBool (b:Bool) (w:World) :
  Calls Tryz.prog 23 #[.bool b] w λe w'=>e=.returned (.string ⟨(Lib.formatBool b).toArray⟩)/\w'=w:=Any.strconv_FormatBool Tryz.lays121 b w
def Tryz.laysM171_ren:Go.Shelf.Ren:=⟨fun|171=>96|243=>103|246=>42|283=>60|284=>61|285=>62|286=>63|129=>76|317=>75|318=>77|319=>78|320=>79|337=>92|338=>93|n=>n,fun|3=>3|9=>9|2=>2|4=>4|171=>75|0=>0|53=>76|37=>54|5=>5|173=>79|212=>93|51=>94|20=>20|213=>95|46=>97|232=>121|233=>122|n=>n,fun|17=>0|18=>1|19=>2|n=>n⟩
theorem Tryz.laysM171:Go.Proofs.LaysM.n171 Tryz.prog Tryz.laysM171_ren:={
 mixed:=by kernel_rfl
 f129:=Tryz.func76.trans (congrArg some (by kernel_rfl))
 f171:=Tryz.func96.trans (congrArg some (by kernel_rfl))
 f243:=Tryz.func103.trans (congrArg some (by kernel_rfl))
 f246:=Tryz.func42.trans (congrArg some (by kernel_rfl))
 f283:=Tryz.func60.trans (congrArg some (by kernel_rfl))
 f284:=Tryz.func61.trans (congrArg some (by kernel_rfl))
 f285:=Tryz.func62.trans (congrArg some (by kernel_rfl))
 f286:=Tryz.func63.trans (congrArg some (by kernel_rfl))
 f317:=Tryz.func75.trans (congrArg some (by kernel_rfl))
 f318:=Tryz.func77.trans (congrArg some (by kernel_rfl))
 f319:=Tryz.func78.trans (congrArg some (by kernel_rfl))
 f320:=Tryz.func79.trans (congrArg some (by kernel_rfl))
 f337:=Tryz.func92.trans (congrArg some (by kernel_rfl))
 f338:=Tryz.func93.trans (congrArg some (by kernel_rfl))
 t0:=Tryz.underlying0
 a0:=Tryz.isAgg0
 z0:=Tryz.sizeOf0
 v0:=Tryz.zeroValue0
 t2:=Tryz.underlying2
 a2:=Tryz.isAgg2
 z2:=Tryz.sizeOf2
 v2:=Tryz.zeroValue2
 t3:=Tryz.underlying3
 a3:=Tryz.isAgg3
 z3:=Tryz.sizeOf3
 v3:=Tryz.zeroValue3
 t4:=Tryz.underlying4
 a4:=Tryz.isAgg4
 z4:=Tryz.sizeOf4
 v4:=Tryz.zeroValue4
 t5:=Tryz.underlying5
 a5:=Tryz.isAgg5
 z5:=Tryz.sizeOf5
 v5:=Tryz.zeroValue5
 t9:=Tryz.underlying9
 a9:=Tryz.isAgg9
 z9:=Tryz.sizeOf9
 v9:=Tryz.zeroValue9
 t20:=Tryz.underlying20
 a20:=Tryz.isAgg20
 z20:=Tryz.sizeOf20
 v20:=Tryz.zeroValue20
 t37:=Tryz.underlying54
 a37:=Tryz.isAgg54
 z37:=Tryz.sizeOf54
 v37:=Tryz.zeroValue54
 t46:=Tryz.underlying97
 a46:=Tryz.isAgg97
 z46:=Tryz.sizeOf97
 v46:=Tryz.zeroValue97
 t51:=Tryz.underlying94
 a51:=Tryz.isAgg94
 z51:=Tryz.sizeOf94
 v51:=Tryz.zeroValue94
 t53:=Tryz.underlying76
 a53:=Tryz.isAgg76
 z53:=Tryz.sizeOf76
 v53:=Tryz.zeroValue76
 t171:=Tryz.underlying75
 a171:=Tryz.isAgg75
 z171:=Tryz.sizeOf75
 v171:=Tryz.zeroValue75
 t173:=Tryz.underlying79
 a173:=Tryz.isAgg79
 z173:=Tryz.sizeOf79
 v173:=Tryz.zeroValue79
 t212:=Tryz.underlying93
 a212:=Tryz.isAgg93
 z212:=Tryz.sizeOf93
 v212:=Tryz.zeroValue93
 t213:=Tryz.underlying95
 a213:=Tryz.isAgg95
 z213:=Tryz.sizeOf95
 t232:=Tryz.underlying121
 a232:=Tryz.isAgg121
 z232:=Tryz.sizeOf121
 v232:=Tryz.zeroValue121
 t233:=Tryz.underlying122
 a233:=Tryz.isAgg122
 z233:=Tryz.sizeOf122
 v233:=Tryz.zeroValue122
 g17:=by kernel_rfl
 g18:=by kernel_rfl
 g19:=by kernel_rfl
 i0:=by kernel_rfl
 i2:=by kernel_rfl
 i3:=by kernel_rfl
 i4:=by kernel_rfl
 i5:=by kernel_rfl
 i9:=by kernel_rfl
 i20:=by kernel_rfl
 i37:=by kernel_rfl
 i46:=by kernel_rfl
 i51:=by kernel_rfl
 i53:=by kernel_rfl
 i171:=by kernel_rfl
 i173:=by kernel_rfl
 i212:=by kernel_rfl
 i232:=by kernel_rfl
 i233:=by kernel_rfl
 m17:=by kernel_rfl
 m18:=by kernel_rfl
 m19:=by kernel_rfl }
open Go.RowKit Go.Sort Go.Lib in
theorem Tryz.strconv_Itoa (n:Int) (h0:-9223372036854775808<=n) (h1:n<=9223372036854775807) (w:World) (htab:Lib.TabIs Tryz.prog w "internal/strconv.uint64pow10" .u64 Lib.pow10Tab) :
  Calls Tryz.prog 96 #[.int .i64 n] w λe w'=>e=.returned (.string ⟨(Lib.itoa n).toArray⟩)/\∃k os,w'=grow (w.drewN k) os:=Any.strconv_Itoa Tryz.laysM171 n h0 h1 w htab
def Tryz.laysM173_ren:Go.Shelf.Ren:=⟨fun|173=>22|246=>42|283=>60|284=>61|285=>62|286=>63|129=>76|317=>75|318=>77|319=>78|320=>79|337=>92|338=>93|n=>n,fun|2=>2|3=>3|9=>9|4=>4|171=>75|0=>0|53=>76|37=>54|5=>5|173=>79|212=>93|51=>94|20=>20|213=>95|46=>97|232=>121|233=>122|n=>n,fun|17=>0|18=>1|19=>2|n=>n⟩
theorem Tryz.laysM173:Go.Proofs.LaysM.n173 Tryz.prog Tryz.laysM173_ren:={
 mixed:=by kernel_rfl
 f129:=Tryz.func76.trans (congrArg some (by kernel_rfl))
 f173:=Tryz.func22.trans (congrArg some (by kernel_rfl))
 f246:=Tryz.func42.trans (congrArg some (by kernel_rfl))
 f283:=Tryz.func60.trans (congrArg some (by kernel_rfl))
 f284:=Tryz.func61.trans (congrArg some (by kernel_rfl))
 f285:=Tryz.func62.trans (congrArg some (by kernel_rfl))
 f286:=Tryz.func63.trans (congrArg some (by kernel_rfl))
 f317:=Tryz.func75.trans (congrArg some (by kernel_rfl))
 f318:=Tryz.func77.trans (congrArg some (by kernel_rfl))
 f319:=Tryz.func78.trans (congrArg some (by kernel_rfl))
 f320:=Tryz.func79.trans (congrArg some (by kernel_rfl))
 f337:=Tryz.func92.trans (congrArg some (by kernel_rfl))
 f338:=Tryz.func93.trans (congrArg some (by kernel_rfl))
 t0:=Tryz.underlying0
 a0:=Tryz.isAgg0
 z0:=Tryz.sizeOf0
 v0:=Tryz.zeroValue0
 t2:=Tryz.underlying2
 a2:=Tryz.isAgg2
 z2:=Tryz.sizeOf2
 v2:=Tryz.zeroValue2
 t3:=Tryz.underlying3
 a3:=Tryz.isAgg3
 z3:=Tryz.sizeOf3
 v3:=Tryz.zeroValue3
 t4:=Tryz.underlying4
 a4:=Tryz.isAgg4
 z4:=Tryz.sizeOf4
 v4:=Tryz.zeroValue4
 t5:=Tryz.underlying5
 a5:=Tryz.isAgg5
 z5:=Tryz.sizeOf5
 v5:=Tryz.zeroValue5
 t9:=Tryz.underlying9
 a9:=Tryz.isAgg9
 z9:=Tryz.sizeOf9
 v9:=Tryz.zeroValue9
 t20:=Tryz.underlying20
 a20:=Tryz.isAgg20
 z20:=Tryz.sizeOf20
 v20:=Tryz.zeroValue20
 t37:=Tryz.underlying54
 a37:=Tryz.isAgg54
 z37:=Tryz.sizeOf54
 v37:=Tryz.zeroValue54
 t46:=Tryz.underlying97
 a46:=Tryz.isAgg97
 z46:=Tryz.sizeOf97
 v46:=Tryz.zeroValue97
 t51:=Tryz.underlying94
 a51:=Tryz.isAgg94
 z51:=Tryz.sizeOf94
 v51:=Tryz.zeroValue94
 t53:=Tryz.underlying76
 a53:=Tryz.isAgg76
 z53:=Tryz.sizeOf76
 v53:=Tryz.zeroValue76
 t171:=Tryz.underlying75
 a171:=Tryz.isAgg75
 z171:=Tryz.sizeOf75
 v171:=Tryz.zeroValue75
 t173:=Tryz.underlying79
 a173:=Tryz.isAgg79
 z173:=Tryz.sizeOf79
 v173:=Tryz.zeroValue79
 t212:=Tryz.underlying93
 a212:=Tryz.isAgg93
 z212:=Tryz.sizeOf93
 v212:=Tryz.zeroValue93
 t213:=Tryz.underlying95
 a213:=Tryz.isAgg95
 z213:=Tryz.sizeOf95
 t232:=Tryz.underlying121
 a232:=Tryz.isAgg121
 z232:=Tryz.sizeOf121
 v232:=Tryz.zeroValue121
 t233:=Tryz.underlying122
 a233:=Tryz.isAgg122
 z233:=Tryz.sizeOf122
 v233:=Tryz.zeroValue122
 g17:=by kernel_rfl
 g18:=by kernel_rfl
 g19:=by kernel_rfl
 i0:=by kernel_rfl
 i2:=by kernel_rfl
 i3:=by kernel_rfl
 i4:=by kernel_rfl
 i5:=by kernel_rfl
 i9:=by kernel_rfl
 i20:=by kernel_rfl
 i37:=by kernel_rfl
 i46:=by kernel_rfl
 i51:=by kernel_rfl
 i53:=by kernel_rfl
 i171:=by kernel_rfl
 i173:=by kernel_rfl
 i212:=by kernel_rfl
 i232:=by kernel_rfl
 i233:=by kernel_rfl
 m17:=by kernel_rfl
 m18:=by kernel_rfl
 m19:=by kernel_rfl }
open Go.RowKit Go.Sort Go.Lib in
theorem Tryz.strconv_FormatInt_10 (n:Int) (h0:-9223372036854775808<=n) (h1:n<=9223372036854775807) (w:World) (htab:Lib.TabIs Tryz.prog w "internal/strconv.uint64pow10" .u64 Lib.pow10Tab) :
  Calls Tryz.prog 22 #[.int .i64 n,.int .i64 10] w λe w'=>e=.returned (.string ⟨(Lib.itoa n).toArray⟩)/\∃k os,w'=grow (w.drewN k) os:=Any.strconv_FormatInt_10 Tryz.laysM173 n h0 h1 w htab
end Go.Proofs
end
section
namespace Go.Proofs.YtncijebklnbhlaaGreatDoor.Vm
open Go.RowKit
set_option maxRecDepth 100000
set_option maxHeartbeats 4000000
theorem b7k:("internal/strconv.uint64pow10",IntKind.u64,Lib.pow10Tab)∈tabsOf:=by
 rw[show Lib.pow10Tab=_ from(by decide:Lib.pow10Tab=[1,10,100,1000,10000,100000,1000000,10000000,100000000,1000000000,10000000000,100000000000,1000000000000,10000000000000,100000000000000,1000000000000000,10000000000000000,100000000000000000,1000000000000000000,10000000000000000000])];unfold tabsOf
 simp
theorem b1t (n:Int) (h0:-9223372036854775808<=n) (h1:n<=9223372036854775807):j5 22 [.one (.sc (.int .i64 n)),.one (.sc (.int .i64 10))] [.one (.sc (.string ⟨(Lib.itoa n).toArray⟩))]:=by
 refine⟨by kernel_rfl,λI w args hI hat=>?_⟩
 match args,hat with
 | [v1,v2],⟨h2,h3,_⟩ =>
  have h2:AtD I w v1 (.sc (.int .i64 n)):=h2;have h3:AtD I w v2 (.sc (.int .i64 10)):=h3;cases h2;cases h3;refine(Tryz.strconv_FormatInt_10 n h0 h1 w (hI.2 _ b7k).1).mono ?_
  rintro e w' ⟨rfl,k,os,rfl⟩
  exact⟨_,rfl,.sc _ rfl,⟨rfl,rfl,rfl,by simp[Sort.grow,World.drewN],λk hk=>by simp[Sort.grow,World.drewN,Array.getElem?_append,hk]⟩⟩
theorem b2G (b:Bool):j5 23 [.one (.sc (.bool b))] [.one (.sc (.string ⟨(Lib.formatBool b).toArray⟩))]:=by
 refine⟨by kernel_rfl,λI w args hI hat=>?_⟩
 match args,hat with
 | [v1],⟨h2,_⟩ =>
  have h2:AtD I w v1 (.sc (.bool b)):=h2;cases h2;refine(Tryz.strconv_FormatBool b w).mono ?_
  rintro e w' ⟨rfl,rfl⟩
  exact⟨_,rfl,.sc _ rfl,Below.refl _ _⟩
def E8 (ss:List ByteArray) (sep:ByteArray):ByteArray:=⟨(Lib.join (ss.map (·.data.toList)) sep.data.toList).toArray⟩
theorem M8 (s sep:ByteArray):E8 [s] sep=s:=by
 unfold E8
 apply ByteArray.ext
 apply Array.ext'
 simp[Lib.join]
theorem L5 (s u sep:ByteArray) (ss:List ByteArray):E8 (s::u::ss) sep=s++sep++E8 (u::ss) sep:=by
 unfold E8
 apply ByteArray.ext
 apply Array.ext'
 simp[Lib.join,ByteArray.data_append]
theorem b7l (s:ByteArray) (ss:List ByteArray) (sep:ByteArray) (hl:(E8 (s::ss) sep).size<=140737488355328) (hn:(s::ss).length<=1048576) :
  j5 83 [.one (.sl 1 (rS (s::ss))),.one (.sc (.string sep))] [.one (.sc (.string (E8 (s::ss) sep)))]:=by
 obtain⟨L,hL⟩:∃L,L=s::ss:=⟨_,rfl⟩;have h0:L≠[]:=by rw[hL];simp
 rw[<-hL] at hl hn ⊢;clear hL;have hl:(Lib.join (L.map (·.data.toList)) sep.data.toList).length<=140737488355328:=hl;refine⟨by kernel_rfl,λI w args hI hat=>?_⟩
 match args,hat with
 | [v1,v2],⟨h1,h2,_⟩ =>
  have h1:AtD I w v1 (.sl 1 (rS L)):=h1;have h2:AtD I w v2 (.sc (.string sep)):=h2;cases h2;generalize hr:rS L=rows at h1;cases h1 with
  | nil A cap =>
   cases L with
   | nil=>exact absurd rfl h0
   | cons a l=>simp[rS] at hr
  | sl b off cap _ _ us hcap hU hrl hl2 hc hd =>
   have hlen:rows.length=L.length:=by rw[<-hr,a6y]
   have hul:us.length=L.length:=by rw[hl2,hlen,Nat.mul_one]
   have hcells:∀(j:Nat) x,L[j]?=some x->w.cell? ⟨b,off+j,none⟩=some (.string x):=λj x hx=>by
    have hj:j<us.length:=by rw[hul];exact(List.getElem?_eq_some_iff.1 hx).1
    obtain⟨u,hu⟩:∃u,us[j]?=some u:=⟨_,List.getElem?_eq_getElem hj⟩;have hdj:=hd j u (.sc (.string x)) hu (by rw[<-hr,b23,hx];rfl);rw[hc j _ hu];cases hdj;rfl
   have hb:b<w.heap.size:=by obtain⟨k,_,hk⟩:=hU;exact hI.1 b k hk
   have h3:=Tryz.strings_Join b off cap L sep w hcells hb (by omega) (by rw[<-hlen];exact hcap) hl;rw[<-hlen] at h3;refine h3.mono ?_
   rintro e w' ⟨rfl,hbel⟩
   exact⟨_,rfl,.sc _ rfl,hbel⟩
theorem b2H (s:ByteArray) (ss:List ByteArray) (sep:ByteArray) (hl:(E8 (s::ss) sep).size<=140737488355328) (hn:(s::ss).length<=1048576) :
  j5 65 [.one (.sc (.string sep)),.one (.sl 1 (rS (s::ss)))] [.one (.sc (.string (E8 (s::ss) sep)))]:=by
 have h0:=b7l s ss sep hl hn;generalize E8 (s::ss) sep=J at *;generalize rS (s::ss)=L at *;refine C2 Tryz.func65 rfl ?_;intros;rename_i hA;cbv;exact fr
section
theorem b2I (b:Nat) (w:World) (h0:w.cell? ⟨b,0,none⟩=some (.pointer (some ⟨b,0,none⟩))) :
  Calls Tryz.prog 102 #[.pointer (some ⟨b,0,none⟩)] w λe w'=>e=.returned (.tuple #[])/\w'=w:=by
 obtain⟨j,hj,_⟩:=Option.map_eq_some_iff.1 (show (Tryz.prog.info? 101).map (·.size)=some 2 by kernel_rfl)
 go_enter Tryz.func102,Tryz.ntmps102
 go_wp2
 rw[Lib.run_neq_ptr_same w _ Tryz.underlying99 hj]
 go_wp2
 go_end0
 exact⟨rfl,rfl⟩
theorem b0b (T b:Nat) (hlies:liesAt Tryz.prog Tryz.prog.depth T (2 / Tryz.prog.cellsOf T) 0 101 1=true) (w:World) (h0:w.cell? ⟨b,0,none⟩=some (.pointer none)) (hsh:w.shape? b=some (T,2)) (hfz:w.frozen? ⟨b,0,none⟩=false) :
  Calls Tryz.prog 102 #[.pointer (some ⟨b,0,none⟩)] w λe w'=>e=.returned (.tuple #[])/\w'=w.setCell ⟨b,0,none⟩ (.pointer (some ⟨b,0,none⟩)):=by
 obtain⟨j,hj,hjs⟩:=Option.map_eq_some_iff.1 (show (Tryz.prog.info? 101).map (·.size)=some 2 by kernel_rfl)
 go_enter Tryz.func102,Tryz.ntmps102
 go_wp2
 rw[Lib.run_to_unsafe w ⟨b,0,none⟩ Tryz.underlying99 Tryz.underlying129 hj (by rw[hjs];decide) hsh (Nat.zero_lt_succ 1)];simp only[Result.andThen];rw[Oper.upon_value]
 go_wp2
 rw[run_callFunc_extern Tryz.func110 (by kernel_rfl) (by kernel_rfl) (by kernel_rfl) (e:=Extern.AbiNoEscape.same) (by kernel_rfl)];rw[Lib.run_noEscape];simp only[Result.andThen];rw[Oper.upon_value]
 go_wp2
 rw[Lib.run_from_unsafe w ⟨b,0,none⟩ Tryz.underlying129 Tryz.underlying99 hj hsh hlies];simp only[Result.andThen];rw[Oper.upon_value]
 go_wp2
 go_end0
 exact⟨rfl,rfl⟩
section
variable {I0:Nat->Nat->Prop} {X:Nat->Prop} {w0:W0} {I:Nat->Nat->Prop} {g:Nat->Value} {s:S} {a:Act} {w:World}
theorem RelI.unob (h:RelI I0 X w0 I g s a w) {k T:Nat} {us:List Value} (hk:s.o[k]?=some (.ob T us)) (h1:a1F (C6 us)=true):RelI I0 X w0 I g ⟨s.t,s.o.set k (.box (C6 us))⟩ a w:=by
 have hlt:=(List.getElem?_eq_some_iff.1 hk).1
 have a0t:∀i,J1 ⟨s.t,s.o.set k (.box (C6 us))⟩ i->J1 s i:=λi hl=>by
  obtain⟨o,ho,hdd⟩:=hl
  by_cases hik:k=i
  ·subst hik;exact⟨_,hk,by simp⟩
  ·simp only[List.getElem?_set_ne hik] at ho;exact⟨o,ho,hdd⟩
 refine⟨h.im,h.lt,h.fr,h.kp,by simp only[List.length_set];exact h.lo,h.st,λi o ho=>?_,λi j b hi hj=>h.dis i j b (a0t i hi) (a0t j hj),λi hi=>h.out i (by simpa using hi),h.tmp,h.dfr⟩
 by_cases hik:k=i
 ·subst hik;simp only[List.getElem?_set_self hlt] at ho;cases ho;obtain⟨b,h2,h3,h4⟩:=h.obj k _ hk;exact⟨b,us,(T,[]),h2,by rw[List.append_nil];exact h3,K8 us,a4O I w g h1,h4⟩
 ·simp only[List.getElem?_set_ne hik] at ho;exact h.obj i o ho
end
def b0c (T:Nat):O:=.ob T [.pointer none,.slice none 0 0]
theorem a3O:a0T Tryz.prog 102=true:=by kernel_rfl
theorem b0d {w:World} {b T:Nat} {us:List Value} (h:w.heap[b]?=some (.cells us.toArray T (0,0))):w.shape? b=some (T,us.length):=by
 unfold World.shape?;rw[h]
 simp
theorem c0D (T:Nat) (hlies:liesAt Tryz.prog Tryz.prog.depth T (2 / Tryz.prog.cellsOf T) 0 101 1=true):B0 102 [.ptr 0 0] [b0c T] (λres os=>res=[]/\os=[.box [.ptr 0 0,.em]]):=by
 refine⟨a3O,λI w g args hrel=>?_⟩;obtain⟨b,hg,hb,hI,hM⟩:=hrel.obj 0 _ rfl;obtain⟨u,us,rfl,hu,hus⟩:=n6.uncons (show n6 I w g args [.ptr 0 0] from hrel.tmp);obtain rfl:=hus.unnil;obtain⟨b',hg',rfl⟩:=hu.unptr;rw[hg] at hg';injection hg' with hg'
 injection hg' with hg'
 injection hg' with hg' _ _
 subst hg';have c0:w.cell? ⟨b,0,none⟩=some (.pointer none):=by rw[Lib.cell_of_heap hb];rfl
 refine(b0b T b hlies w c0 (b0d hb) (Lib.frozen_of_heap hb 0)).mono ?_
 rintro e w' ⟨rfl,rfl⟩
 have h2:=hrel.unob (k:=0) (T:=T) (us:=[.pointer none,.slice none 0 0]) rfl rfl;have hp:n6 I w g [.pointer (some ⟨b,0,none⟩)] [V.ptr 0 0]:=.cons (.ptr 0 0 b hg) (.nil I w g);obtain⟨b2,us2,t2,hg2,hb2,hlen,h3⟩:=h2.store (k:=0) (n:=0) (cs:=[.d (.sc (.pointer none)),.em]) (ds:=[.ptr 0 0]) (r:=[.ptr 0 0,.em]) (vs:=[.pointer (some ⟨b,0,none⟩)]) rfl hp (by simp[Value.oneCell']) rfl;rw[hg] at hg2;injection hg2 with hg2;injection hg2 with hg2;injection hg2 with hg2 _ _;subst hg2;rw[hb] at hb2;injection hb2 with hb2;injection hb2 with e1 e2 _
 have e3:us2=[.pointer none,.slice none 0 0]:=by
  have:=congrArg Array.toList e1
  simpa using this.symm
 subst e3;rw[setCell_eq_setRow w b 0 _ T (0,0) _ hb];refine⟨[],[],_,I,g,rfl,⟨rfl,rfl⟩,⟨h3.im,h3.lt,h3.fr,h3.kp,h3.lo,h3.st,h3.obj,h3.dis,h3.out,.nil _ _ _,rfl,h3.dfr.2⟩⟩
theorem c0E (x:V) (os0:List O):B0 102 [.ptr 0 0] (.box [.ptr 0 0,x]::os0) (λres os=>res=[]/\os=.box [.ptr 0 0,x]::os0):=by
 refine⟨a3O,λI w g args hrel=>?_⟩;obtain⟨b,us,t,hg,hb,hcs,h1,hI,hM⟩:=hrel.obj 0 _ rfl;obtain⟨u,us',rfl,hu,hus⟩:=n6.uncons (show n6 I w g args [.ptr 0 0] from hrel.tmp);obtain rfl:=hus.unnil;obtain⟨b',hg',rfl⟩:=hu.unptr;rw[hg] at hg';injection hg' with hg'
 injection hg' with hg'
 injection hg' with hg' _ _
 subst hg';obtain⟨u0,us0,rfl,hu0,_⟩:=hcs.uncons;obtain⟨b2,hg2,rfl⟩:=hu0.unptr;rw[hg] at hg2;injection hg2 with hg2;injection hg2 with hg2;injection hg2 with hg2 _ _;subst hg2;have c0:w.cell? ⟨b,0,none⟩=some (.pointer (some ⟨b,0,none⟩)):=by rw[Lib.cell_of_heap hb];rfl
 refine(b2I b w c0).mono ?_
 rintro e w' ⟨rfl,rfl⟩
 exact⟨[],[],_,I,g,rfl,⟨rfl,rfl⟩,⟨hrel.im,hrel.lt,hrel.fr,hrel.kp,hrel.lo,hrel.st,hrel.obj,hrel.dis,hrel.out,.nil _ _ _,rfl,hrel.dfr.2⟩⟩
end
def a7R (w:World) (v v':Value) (w':World):Prop:=(∃g,v.ownBlock=some g/\v'.ownBlock=some g/\w.grownBy w' (some g))\/(Below w.heap.size w w'/\(v'.ownBlock=none\/v'.ownBlock=some w.heap.size))
theorem a63 {P:Program} (w:World) (t u ty e:TypeId) (i:TypeInfo) (ht:P.underlying t=some (.slice e)) (hu:P.underlying u=some .string) (hi:P.info? e=some i) (hz:i.zero=some (.int .u8 0)) (hsize:i.size=1) (hby:i.bytes=1)
  (v:Value) (n:Nat) (xs:List Value) (hown:w.ownsRow 0 e 1 v n xs) (s:ByteArray) (h63:n+s.size<=maxLen) (hbytes:n+s.size<=140737488355328) :
  ∃v' w',(Builtin.append_ #[t,u] ty #[v,.string s]).run P w=.ok v' w'/\w'.ownsRow 0 e 1 v' (n+s.size) (xs++Lib.strCells s)/\a7R w v v' w':=by
 obtain⟨v',w',hr,h2,h3,h4⟩:=Lib.run_append_own_string (P:=P) w 0 t u ty e i ht hu hi hz hsize hby v n xs hown s h63 hbytes (Nat.zero_le _);refine⟨v',w',hr,h2,?_⟩;have hxl:xs.length=n:=by simpa using hown.1
 rcases hown.2 with⟨rfl,rfl⟩|⟨g,cap,cur,rfl,hbg,hg,hnc,hcm,hcs,htake⟩
 ·refine .inr ⟨⟨h3.os,h3.tape,h3.output,h3.size,λk hk=>h3.block k hk (by simp[Value.ownBlock])⟩,?_⟩
  by_cases hm:s.size=0
  ·rw[h4.2 ⟨rfl,hm⟩];exact .inl rfl
  ·have hrn:=run_append_nil_string (P:=P) w t u ty e i (.int .u8 0) ht hu hi hz s (by omega) (by unfold maxLen at h63;omega) (by rw[hby];omega);rw[hr] at hrn;injection hrn with e1 e2;rw[e1];exact .inr rfl
 ·by_cases hroom:n+s.size<=cap
  ·have hrr:=Lib.run_append_room_string (P:=P) w t u ty e i ht hu hi hsize g n cap cur hg s hroom (by omega);rw[hr] at hrr;injection hrr with e1 e2;rw[e1];exact .inl ⟨g,rfl,rfl,h3⟩
  ·have holds:∀j u,xs[j]?=some u->w.cell? ((⟨g,0,none⟩:Addr).add j)=some u:=hown.cells (g:=g) rfl;have hrg:=Lib.run_append_grow_string (P:=P) w t u ty e i (.int .u8 0) ht hu hi hz ⟨g,0,none⟩ n cap xs (by rw[hsize];simpa using hxl) holds s (by omega) (by unfold maxLen at h63;omega) (by rw[hby];exact growslice_fits (by omega) (by omega));rw[hr] at hrg;injection hrg with e1 e2;rw[e1,e2];exact .inr ⟨((Below.refl _ _).drew).alloc (Nat.le_refl _) _,.inr rfl⟩
theorem a2P {P:Program} {w:World} {ops:Array Oper} {rest:List Oper} {o:Oper} {a:Act} {Q:Exit->Act->World->Prop} (hgd:o.guard=none) (sl x:Operand) (t u:TypeId)
  (ho:o.op=.call { callee:=.builtin .append,args:=#[sl,x],argTypes:=#[t,u] })
  (e:TypeId) (i:TypeInfo) (ht:P.underlying t=some (.slice e)) (hu:P.underlying u=some .string) (hi:P.info? e=some i) (hz:i.zero=some (.int .u8 0)) (hsize:i.size=1) (hby:i.bytes=1)
  (v:Value) (n:Nat) (xs:List Value) (hs:a.eval sl=v) (hown:w.ownsRow 0 e 1 v n xs) (s:ByteArray) (hx:a.eval x=.string s) (h63:n+s.size<=maxLen) (hbytes:n+s.size<=140737488355328)
  (h:∀v' w',w'.ownsRow 0 e 1 v' (n+s.size) (xs++Lib.strCells s)->a7R w v v' w'->wpList P ops Q rest (a.put o.dst v') w'):wpList P ops Q (o::rest) a w:=by
 refine wpList_plain hgd λK hK=>?_
 obtain⟨v',w',hr,h2,h3⟩:=a63 (P:=P) w t u o.type e i ht hu hi hz hsize hby v n xs hown s h63 hbytes;unfold Oper.wp execOp;simp only[ho,resolve,invoke,builtin,Sem.run_bind,Sem.run_pure,Result.andThen_ok,List.map_toArray,List.map_cons,List.map_nil,hs,hx,hr];exact hK _ _ (h v' w' h2 h3)
theorem a7R.other {w w':World} {v v':Value} (h:a7R w v v' w') {b:Nat} (hb:b<w.heap.size) (hne:v.ownBlock≠some b):w'.heap[b]?=w.heap[b]?:=by
 rcases h with⟨g,h1,h2,h3⟩|⟨h1,_⟩
 ·exact h3.block b hb (by rw[<-h1];exact λe=>hne e.symm)
 ·exact h1.block b hb
theorem G1 {w:World} {b T:Nat} {cur:Array Value} (h:w.heap[b]?=some (.cells cur T (0,0))) (i:Nat):w.cell? ⟨b,i,none⟩=cur[i]?:=by
 unfold World.cell?;rw[h]
 simp
theorem c0F (b T n:Nat) (cur:Array Value) (v:Value) (xs:List Value) (s:ByteArray) (w:World) (hb:w.heap[b]?=some (.cells cur T (0,0))) (k0:cur[0]?=some (.pointer (some ⟨b,0,none⟩))) (k1:cur[1]?=some v) (hown:w.ownsRow 0 5 1 v n xs) (hne:v.ownBlock≠some b) (h63:n+s.size<=137438953472) :
  Calls Tryz.prog 94 #[.pointer (some ⟨b,0,none⟩),.string s] w λe w'=>∃v' w1,e=.returned (.tuple #[.int .i64 s.size,.nilIface])/\w1.ownsRow 0 5 1 v' (n+s.size) (xs++Lib.strCells s)/\a7R w v v' w1/\w1.heap[b]?=some (.cells cur T (0,0))/\w'=w1.setCell ⟨b,1,none⟩ v':=by
 obtain⟨i0,hi,hz0,hz1,hz2⟩:=info_parts (show (Tryz.prog.info? 5).map (λi=>(i.zero,i.size,i.bytes))=some (some (.int .u8 0),1,1) by kernel_rfl);have c0:w.cell? ⟨b,0,none⟩=some (.pointer (some ⟨b,0,none⟩)):=by rw[G1 hb];exact k0
 have c1:w.cell? ⟨b,1,none⟩=some v:=by rw[G1 hb];exact k1
 have hlt:b<w.heap.size:=by
  rcases Nat.lt_or_ge b w.heap.size with h'|h'
  ·exact h'
  ·simp[Array.getElem?_eq_none h'] at hb
 have HB:=Lib.hid hb;have HOWN:=Lib.hid hown;have K0:=Lib.hid k0;have K1:=Lib.hid k1;clear hb hown k0 k1
 go_enter Tryz.func94,Tryz.ntmps94
 go_wp2_with fail
 refine(b2I b _ c0).mono ?_
 rintro e w1 ⟨rfl,e1⟩
 subst e1
 go_wp2_with (at_builtin;refine a2P rfl _ _ 54 9 rfl 5 i0 Tryz.underlying54 Tryz.underlying9 hi hz0 hz1 hz2 _ n xs rfl HOWN.out s rfl ?h1 ?h2 ?_)
 case h1=>unfold maxLen;omega
 case h2=>omega
 intro v' w2 hown' hsp;have hb2:=(hsp.other hlt hne).trans HB.out;have d0:w2.cell? ⟨b,0,none⟩=some (.pointer (some ⟨b,0,none⟩)):=by rw[G1 hb2];exact K0.out
 have d1:w2.cell? ⟨b,1,none⟩=some v:=by rw[G1 hb2];exact K1.out
 have f1:w2.frozen? ⟨b,1,none⟩=false:=Lib.frozen_of_heap hb2 1;obtain⟨A,cap,rfl⟩:=L9 hown';have HB2:=Lib.hid hb2;have HO2:=Lib.hid hown';have HSP:=Lib.hid hsp;clear hb2 hown' hsp c0 c1
 go_wp2
 go_ret2
 exact⟨_,w2,rfl,HO2.out,HSP.out,HB2.out,rfl⟩
theorem c0G (b T:Nat) (hlies:liesAt Tryz.prog Tryz.prog.depth T (2 / Tryz.prog.cellsOf T) 0 101 1=true) (s:ByteArray) (w:World) (hb:w.heap[b]?=some (.cells #[.pointer none,.slice none 0 0] T (0,0))) (h63:s.size<=137438953472) :
  Calls Tryz.prog 94 #[.pointer (some ⟨b,0,none⟩),.string s] w λe w'=>∃v' w1,e=.returned (.tuple #[.int .i64 s.size,.nilIface])/\w1.ownsRow 0 5 1 v' s.size (Lib.strCells s)/\a7R (w.setCell ⟨b,0,none⟩ (.pointer (some ⟨b,0,none⟩))) (.slice none 0 0) v' w1/\w1.heap[b]?=some (.cells #[.pointer (some ⟨b,0,none⟩),.slice none 0 0] T (0,0))/\w'=w1.setCell ⟨b,1,none⟩ v':=by
 obtain⟨i0,hi,hz0,hz1,hz2⟩:=info_parts (show (Tryz.prog.info? 5).map (λi=>(i.zero,i.size,i.bytes))=some (some (.int .u8 0),1,1) by kernel_rfl);have c0:w.cell? ⟨b,0,none⟩=some (.pointer none):=by rw[G1 hb];rfl
 have hlt:b<w.heap.size:=by
  rcases Nat.lt_or_ge b w.heap.size with h'|h'
  ·exact h'
  ·simp[Array.getElem?_eq_none h'] at hb
 have hsh:=b0d (us:=[.pointer none,.slice none 0 0]) hb;have hfz:=Lib.frozen_of_heap hb 0
 have hb1:(w.setCell ⟨b,0,none⟩ (.pointer (some ⟨b,0,none⟩))).heap[b]?=some (.cells #[.pointer (some ⟨b,0,none⟩),.slice none 0 0] T (0,0)):=by
  rw[setCell_eq_setRow w b 0 _ T (0,0) _ hb,setRow_heap w b _ _ T _ hb];rfl
 have hlt1:b<(w.setCell ⟨b,0,none⟩ (.pointer (some ⟨b,0,none⟩))).heap.size:=by
  rcases Nat.lt_or_ge b (w.setCell ⟨b,0,none⟩ (.pointer (some ⟨b,0,none⟩))).heap.size with h'|h'
  ·exact h'
  ·simp[Array.getElem?_eq_none h'] at hb1
 obtain⟨wz,hwz⟩:∃wz,wz=w.setCell ⟨b,0,none⟩ (.pointer (some ⟨b,0,none⟩)):=⟨_,rfl⟩;rw[<-hwz] at hb1 hlt1 ⊢;have HZ:=Lib.hid hwz;clear hwz;have HB:=Lib.hid hb1;have HL:=Lib.hid hlies;have HS:=Lib.hid hsh;have HF:=Lib.hid hfz;clear hb hb1 hlies hsh hfz
 go_enter Tryz.func94,Tryz.ntmps94
 go_wp2_with fail
 refine(b0b T b HL.out _ c0 HS.out HF.out).mono ?_
 rintro e w1 ⟨rfl,e1⟩
 rw[<-HZ.out] at e1;subst e1;have g1:w1.cell? ⟨b,1,none⟩=some (.slice none 0 0):=by rw[G1 HB.out];rfl
 go_wp2_with (at_builtin;refine a2P rfl _ _ 54 9 rfl 5 i0 Tryz.underlying54 Tryz.underlying9 hi hz0 hz1 hz2 _ 0 [] rfl (World.ownsRow_nil w1 0 5 1) s rfl ?h1 ?h2 ?_)
 case h1=>unfold maxLen;omega
 case h2=>omega
 intro v' w2 hown' hsp;have hb2:=(hsp.other hlt1 (by simp[Value.ownBlock])).trans HB.out;have d0:w2.cell? ⟨b,0,none⟩=some (.pointer (some ⟨b,0,none⟩)):=by rw[G1 hb2];rfl
 have d1:w2.cell? ⟨b,1,none⟩=some (.slice none 0 0):=by rw[G1 hb2];rfl
 have f1:w2.frozen? ⟨b,1,none⟩=false:=Lib.frozen_of_heap hb2 1;obtain⟨A,cap,rfl⟩:=L9 hown';have HB2:=Lib.hid hb2;have HO2:=Lib.hid hown';have HSP:=Lib.hid hsp;clear hb2 hown' hsp c0 g1
 go_wp2
 go_ret2
 exact⟨_,w2,rfl,HO2.out,HSP.out,HB2.out,rfl⟩
def rU (l:List UInt8):List (List D):=l.map λc=>[.sc (.int .u8 (c.toNat:Int))]
def a0M (l:List UInt8):List O:=[.box [.ptr 0 0,.own 1],.row false 5 (rU l)]
theorem a3i (l:List UInt8):(rU l).length=l.length:=by unfold rU;rw[List.length_map]
theorem b5v (a b:List UInt8):rU (a++b)=rU a++rU b:=by unfold rU;rw[List.map_append]
theorem b5w (l:List UInt8):∀r∈rU l,r.length=1:=λr hr=>by
 unfold rU at hr;obtain⟨c,_,rfl⟩:=List.mem_map.1 hr;rfl
theorem a64 {I:Nat->Nat->Prop} {w:World} (s:ByteArray):A8 I w (Lib.strCells s) (rU (H3 s)).flatten:=by
 have key:∀l:List UInt8,A8 I w (l.map λb=>Value.int .u8 b.toNat) (rU l).flatten:=by
  intro l
  induction l with
  | nil=>exact .nil I w
  | cons c l ih=>exact .cons (.sc _ rfl) ih
 exact key _
theorem b0e:(ty 5).sz=1:=rfl
theorem a2h:a0T Tryz.prog 94=true:=by kernel_rfl
theorem a65 {b c:Nat} (h:Value.pointer (some ⟨b,0,none⟩)=.pointer (some ⟨c,0,none⟩)):b=c:=by
 injection h with h;injection h with h;injection h
theorem a4W (l:List UInt8) (s:ByteArray) (hlen:l.length+s.size<=137438953472):B0 94 [.ptr 0 0,vs s] (a0M l) (λres os=>res=[vi .i64 (s.size:Nat),.d (.sc .nilIface)]/\os=a0M (l++H3 s)):=by
 refine⟨a2h,λI w g args hrel=>?_⟩;obtain⟨b,us,t,hg,hb,hcs,h1,hI,hM⟩:=hrel.obj 0 _ rfl;obtain⟨usr,hown,hrl,hdr,hbk⟩:=hrel.obj 1 _ rfl;rw[b0e,a3i] at hown;obtain⟨u,us',rfl,hu,hus⟩:=n6.uncons (show n6 I w g args [.ptr 0 0,vs s] from hrel.tmp);obtain⟨us1,us2,rfl,hu1,hus2⟩:=hus.uncons;obtain rfl:=hus2.unnil;obtain⟨b',hg',rfl⟩:=hu.unptr;obtain rfl:=a65 (hg.symm.trans hg');obtain rfl:us1=.string s:=by cases hu1 with|d hd=>cases hd;rfl
 obtain⟨u0,us0,rfl,hu0,hu0s⟩:=hcs.uncons;obtain⟨v0,us0',rfl,hv0,hv0s⟩:=hu0s.uncons;obtain rfl:=hv0s.unnil;obtain⟨b2,hg2,rfl⟩:=hu0.unptr;obtain rfl:=a65 (hg.symm.trans hg2);obtain rfl:v0=g 1:=hv0.unown.1.trans (a1O hown)
 have hne:(g 1).ownBlock≠some b:=λe=>by
  have h2:gbl (g 1) b:=(a0w hown).2 e;have h3:gbl (g 0) b:=by rw[hg];rfl
  have:=hrel.dis 0 1 b ⟨_,rfl,by simp⟩ ⟨_,rfl,by simp⟩ h3 h2;omega
 refine(c0F b t.1 l.length _ (g 1) usr s w hb (by simp) (by simp) hown hne hlen).mono ?_
 rintro e w' ⟨v',w1,rfl,hown',hsp,hb1,rfl⟩
 have hys:=b5w (H3 s);have hl2:(rU (H3 s)).length=s.size:=by rw[a3i,B8]
 obtain⟨I',g',hgv,h2⟩:=hrel.appended (k:=1) (z:=false) (e:=5) (xs:=rU l) (ys:=rU (H3 s)) rfl (by rw[b0e,a3i];exact hown) (λr hr=>hys r hr) (a64 s) (v':=v') (w':=w1) (by rw[b0e,a3i,hl2];exact hown') hsp
 have hp0:g' 0=.pointer (some ⟨b,0,none⟩):=by
  have:=h2.st 0 (by show 0<2;omega) (by show Q0 (g 0)=true;rw[hg];rfl);rw[this];exact hg
 obtain⟨A',c',hv'⟩:=L9 hown';have hpv:n6 I' w1 g' [v'] [V.own 1]:=.cons (by rw[hv'];exact .own _ _ _ _ (by rw[hgv,hv'];rfl)) (.nil I' w1 g');obtain⟨b3,us3,t3,hg3,hb3,hlen3,h3⟩:=h2.store (k:=0) (n:=1) (cs:=[.ptr 0 0,.jk]) (ds:=[.own 1]) (r:=[.ptr 0 0,.own 1]) (vs:=[v']) rfl hpv (by intro u hu;simp at hu;subst hu;rw[hv'];rfl) rfl;obtain rfl:=a65 (hp0.symm.trans hg3);rw[hb1] at hb3;injection hb3 with hb3;injection hb3 with e1 e2 _
 have e3:us3=[.pointer (some ⟨b,0,none⟩),g 1]++t.2:=by
  have:=congrArg Array.toList e1
  simpa using this.symm
 have e4:w1.setCell ⟨b,1,none⟩ v'=w1.setRow b (us3.take 1++[v']++us3.drop (1+1)).toArray:=by
  rw[setCell_eq_setRow w1 b 1 _ t.1 (0,0) _ hb1,e3]
  congr 1
 rw[e4];refine⟨[.int .i64 (s.size:Nat),.nilIface],[vi .i64 (s.size:Nat),.d (.sc .nilIface)],_,I',g',rfl,⟨rfl,?_⟩,⟨h3.im,h3.lt,h3.fr,h3.kp,h3.lo,h3.st,h3.obj,h3.dis,h3.out,?_,rfl,h3.dfr.2⟩⟩
 ·unfold a0M;rw[b5v];rfl
 ·exact .cons (.d (.sc _ rfl)) (.cons (.d (.sc _ rfl)) (.nil _ _ _))
def b7m (T:Nat):Prop:=liesAt Tryz.prog Tryz.prog.depth T (2 / Tryz.prog.cellsOf T) 0 101 1=true
theorem b5x (T:Nat) (hT:b7m T) (s:ByteArray) (hlen:s.size<=137438953472):B0 94 [.ptr 0 0,vs s] [b0c T] (λres os=>res=[vi .i64 (s.size:Nat),.d (.sc .nilIface)]/\os=a0M (H3 s)):=by
 refine⟨a2h,λI w g args hrel=>?_⟩;obtain⟨b,hg,hb,hI,hM⟩:=hrel.obj 0 _ rfl;obtain⟨u,us',rfl,hu,hus⟩:=n6.uncons (show n6 I w g args [.ptr 0 0,vs s] from hrel.tmp);obtain⟨us1,us2,rfl,hu1,hus2⟩:=hus.uncons;obtain rfl:=hus2.unnil;obtain⟨b',hg',rfl⟩:=hu.unptr;obtain rfl:=a65 (hg.symm.trans hg');obtain rfl:us1=.string s:=by cases hu1 with|d hd=>cases hd;rfl
 refine(c0G b T hT s w hb hlen).mono ?_
 rintro e w' ⟨v',w1,rfl,hown',hsp,hb1,rfl⟩
 have hu2:=hrel.unob (k:=0) (T:=T) (us:=[.pointer none,.slice none 0 0]) rfl rfl;have hp:n6 I w g [.pointer (some ⟨b,0,none⟩)] [V.ptr 0 0]:=.cons (.ptr 0 0 b hg) (.nil I w g);obtain⟨b2,us2,t2,hg2,hb2,hlen2,h0⟩:=hu2.store (k:=0) (n:=0) (cs:=[.d (.sc (.pointer none)),.em]) (ds:=[.ptr 0 0]) (r:=[.ptr 0 0,.em]) (vs:=[.pointer (some ⟨b,0,none⟩)]) rfl hp (by simp[Value.oneCell']) rfl;obtain rfl:=a65 (hg.symm.trans hg2);rw[hb] at hb2;injection hb2 with hb2;injection hb2 with e1 e2 _
 have e3:us2=[.pointer none,.slice none 0 0]:=by
  have:=congrArg Array.toList e1
  simpa using this.symm
 subst e3
 have e4:w.setCell ⟨b,0,none⟩ (.pointer (some ⟨b,0,none⟩))=w.setRow b ([Value.pointer none,.slice none 0 0].take 0++[Value.pointer (some ⟨b,0,none⟩)]++[Value.pointer none,.slice none 0 0].drop (0+1)).toArray:=by
  rw[setCell_eq_setRow w b 0 _ T (0,0) _ hb];rfl
 have h00:RelI I (Xof g [b0c T]) ⟨w,g,[b0c T].length,[]⟩ I g ⟨[V.ptr 0 0,vs s],[O.box [.ptr 0 0,.em]]⟩ { tmps:=[Value.pointer (some ⟨b,0,none⟩),.string s].toArray,defers:=[] } (w.setCell ⟨b,0,none⟩ (.pointer (some ⟨b,0,none⟩))):=by rw[e4];exact h0
 clear h0 e4;generalize w.setCell ⟨b,0,none⟩ (.pointer (some ⟨b,0,none⟩))=wz at hsp h00;have h1:=h00.newObj (.row false 5 []) (.slice none 0 0) ⟨[],by rw[n7];exact World.ownsRow_nil wz 0 _ _,by simp,A8.nil I wz,λb hb=>by rw[n7] at hb;cases hb⟩ (λj b _ _ hb=>by cases hb);have hys:=b5w (H3 s);have hl2:(rU (H3 s)).length=s.size:=by rw[a3i,B8]
 obtain⟨I',g',hgv,h2⟩:=h1.appended (k:=1) (z:=false) (e:=5) (xs:=[]) (ys:=rU (H3 s)) (us:=[]) rfl (by rw[show upd g [O.box [V.ptr 0 0,V.em]].length (Value.slice none 0 0) 1=.slice none 0 0 from n7 ..];exact World.ownsRow_nil wz 0 _ _) (λr hr=>hys r hr) (a64 s) (v':=v') (w':=w1) (by rw[b0e,hl2];simpa using hown') (by rw[show upd g [O.box [V.ptr 0 0,V.em]].length (Value.slice none 0 0) 1=.slice none 0 0 from n7 ..];exact hsp)
 have hp0:g' 0=.pointer (some ⟨b,0,none⟩):=by
  have:=h2.st 0 (by show 0<1;omega) (by show Q0 (g 0)=true;rw[hg];rfl);rw[this];exact hg
 obtain⟨A',c',hv'⟩:=L9 hown';have hpv:n6 I' w1 g' [v'] [V.own 1]:=.cons (by rw[hv'];exact .own _ _ _ _ (by rw[hgv,hv'];rfl)) (.nil I' w1 g');obtain⟨b3,us3,t3,hg3,hb3,hlen3,h3⟩:=h2.store (k:=0) (n:=1) (cs:=[.ptr 0 0,.em]) (ds:=[.own 1]) (r:=[.ptr 0 0,.own 1]) (vs:=[v']) rfl hpv (by intro u hu;simp at hu;subst hu;rw[hv'];rfl) rfl;obtain rfl:=a65 (hp0.symm.trans hg3);rw[hb1] at hb3;injection hb3 with hb3;injection hb3 with f1 f2 _
 have f3:us3=[.pointer (some ⟨b,0,none⟩),.slice none 0 0]:=by
  have:=congrArg Array.toList f1
  simpa using this.symm
 have f4:w1.setCell ⟨b,1,none⟩ v'=w1.setRow b (us3.take 1++[v']++us3.drop (1+1)).toArray:=by
  rw[setCell_eq_setRow w1 b 1 _ T (0,0) _ hb1,f3]
  congr 1
 rw[f4];refine⟨[.int .i64 (s.size:Nat),.nilIface],[vi .i64 (s.size:Nat),.d (.sc .nilIface)],_,I',g',rfl,⟨rfl,?_⟩,⟨h3.im,h3.lt,h3.fr,h3.kp,h3.lo,h3.st,h3.obj,h3.dis,h3.out,?_,rfl,h3.dfr.2⟩⟩
 ·rfl
 ·exact .cons (.d (.sc _ rfl)) (.cons (.d (.sc _ rfl)) (.nil _ _ _))
theorem a17 (l:List UInt8) (c:UInt8) (hlen:l.length+1<=137438953472):B0 95 [.ptr 0 0,vi .u8 (c.toNat:Int)] (a0M l) (λres os=>res=[.d (.sc .nilIface)]/\os=a0M (l++[c])):=by
 unfold a0M;rw[b5v,show rU [c]=[[.sc (.int .u8 (c.toNat:Int))]] from rfl];have hll:=a3i l;generalize rU l=L at *;have hcc:=c0E (.own 1) [.row false 5 L];obtain⟨ci,hci⟩:∃ci,ci=(c.toNat:Int):=⟨_,rfl⟩;rw[<-hci];refine so9 Tryz.func95 rfl ?_;intros;rename_i hA;obtain⟨r1,r2,r3,r4⟩:=n8 hA
 try cbv;refine gr ?_;try simp only[nc] at *
 refine l9 hA [0,1] hcc ⟨rfl,rfl,rfl,rfl,rfl,rfl,rfl⟩ ?_
 rintro _ _ ⟨rfl,rfl⟩
 iterate 2 (try cbv;repeat ((first|with_reducible apply j2 hA|refine y7 hA true ?_|(refine y9 hA (by simp only[List.length_cons,List.length_nil];omega) ?_));cbv))
 try simp (maxSteps:=4000000) only [nc] at *
 rw[r4];exact r7 hA [0,1] ⟨rfl,rfl,rfl,rfl,rfl,rfl,rfl,rfl⟩ ⟨rfl,rfl⟩
theorem b2J (T:Nat) (hT:b7m T) (c:UInt8):B0 95 [.ptr 0 0,vi .u8 (c.toNat:Int)] [b0c T] (λres os=>res=[.d (.sc .nilIface)]/\os=a0M [c]):=by
 unfold a0M;rw[show rU [c]=[[.sc (.int .u8 (c.toNat:Int))]] from rfl];have hcc:=c0D T hT;unfold b0c at *;obtain⟨ci,hci⟩:∃ci,ci=(c.toNat:Int):=⟨_,rfl⟩;rw[<-hci];refine so9 Tryz.func95 rfl ?_;intros;rename_i hA;obtain⟨r1,r2,r3,r4⟩:=n8 hA
 try cbv;refine gr ?_;try simp only[nc] at *
 refine l9 hA [0] hcc ⟨rfl,rfl,rfl,rfl,rfl,rfl,rfl⟩ ?_
 rintro _ _ ⟨rfl,rfl⟩
 iterate 2 (try cbv;repeat ((first|with_reducible apply j2 hA|refine y7 hA true ?_|refine a3e hA false ?_|(refine y9 hA (by simp only[List.length_cons,List.length_nil];omega) ?_));cbv))
 try simp (maxSteps:=4000000) only [nc] at *
 exact r7 hA [0,1] ⟨rfl,rfl,rfl,rfl,rfl,rfl,rfl,rfl⟩ ⟨rfl,rfl⟩
section
section
variable {I0:Nat->Nat->Prop} {X:Nat->Prop} {w0:W0} {I:Nat->Nat->Prop} {g:Nat->Value} {s:S} {a:Act} {w:World}
theorem W8 {s:S} {k:Nat} {j:Nat} (h:J1 ⟨s.t,s.o.set k .dead⟩ j):j≠k/\J1 s j:=by
 obtain⟨o,ho,hd⟩:=h
 by_cases e:k=j
 ·subst e;simp only at ho;have hlt:=(List.getElem?_eq_some_iff.1 ho).1;rw[List.length_set] at hlt;rw[List.getElem?_set_self hlt] at ho;cases ho;exact absurd rfl hd
 ·simp only[List.getElem?_set_ne e] at ho;exact⟨Ne.symm e,o,ho,hd⟩
theorem RelI.dead (h:RelI I0 X w0 I g s a w) (k:Nat):RelI I0 X w0 I g ⟨s.t,s.o.set k .dead⟩ a w:=by
 refine⟨h.im,h.lt,h.fr,h.kp,by simp only[List.length_set];exact h.lo,h.st,λi o ho=>?_,λi j b hi hj=>h.dis i j b (W8 hi).2 (W8 hj).2,λi hi=>h.out i (by simpa using hi),h.tmp,h.dfr⟩
 by_cases hd:o=.dead
 ·subst hd;exact True.intro
 ·have h1:=W8 (s:=s) (k:=k) ⟨o,ho,hd⟩;simp only[List.getElem?_set_ne (Ne.symm h1.1)] at ho;exact h.obj i o ho
theorem RelI.deadTo (h:RelI I0 X w0 I g s a w) {k:Nat} {o:O} (hk:s.o[k]?=some o) (hd:o≠.dead) {w':World} {b:Nat} (hb:gbl (g k) b) (hos:w'.os=w.os) (htp:w'.tape=w.tape) (hou:w'.output=w.output) (hsz:w'.heap.size=w.heap.size)
  (hoth:∀c,c≠b->w'.heap[c]?=w.heap[c]?) (hcell:∀i,w'.cell? ⟨b,i,none⟩=w.cell? ⟨b,i,none⟩):RelI I0 X w0 I g ⟨s.t,s.o.set k .dead⟩ a w':=by
 have hm:=(h.obj k o hk).blk hd b hb
 have hkp:A1 I w w':=λb' n hb' i hi=>by
  by_cases e:b'=b
  ·subst e;exact hcell i
  ·exact a3r (hoth b' e) i
 refine⟨h.im,λb' n hb'=>by rw[hsz];exact h.lt b' n hb',⟨hos.trans h.fr.os,htp.trans h.fr.tape,hou.trans h.fr.output,by rw[hsz];exact h.fr.size,λb' hb' hX=>?_⟩,h.kp.trans λb' n hb' i hi=>hkp b' n (h.im b' n hb') i hi,by simp only[List.length_set];exact h.lo,h.st,λi x hx=>?_,λi j b hi hj=>h.dis i j b (W8 hi).2 (W8 hj).2,λi hi=>h.out i (by simpa using hi),h.tmp.mono (λ_ _ h=>h) hkp,h.dfr⟩
 ·rw[hoth b' λe=>?_]
  ·exact h.fr.block b' hb' hX
  ·subst e
   rcases hm.2 with h1|h1
   ·omega
   ·exact hX h1
 ·by_cases hxd:x=.dead
  ·subst hxd;exact True.intro
  ·have h1:=W8 (s:=s) (k:=k) ⟨x,hx,hxd⟩;simp only[List.getElem?_set_ne (Ne.symm h1.1)] at hx;refine(h.obj i x hx).keep (λ_ _ h=>h) hkp (λb' hb'=>hoth b' λe=>?_) λ_ _ _ h=>h
   subst e;exact h1.1 (h.dis i k b' ⟨x,hx,hxd⟩ ⟨o,hk,hd⟩ hb' hb)
end
theorem b0f {w:World} {b T n:Nat} {cur:Array Value} (hn:n≠0) (h:w.heap[b]?=some (.cells cur T (0,0))):(w.freeze ⟨b,0,none⟩ n).heap[b]?=some (.cells cur T (0,n)):=by
 unfold World.freeze;rw[if_neg hn];have hlt:=(Array.getElem?_eq_some_iff.1 h).1;simp only[Array.getElem?_modify,if_true,h]
 simp
theorem a8P {w:World} {b n c:Nat} (hc:c≠b):(w.freeze ⟨b,0,none⟩ n).heap[c]?=w.heap[c]?:=by
 unfold World.freeze
 split
 ·rfl
 ·simp only[Array.getElem?_modify];rw[if_neg (Ne.symm hc)]
theorem b0g (w:World) (b n:Nat):(w.freeze ⟨b,0,none⟩ n).os=w.os/\(w.freeze ⟨b,0,none⟩ n).tape=w.tape/\(w.freeze ⟨b,0,none⟩ n).output=w.output/\(w.freeze ⟨b,0,none⟩ n).heap.size=w.heap.size:=by
 unfold World.freeze
 split
 ·exact⟨rfl,rfl,rfl,rfl⟩
 ·exact⟨rfl,rfl,rfl,by simp⟩
theorem b38:a0T Tryz.prog 82=true:=by kernel_rfl
theorem c0H (b T gb cap:Nat) (cur gc:Array Value) (l:List UInt8) (h0:l≠[]) (w:World) (hb:w.heap[b]?=some (.cells cur T (0,0))) (k1:cur[1]?=some (.slice (some ⟨gb,0,none⟩) l.length cap)) (hg:w.heap[gb]?=some (.cells gc 5 (0,0))) (hcap:l.length<=cap) (hcm:cap<=maxLen) (hcs:gc.size=cap)
  (hcells:∀(j:Nat) (x:UInt8),l[j]?=some x->gc[j]?=some (Value.int .u8 x.toNat)) :
  Calls Tryz.prog 82 #[.pointer (some ⟨b,0,none⟩)] w λe w'=>e=.returned (.string ⟨l.toArray⟩)/\w'=w.drew.freeze ⟨gb,0,none⟩ l.length:=by
 have hl0:l.length≠0:=by simpa using h0
 have c1:w.drew.cell? ⟨b,1,none⟩=some (.slice (some ⟨gb,0,none⟩) l.length cap):=by
  have:w.drew.heap[b]?=some (.cells cur T (0,0)):=hb;rw[G1 this];exact k1
 have hSD:(Builtin.unsafeSliceData_ #[54] 118 #[.slice (some ⟨gb,0,none⟩) l.length cap]).run Tryz.prog w.drew=.ok (.pointer (some ⟨gb,0,none⟩)) w.drew :=
  Lib.run_unsafeSliceData_row _ _ _ _ _ _ (by omega)
 have hUS:(Builtin.unsafeString_ #[118,3] 9 #[.pointer (some ⟨gb,0,none⟩),.int .i64 l.length]).run Tryz.prog w.drew=.ok (.string ⟨l.toArray⟩) (w.drew.freeze ⟨gb,0,none⟩ l.length):=by
  refine Lib.run_unsafeString_row w.drew 118 3 9 5 Tryz.underlying118 (by kernel_rfl) gb gc.size (by have hg':w.drew.heap[gb]?=some (.cells gc 5 (0,0)):=hg;simp[World.shape?,hg']) l h0 (by omega) (by unfold maxLen at hcm;omega) ?_;intro j x hx;have hg':w.drew.heap[gb]?=some (.cells gc 5 (0,0)):=hg;rw[Addr.add_lit,Nat.zero_add,G1 hg'];exact hcells j x hx
 clear hb k1 hg hcap hcm hcs hcells h0
 go_enter Tryz.func82,Tryz.ntmps82
 go_wp2
 go_region
 all_goals (go_wp2;go_ret;exact⟨rfl,rfl⟩)
theorem c0I (b T:Nat) (cur:Array Value) (w:World) (hb:w.heap[b]?=some (.cells cur T (0,0))) (k1:cur[1]?=some (.slice none 0 0)) :
  Calls Tryz.prog 82 #[.pointer (some ⟨b,0,none⟩)] w λe w'=>e=.returned (.string ⟨#[]⟩)/\w'=w.drew:=by
 have c1:w.drew.cell? ⟨b,1,none⟩=some (.slice none 0 0):=by
  have:w.drew.heap[b]?=some (.cells cur T (0,0)):=hb;rw[G1 this];exact k1
 have hSD:(Builtin.unsafeSliceData_ #[54] 118 #[.slice none 0 0]).run Tryz.prog w.drew=.ok (.pointer none) w.drew:=rfl;have hUS:(Builtin.unsafeString_ #[118,3] 9 #[.pointer none,.int .i64 0]).run Tryz.prog w.drew=.ok (.string .empty) w.drew:=Lib.run_unsafeString_none w.drew _ _ _ none;clear hb k1
 go_enter Tryz.func82,Tryz.ntmps82
 go_wp2
 go_region
 all_goals (go_wp2;go_ret;exact⟨rfl,rfl⟩)
theorem c0J (b T gb cap:Nat) (hc0:cap≠0) (cur:Array Value) (w:World) (hb:w.heap[b]?=some (.cells cur T (0,0))) (k1:cur[1]?=some (.slice (some ⟨gb,0,none⟩) 0 cap)) :
  Calls Tryz.prog 82 #[.pointer (some ⟨b,0,none⟩)] w λe w'=>e=.returned (.string ⟨#[]⟩)/\w'=w.drew:=by
 have c1:w.drew.cell? ⟨b,1,none⟩=some (.slice (some ⟨gb,0,none⟩) 0 cap):=by
  have:w.drew.heap[b]?=some (.cells cur T (0,0)):=hb;rw[G1 this];exact k1
 have hSD:(Builtin.unsafeSliceData_ #[54] 118 #[.slice (some ⟨gb,0,none⟩) 0 cap]).run Tryz.prog w.drew=.ok (.pointer (some ⟨gb,0,none⟩)) w.drew:=Lib.run_unsafeSliceData_row _ _ _ _ _ _ hc0;have hUS:(Builtin.unsafeString_ #[118,3] 9 #[.pointer (some ⟨gb,0,none⟩),.int .i64 0]).run Tryz.prog w.drew=.ok (.string .empty) w.drew:=Lib.run_unsafeString_none w.drew _ _ _ _;clear hb k1 hc0
 go_enter Tryz.func82,Tryz.ntmps82
 go_wp2
 go_region
 all_goals (go_wp2;go_ret;exact⟨rfl,rfl⟩)
theorem c0K (b T gb:Nat) (cur gc:Array Value) (w:World) (hb:w.heap[b]?=some (.cells cur T (0,0))) (k1:cur[1]?=some (.slice (some ⟨gb,0,none⟩) 0 0)) (hg:w.heap[gb]?=some (.cells gc 5 (0,0))) :
  Calls Tryz.prog 82 #[.pointer (some ⟨b,0,none⟩)] w λe w'=>e=.returned (.string ⟨#[]⟩)/\w'=w.drew.alloc (.view ⟨gb,0,none⟩ 5):=by
 have hlt:b<w.heap.size:=by
  rcases Nat.lt_or_ge b w.heap.size with h'|h'
  ·exact h'
  ·simp[Array.getElem?_eq_none h'] at hb
 have c1:w.drew.cell? ⟨b,1,none⟩=some (.slice (some ⟨gb,0,none⟩) 0 0):=by
  have:w.drew.heap[b]?=some (.cells cur T (0,0)):=hb;rw[G1 this];exact k1
 have hSD:(Builtin.unsafeSliceData_ #[54] 118 #[.slice (some ⟨gb,0,none⟩) 0 0]).run Tryz.prog w.drew=.ok (.pointer (some ⟨w.drew.heap.size,0,none⟩)) (w.drew.alloc (.view ⟨gb,0,none⟩ 5)) :=
  Lib.run_unsafeSliceData_zero w.drew _ _ 5 Tryz.underlying118 ⟨gb,0,none⟩ 0 (5,gc.size) (by have hg':w.drew.heap[gb]?=some (.cells gc 5 (0,0)):=hg;simp[World.shape?,hg'])
 have hb2:(w.drew.alloc (.view ⟨gb,0,none⟩ 5)).heap[b]?=some (.cells cur T (0,0)):=(Lib.alloc_old w.drew _ b hlt).trans hb
 have c2:(w.drew.alloc (.view ⟨gb,0,none⟩ 5)).cell? ⟨b,1,none⟩=some (.slice (some ⟨gb,0,none⟩) 0 0):=by
  rw[G1 hb2];exact k1
 have c3:(w.alloc (.view ⟨gb,0,none⟩ 5)).drew.cell? ⟨b,1,none⟩=some (.slice (some ⟨gb,0,none⟩) 0 0):=c2;have c0:w.cell? ⟨b,1,none⟩=some (.slice (some ⟨gb,0,none⟩) 0 0):=c1;have hUS:∀W:World,∀q,(Builtin.unsafeString_ #[118,3] 9 #[.pointer q,.int .i64 0]).run Tryz.prog W=.ok (.string .empty) W:=λW q=>Lib.run_unsafeString_none W _ _ _ q
 clear hb k1 hb2 hg
 go_enter Tryz.func82,Tryz.ntmps82
 go_wp2
 go_region
 all_goals (go_wp2;go_ret;exact⟨rfl,rfl⟩)
theorem a7S {I:Nat->Nat->Prop} {w:World}:∀(l:List UInt8) {us:List Value},A8 I w us (rU l).flatten->us=l.map λc=>Value.int .u8 c.toNat
 | [],us,h=>by
  have:=h.1
  simp[rU] at this
  exact this
 | c::l,us,h=>by
  obtain⟨u,us',rfl,h1,h2⟩:=A8.uncons (show A8 I w us (.sc (.int .u8 (c.toNat:Int))::(rU l).flatten) from h);rw[a7S l h2];cases h1;rfl
theorem c0L (l:List UInt8):B0 82 [.ptr 0 0] (a0M l) (λres os=>res=[vs ⟨l.toArray⟩]/\os=[.dead,.dead]):=by
 refine⟨b38,λI w g args hrel=>?_⟩;obtain⟨b,us,t,hg,hb,hcs,h1,hI,hM⟩:=hrel.obj 0 _ rfl;obtain⟨usr,hown,hrl,hdr,hbk⟩:=hrel.obj 1 _ rfl;rw[b0e,a3i] at hown;obtain⟨u,us',rfl,hu,hus⟩:=n6.uncons (show n6 I w g args [.ptr 0 0] from hrel.tmp);obtain rfl:=hus.unnil;obtain⟨b',hg',rfl⟩:=hu.unptr;obtain rfl:=a65 (hg.symm.trans hg');obtain⟨u0,us0,rfl,hu0,hu0s⟩:=hcs.uncons;obtain⟨v0,us0',rfl,hv0,hv0s⟩:=hu0s.uncons;obtain rfl:=hv0s.unnil;obtain rfl:v0=g 1:=hv0.unown.1.trans (a1O hown);have hur:=a7S l hdr;subst hur;have hd:=hrel.drew
 have fin:∀ {w':World} {I':Nat->Nat->Prop} {o0 o1:O},RelI I (Xof g (a0M l)) ⟨w,g,(a0M l).length,[]⟩ I' g ⟨[V.ptr 0 0],[o0,o1]⟩ { tmps:=[Value.pointer (some ⟨b,0,none⟩)].toArray,defers:=[] } w' ->
   ∃us res os2 I' g',Ending.returned (Value.string ⟨l.toArray⟩)=.returned (pkg us)/\(res=[vs ⟨l.toArray⟩]/\os2=[O.dead,.dead])/\RelI I (Xof g (a0M l)) ⟨w,g,(a0M l).length,[]⟩ I' g' ⟨res,os2⟩ { tmps:=us.toArray,defers:=[] } w':=λ{w'} {I'} {o0} {o1} h=>by
  have h2:=(h.dead 0).dead 1;exact⟨[.string ⟨l.toArray⟩],_,_,I',g,rfl,⟨rfl,rfl⟩,⟨h2.im,h2.lt,h2.fr,h2.kp,h2.lo,h2.st,h2.obj,h2.dis,h2.out,.cons (.d (.sc _ rfl)) (.nil _ _ _),rfl,h2.dfr.2⟩⟩
 by_cases hl:l=[]
 ·subst hl
  rcases hown.2 with⟨e0,_⟩|⟨gb,cap,cur,e0,_,hgc,_,_,_,_⟩
  ·refine(c0I b t.1 _ w hb (by rw[e0];simp)).mono ?_
   rintro e w' ⟨rfl,rfl⟩
   exact fin hd
  ·by_cases hc0:cap=0
   ·subst hc0;refine(c0K b t.1 gb _ cur w hb (by rw[e0];simp) hgc).mono ?_
    rintro e w' ⟨rfl,rfl⟩
    exact fin (hd.grow (I':=I) ((Below.refl _ _).alloc (Nat.le_refl _) _) (λ_ _ h=>h) (λ_ _ h=>.inl h))
   ·refine(c0J b t.1 gb cap hc0 _ w hb (by rw[e0];simp)).mono ?_
    rintro e w' ⟨rfl,rfl⟩
    exact fin hd
 ·rcases hown.2 with⟨_,hz⟩|⟨gb,cap,cur,e0,_,hgc,hnc,hcm,hcs',htake⟩
  ·exact absurd (List.eq_nil_of_length_eq_zero hz) hl
  ·refine(c0H b t.1 gb cap _ cur l hl w hb (by rw[e0];simp) hgc hnc hcm (by simpa using hcs') λj x hx=>?_).mono ?_
   ·have h5:(cur.toList.take (l.length * 1))[j]?=some (Value.int .u8 x.toNat):=by
     rw[htake,List.getElem?_map,hx];rfl
    rw[List.getElem?_take] at h5
    split at h5
    ·simpa using h5
    ·cases h5
   rintro e w' ⟨rfl,rfl⟩
   obtain⟨f1,f2,f3,f4⟩:=b0g w.drew gb l.length;have hgb:gbl (g 1) gb:=by rw[e0];rfl
   have h2:=hd.deadTo (k:=1) (o:=.row false 5 (rU l)) rfl (by simp) (w':=w.drew.freeze ⟨gb,0,none⟩ l.length) hgb f1 f2 f3 f4 (λc hc=>a8P hc) λi=>by
    have hgd:w.drew.heap[gb]?=some (.cells cur 5 (0,0)):=hgc;have hn:l.length≠0:=λh=>hl (List.eq_nil_of_length_eq_zero h)
    have hfz:=b0f hn hgd;rw[G1 hgd];unfold World.cell?;rw[hfz]
    simp
   exact fin h2
end
section
section
variable {qa:_} {qb:_} {qc:_} {qd:_} {qe:_} {qf:_} {qg:_} {qh:_} {qi:_} {qj:_} {qk:_} {ql:_} {qm:_} {qo:_} {qp:_} {qq:_} {qt:_} {qu:_} {qv:_} {qw:_} {qx:_} {qy:_} {qz:_} {va:_} {vc:_} {vd:_} {ve:_} {vf:_} {vg:_} {vh:_} {vj:_} {vk:_} {vl:_} {vm:_} {vn:_} {vo:_} {vp:_} {vq:_} {vr:_} {vt:_} {vu:_} {vv:_} {vw:_} (hA:Ar.mk qa qb qc qd qe qf qg qh qi qj qk ql qm qo qp qq qt qu qv qw qx qy qz va vc vd ve vf vg vh vj vk vl vm vn vo vp vq vr vt vu vv vw=j1)
include hA
theorem em {x y:Int} {b:Bool} (h:decide (x<=y)=b):qi x y=b:=by
 obtain⟨_,_,_,_,_,_,_,e8,_⟩:=l7 hA;rw[e8,h]
theorem en {r:List (List D)} {n:Int} (h:(r.length:Int)=n):qz r=n:=by
 obtain⟨e,_⟩:=n8 hA;rw[e,h]
end
end


section
section
variable {r z1 z2 z3 z4 z5 z6 z7 z8 z9 z10 z11:Int}
end
end

end Go.Proofs.YtncijebklnbhlaaGreatDoor.Vm
end
section
namespace Go.Proofs.YtncijebklnbhlaaGreatDoor
open Go.RowKit
set_option maxRecDepth 100000
set_option maxHeartbeats 4000000

end Go.Proofs.YtncijebklnbhlaaGreatDoor
end
section
namespace Go.Proofs.YtncijebklnbhlaaGreatDoor.Vm
open Go.RowKit
set_option maxRecDepth 100000
set_option maxHeartbeats 4000000


end Go.Proofs.YtncijebklnbhlaaGreatDoor.Vm
end
section
namespace Go.Proofs.YtncijebklnbhlaaGreatDoor
open Go.RowKit
set_option maxRecDepth 100000
set_option maxHeartbeats 4000000

end Go.Proofs.YtncijebklnbhlaaGreatDoor
end
section
namespace Go.Proofs.YtncijebklnbhlaaGreatDoor.Vm
open Go.RowKit
set_option maxRecDepth 100000
set_option maxHeartbeats 4000000

end Go.Proofs.YtncijebklnbhlaaGreatDoor.Vm
end
section
namespace Go.Proofs.YtncijebklnbhlaaGreatDoor
open Go.RowKit
set_option maxRecDepth 100000
set_option maxHeartbeats 4000000

end Go.Proofs.YtncijebklnbhlaaGreatDoor
end
section
namespace Go.Proofs.YtncijebklnbhlaaGreatDoor.Vm
open Go.RowKit
set_option maxRecDepth 100000
set_option maxHeartbeats 4000000






def rF (fs:List (ByteArray×Ty)):List (List D):=fs.map λf=>.sc (.string f.1)::cT f.2
theorem N4 (fs:List (ByteArray×Ty)):(rF fs).length=fs.length:=by rw[rF,List.length_map]
theorem a3j {fs:List (ByteArray×Ty)} {k:Nat} {x:ByteArray×Ty} (h:fs[k]?=some x):(rF fs)[k]?=some (.sc (.string x.1)::cT x.2):=by rw[rF,List.getElem?_map,h];rfl
theorem l6 (t:Ty):∃c0 c1 c2 c3,cT t=[c0,c1,c2,c3]:=by obtain⟨op,nm,n,ks⟩:=t;exact⟨_,_,_,_,by rw[cT]⟩
section
inductive Tm where
 | mk (op:Int) (name arg:ByteArray) (n:Int) (has:Bool) (ann:Ty) (kids:List Tm)
mutual
def cM:Tm->List D
 | .mk op nm ar n h a ks=>.sc (.int .u8 op)::.sc (.string nm)::.sc (.string ar)::.sc (.int .i64 n)::.sc (.bool h)::(cT a++[.sl 10 (rM ks)])
def rM:List Tm->List (List D)
 | []=>[]
 | t::ts=>cM t::rM ts
end
theorem a47:∀l:List Tm,rM l=l.map cM
 | []=>by rw[rM];rfl
 | t::l=>by rw[rM,a47 l];rfl
theorem a2i (l:List Tm):(rM l).length=l.length:=by rw[a47,List.length_map]
abbrev PL:=Tm×List Int
theorem W9 (t:Tm):∃d0 d1 d2 d3 d4 d5 d6 d7 d8 d9,cM t=[d0,d1,d2,d3,d4,d5,d6,d7,d8,d9]:=by
 obtain⟨op,nm,ar,n,h,a,ks⟩:=t;obtain⟨x0,x1,x2,x3,hx⟩:=l6 a;exact⟨_,_,_,_,_,x0,x1,x2,x3,_,by rw[cM,hx];rfl⟩
section
variable {op n a:Int} {nm ar:ByteArray} {h:Bool} {y0 y1 y2 y3:D}
end
theorem K3.args {f:Nat} {vs vs':List V} {os:List O} {Q:List V->List O->Prop} (h:K3 f vs os Q) (hv:∀(I:Nat->Nat->Prop) (w:World) (g:Nat->Value) (us:List Value),n6 I w g us vs'->n6 I w g us vs):K3 f vs' os Q :=
 ⟨h.1,λI w g args e3=>h.2 I w g args ⟨e3.im,e3.lt,e3.fr,e3.kp,e3.lo,e3.st,e3.obj,e3.dis,e3.out,hv _ _ _ _ e3.tmp,e3.dfr⟩⟩
theorem a1c {α:Type} {l:List α} {k:Nat} {x:α} (h:l[k]?=some x):l.take (k+1)=l.take k++[x]:=by
 obtain⟨hi,e⟩:=List.getElem?_eq_some_iff.1 h;rw[List.take_succ_eq_append_getElem hi,e]
theorem a7T {α β:Type} (f:α->List β) (l:List α) (k:Nat):((l.take k).flatMap f).length<=(l.flatMap f).length:=by
 conv=>rhs;rw[<-List.take_append_drop k l,List.flatMap_append,List.length_append]
 omega
theorem a66 {α β:Type} (f:α->List β) (l:List α) (k:Nat) (x:α) (h:l[k]?=some x):(f x).length<=(l.flatMap f).length:=by
 have h1:=a7T f l (k+1);rw[a1c h,List.flatMap_append,List.length_append,List.flatMap_cons,List.flatMap_nil,List.append_nil] at h1;omega
end
section
def PtG {α:Type} (T:(α->Prop)->Prop):Prop:=∀K,T K->∃v,K v/\∀K',K' v->T K'
theorem Pt.g {T:(V->Prop)->Prop} (h:Pt T):PtG T:=h
theorem PtG.mono {α:Type} {T:(α->Prop)->Prop} (h:PtG T) {K K':α->Prop} (hT:T K) (hK:∀v,K v->K' v):T K':=by
 obtain⟨v,h1,h2⟩:=h K hT;exact h2 K' (hK v h1)
structure Ok (a:Ar):Prop where
 wrap:a.wrap=j1.wrap
 add:a.add=j1.add
 sub:a.sub=j1.sub
 mul:a.mul=j1.mul
 quo:a.quo=j1.quo
 rem:a.rem=j1.rem
 bits:a.bits=j1.bits
 lt:a.lt=j1.lt
 le:a.le=j1.le
 eq:a.eq=j1.eq
 nz:∀y k,a.nz y k->j1.nz y k
 nzp:∀y k k',a.nz y k->k'->a.nz y k'
 seq:a.seq=j1.seq
 slt:a.slt=j1.slt
 bytes:a.bytes=j1.bytes
 cat:a.cat=j1.cat
 fits:∀x y k,a.fits x y k->j1.fits x y k
 fitsp:∀x y k k',a.fits x y k->k'->a.fits x y k'
 slen:a.slen=j1.slen
 sget:a.sget=j1.sget
 ssub:a.ssub=j1.ssub
 txt:a.txt=j1.txt
 byt:a.byt=j1.byt
 nat:a.nat=j1.nat
 len:a.len=j1.len
 get:a.get=j1.get
 sub2:a.sub2=j1.sub2
 app:a.app=j1.app
 set:a.set=j1.set
 room:∀x y k,a.room x y k->j1.room x y k
 roomp:∀x y k k',a.room x y k->k'->a.room x y k'
 mlook:a.mlook=j1.mlook
 mput:a.mput=j1.mput
 deq:a.deq=j1.deq
 call:∀f rs K,a.call f rs K->j1.call f rs K
 callp:∀f rs,PtG (a.call f rs)
 calld:∀f vs o K,a.calld f vs o K->j1.calld f vs o K
 calldp:∀f vs o,PtG (a.calld f vs o)
 rep:∀n z K,a.rep n z K->j1.rep n z K
 repp:∀n z,PtG (a.rep n z)
 callo:∀f vs s K,a.callo f vs s K->j1.callo f vs s K
 callop:∀f vs s,PtG λK:V×S->Prop=>a.callo f vs s λv s'=>K (v,s')
 callx:∀f vs l s K,a.callx f vs l s K->j1.callx f vs l s K
 callxp:∀f vs l s,PtG λK:V×S->Prop=>a.callx f vs l s λv s'=>K (v,s')
 new:∀e K,a.new e K->j1.new e K
 newp:∀e,PtG (a.new e)
 lit:∀t K,a.lit t K->j1.lit t K
 litp:∀t,PtG (a.lit t)
 next:∀N s,a.next N s->N s
 nextp:∀N s,N s->a.next N s
 ext:∀op dst s K,¬a.ext op dst s K
 reg:∀ops s K,¬a.reg ops s K
 loop:∀c body s K,a.loop c body s K->(∀s K K',(∀x s,K x s->K' x s)->body s K->body s K')->a9z Eq body s K
 loopp:∀c body s,(∀s,PtG λK:X×S->Prop=>body s λx s=>K (x,s))->PtG λK:X×S->Prop=>a.loop c body s λx s=>K (x,s)
section
variable {a:Ar} (h:Ok a)
include h
theorem Ok.load:E0 a=E0 j1:=by funext os K t x;unfold E0;simp only[h.get]
theorem Ok.indexAddr:s9 a=s9 j1:=by funext os K t x y;unfold s9;simp only[h.get,h.nat]
theorem Ok.index:a1I a=a1I j1:=by funext K t x y;unfold a1I;simp only[h.sget,h.nat]
theorem Ok.un:unV a=unV j1:=by funext op x K;unfold unV;simp only[h.wrap,h.sub]
theorem Ok.slice:a1H a=a1H j1:=by funext os K t x lo hi;unfold a1H;simp only[h.slen,h.ssub,h.len,h.sub2]
theorem Ok.min:a8l a=a8l j1:=by funext K mx l;unfold a8l;simp only[h.lt]
theorem Ok.store {s:S}:F7 a s=F7 j1 s:=by funext K t y x;unfold F7;simp only[h.get,h.set]
theorem Ok.put {s:S}:a9v a s=a9v j1 s:=by funext K t x i v;unfold a9v;simp only[h.mput]
end
structure Good (f:Nat) (fn:Func) (c:Code):Prop where
 f:Tryz.prog.funcs[f]?=some fn
 b:fn.body=some c
 n:(fn.name != "runtime.NumGoroutine")=true
 c:y6 Tryz.prog c=true
 r:Q8 fn.results.toList=true
inductive Tab where
 | nil
 | cons (f:Nat) (fn:Func) (c:Code) (h:Good f fn c) (T:Tab)
 | own (f:Nat) (F:List V->List O->Option (V×List O×List Nat)) (h:∀vs o r,F vs o=some r->N3 f vs o λx o' ks=>(x,o',ks)=r) (T:Tab)
 | pure (f:Nat) (F:List R->Option (List R)) (h:∀rs q,F rs=some q->j5 f rs q) (T:Tab)
inductive Ent where
 | none
 | code (fn:Func) (c:Code)
 | own (F:List V->List O->Option (V×List O×List Nat))
 | pure (F:List R->Option (List R))
def Tab.get:Tab->Nat->Ent
 | .nil,_=>.none
 | .cons f fn c _ T,g=>match Nat.beq f g with|true=>.code fn c|false=>T.get g
 | .own f F _ T,g=>match Nat.beq f g with|true=>.own F|false=>T.get g
 | .pure f F _ T,g=>match Nat.beq f g with|true=>.pure F|false=>T.get g
def it (body:S->(X->S->Prop)->Prop) (K:X->S->Prop) (n:Nat):Nat->S->Prop
 | 0,_=>False
 | m+1,s=>match Nat.ble n (o7 s.o) with
  | true=>body s λe s'=>a8i (λs2=>it body K n m s2) K e s'
  | false=>False
section
variable {hint:Nat->Bool} {call:Nat->List R->(List R->Prop)->Prop} {calld:Nat->List V->List O->(V->Prop)->Prop} {callo:Nat->List V->S->(V->S->Prop)->Prop} {callx:Nat->List V->List Nat->S->(V->S->Prop)->Prop}
end
section
variable {qa:IntKind->Int->Int} {qb:Int->Int->Int} {qc:Int->Int->Int} {qd:Int->Int->Int} {qe:Int->Int->Int} {qf:Int->Int->Int} {qg:BinOp->IntKind->Int->IntKind->Int->Option Int} {qh:Int->Int->Bool} {qi:Int->Int->Bool} {qj:Int->Int->Bool} {qk:Int->Prop->Prop} {ql:List UInt8->List UInt8->Bool} {qm:List UInt8->List UInt8->Bool} {qo:ByteArray->List UInt8} {qp:ByteArray->ByteArray->ByteArray} {qq:ByteArray->ByteArray->Prop->Prop} {qt:ByteArray->Int} {qu:ByteArray->Int->Option Int} {qv:ByteArray->Int->Int->Option ByteArray} {qw:List (List D)->Option ByteArray} {qx:ByteArray->List (List D)} {qy:Int->Nat->Option Nat} {qz:List (List D)->Int} {va:List (List D)->Int->Option (List D)} {vc:List (List D)->Int->Int->Option (List (List D))} {vd:List (List D)->List (List D)->List (List D)} {ve:List (List D)->Int->List D->List (List D)} {vf:List (List D)->List (List D)->Prop->Prop} {vg:List (R×R)->R->Option R} {vh:List (R×R)->R->R->List (R×R)} {vj:List D->List D->Bool} {vk:Int->List D->(List (List D)->Prop)->Prop} {vl:Nat->List R->(List R->Prop)->Prop} {vm:Nat->List V->List O->(V->Prop)->Prop} {vn:Nat->List V->S->(V->S->Prop)->Prop} {vo:Nat->List V->List Nat->S->(V->S->Prop)->Prop} {vp:Nat->(Bool->Prop)->Prop} {vq:Nat->(Bool->Prop)->Prop} {vr:Nat->(List V->List O->Prop)->List V->S->Prop} {vt:(S->Prop)->S->Prop} {vu:Op->Option Nat->S->(S->Prop)->Prop} {vv:Array Oper->S->(S->Prop)->Prop} {vw:Code->(S->(X->S->Prop)->Prop)->S->(X->S->Prop)->Prop}
end
end
theorem b39:("internal/strconv.uint64pow10",IntKind.u64,Lib.pow10Tab)∈tabsOf:=by
 rw[show Lib.pow10Tab=_ from(by decide:Lib.pow10Tab=[1,10,100,1000,10000,100000,1000000,10000000,100000000,1000000000,10000000000,100000000000,1000000000000,10000000000000,100000000000000,1000000000000000,10000000000000000,100000000000000000,1000000000000000000,10000000000000000000])];unfold tabsOf
 simp
theorem b1u (n:Int) (h0:-9223372036854775808<=n) (h1:n<=9223372036854775807):j5 96 [.one (.sc (.int .i64 n))] [.one (.sc (.string ⟨(Lib.itoa n).toArray⟩))]:=by
 refine⟨by kernel_rfl,λI w args hI hat=>?_⟩
 match args,hat with
 | [v1],⟨h2,_⟩ =>
  have h2:AtD I w v1 (.sc (.int .i64 n)):=h2;cases h2;refine(Tryz.strconv_Itoa n h0 h1 w (hI.2 _ b39).1).mono ?_
  rintro e w' ⟨rfl,k,os,rfl⟩
  exact⟨_,rfl,.sc _ rfl,⟨rfl,rfl,rfl,by simp[Sort.grow,World.drewN],λk hk=>by simp[Sort.grow,World.drewN,Array.getElem?_append,hk]⟩⟩
end Go.Proofs.YtncijebklnbhlaaGreatDoor.Vm
end
section
namespace Go.Proofs.YtncijebklnbhlaaGreatDoor
open Go.RowKit
set_option maxRecDepth 100000
set_option maxHeartbeats 4000000
section
section
variable {α:Type}
structure Swo (lt:α->α->Bool):Prop where
 irr:∀x,lt x x=false
 tra:∀x y z,lt x y=true->lt y z=true->lt x z=true
 neg:∀x y z,lt x y=false->lt y z=false->lt x z=false
variable {lt:α->α->Bool}
def eqv (lt:α->α->Bool) (x y:α):Bool:=!lt x y && !lt y x
def T0 (lt:α->α->Bool) (l:List α):Prop:=l.Pairwise λx y=>lt y x=false
def Z0 (lt:α->α->Bool) (l m:List α):Prop:=∀x,l.filter (eqv lt x)=m.filter (eqv lt x)
theorem Z0.refl (l:List α):Z0 lt l l:=λ_=>rfl
theorem Z0.symm {l m:List α} (h:Z0 lt l m):Z0 lt m l:=λx=>(h x).symm
theorem Z0.trans {l m n:List α} (h:Z0 lt l m) (k:Z0 lt m n):Z0 lt l n:=λx=>(h x).trans (k x)
theorem Z0.append {l m l' m':List α} (h:Z0 lt l l') (k:Z0 lt m m'):Z0 lt (l++m) (l'++m'):=λx=>by rw[List.filter_append,List.filter_append,h x,k x]
theorem b0h (h:Swo lt) (x:α):eqv lt x x=true:=by unfold eqv;rw[h.irr];rfl
theorem Z0.mem (h:Swo lt) {l m:List α} (s:Z0 lt l m) {x:α} (hx:x∈l):x∈m:=by
 have:x∈l.filter (eqv lt x):=List.mem_filter.2 ⟨hx,b0h h x⟩;rw[s x] at this;exact(List.mem_filter.1 this).1
theorem Z0.swap (h:Swo lt) {u v:List α} (huv:∀x∈u,∀y∈v,lt y x=true):Z0 lt (u++v) (v++u):=λz=>by
 rw[List.filter_append,List.filter_append]
 by_cases hu:u.filter (eqv lt z)=[]
 ·rw[hu];simp
 ·by_cases hv:v.filter (eqv lt z)=[]
  ·rw[hv];simp
  ·exfalso;obtain⟨x,hx⟩:=List.exists_mem_of_ne_nil _ hu;obtain⟨y,hy⟩:=List.exists_mem_of_ne_nil _ hv;obtain⟨hx1,hx2⟩:=List.mem_filter.1 hx;obtain⟨hy1,hy2⟩:=List.mem_filter.1 hy;have h1:=huv x hx1 y hy1;unfold eqv at hx2 hy2;simp only[Bool.and_eq_true,Bool.not_eq_true'] at hx2 hy2;have:=h.neg y z x hy2.2 hx2.1;rw[h1] at this;cases this
theorem a67 (h:Swo lt):∀ {l m:List α},T0 lt l->T0 lt m->Z0 lt l m->l=m
 | [],m,_,_,s=>by
  cases m with
  | nil=>rfl
  | cons y m=>exact absurd (s.symm.mem h (List.mem_cons_self ..)) (by simp)
 | x::l,[],_,_,s=>absurd (s.mem h (List.mem_cons_self ..)) (by simp)
 | x::l,y::m,hl,hm,s=>by
  have hxm:=s.mem h (List.mem_cons_self (a:=x) (l:=l));have hyl:=s.symm.mem h (List.mem_cons_self (a:=y) (l:=m))
  have hlx:∀z∈x::l,lt z x=false:=λz hz=>by
   rcases List.mem_cons.1 hz with rfl|hz
   ·exact h.irr _
   ·exact(List.pairwise_cons.1 hl).1 z hz
  have hmy:∀z∈y::m,lt z y=false:=λz hz=>by
   rcases List.mem_cons.1 hz with rfl|hz
   ·exact h.irr _
   ·exact(List.pairwise_cons.1 hm).1 z hz
  have e1:eqv lt x y=true:=by unfold eqv;rw[hmy x hxm,hlx y hyl];rfl
  have s1:=s x;rw[List.filter_cons,List.filter_cons,b0h h x,e1] at s1;simp only[if_true] at s1;injection s1 with s1 s2;subst s1
  congr 1
  refine a67 h (List.pairwise_cons.1 hl).2 (List.pairwise_cons.1 hm).2 λz=>?_
  have sz:=s z;rw[List.filter_cons,List.filter_cons] at sz
  by_cases hz:eqv lt z x=true
  ·rw[if_pos hz,if_pos hz] at sz;injection sz
  ·rw[if_neg hz,if_neg hz] at sz;exact sz
def N8 (lt:α->α->Bool) (x:α):List α->List α
 | []=>[x]
 | y::l=>if lt x y=true then x::y::l else y::N8 lt x l
def j9 (lt:α->α->Bool) (l:List α):List α:=l.foldl (λacc x=>N8 lt x acc) []
theorem b2K (h:Swo lt) (x:α):∀l:List α,T0 lt l->Z0 lt (N8 lt x l) (l++[x])
 | [],_=>.refl _
 | y::l,hl=>by
  unfold N8
  by_cases hx:lt x y=true
  ·rw[if_pos hx]
   have:Z0 lt ([x]++(y::l)) ((y::l)++[x]):=(Z0.swap h (u:=y::l) (v:=[x]) λz hz w hw=>by
    simp at hw
    subst hw
    rcases List.mem_cons.1 hz with rfl|hz
    ·exact hx
    ·have h1:=(List.pairwise_cons.1 hl).1 z hz;cases hwz:lt w z
     ·have:=h.neg w z y hwz h1;rw[hx] at this;cases this
     ·rfl).symm
   exact this
  ·rw[if_neg hx];exact Z0.append (.refl [y]) (b2K h x l (List.pairwise_cons.1 hl).2)
theorem a8Q (x:α):∀(l:List α) (z:α),z∈N8 lt x l->z=x\/z∈l
 | [],z,hz=>by simp[N8] at hz;exact .inl hz
 | y::l,z,hz=>by
  unfold N8 at hz
  split at hz
  ·rcases List.mem_cons.1 hz with h|h
   ·exact .inl h
   ·exact .inr h
  ·rcases List.mem_cons.1 hz with h|h
   ·exact .inr (by rw[h];exact List.mem_cons_self ..)
   ·rcases a8Q x l z h with h|h
    ·exact .inl h
    ·exact .inr (List.mem_cons_of_mem _ h)
theorem b2L (h:Swo lt) (x:α):∀l:List α,T0 lt l->T0 lt (N8 lt x l)
 | [],_=>by unfold N8 T0;simp
 | y::l,hl=>by
  obtain⟨h1,h2⟩:=List.pairwise_cons.1 hl;unfold N8
  by_cases hx:lt x y=true
  ·rw[if_pos hx];refine List.pairwise_cons.2 ⟨λz hz=>?_,hl⟩
   have hyx:lt y x=false:=by
    cases hyx:lt y x
    ·rfl
    ·have:=h.tra x y x hx hyx;rw[h.irr] at this;cases this
   rcases List.mem_cons.1 hz with rfl|hz
   ·exact hyx
   ·exact h.neg z y x (h1 z hz) hyx
  ·rw[if_neg hx];refine List.pairwise_cons.2 ⟨λz hz=>?_,b2L h x l h2⟩
   rcases a8Q x l z hz with rfl|hz
   ·simpa using hx
   ·exact h1 z hz
theorem a8R (h:Swo lt):∀(l acc:List α),T0 lt acc->T0 lt (l.foldl (λacc x=>N8 lt x acc) acc)/\Z0 lt (l.foldl (λacc x=>N8 lt x acc) acc) (acc++l)
 | [],acc,ha=>⟨ha,by rw[List.append_nil];exact .refl _⟩
 | x::l,acc,ha=>by
  obtain⟨h1,h2⟩:=a8R h l (N8 lt x acc) (b2L h x acc ha);refine⟨h1,h2.trans ?_⟩;have:=Z0.append (b2K h x acc ha) (.refl (lt:=lt) l)
  rwa [List.append_assoc] at this
theorem N9 (h:Swo lt) (l:List α):T0 lt (j9 lt l):=(a8R h l [] List.Pairwise.nil).1
theorem a0b (h:Swo lt) (l:List α):Z0 lt (j9 lt l) l:=(a8R h l [] List.Pairwise.nil).2
theorem a8S (h:Swo lt) {l m:List α} (hs:T0 lt m) (ht:Z0 lt m l):m=j9 lt l:=a67 h hs (N9 h l) (ht.trans (a0b h l).symm)
theorem E3 {l m:List α}:T0 lt (l++m)↔T0 lt l/\T0 lt m/\∀x∈l,∀y∈m,lt y x=false:=List.pairwise_append
theorem a68 (h:Swo lt) {x y:α} (hxy:lt x y=true):lt y x=false:=by
 cases hyx:lt y x
 ·rfl
 ·have:=h.tra x y x hxy hyx;rw[h.irr] at this;cases this
theorem a2j (h:Swo lt) {x y z:α} (hxy:lt x y=true) (hyz:lt z y=false):lt x z=true:=by
 cases hxz:lt x z
 ·have:=h.neg x z y hxz hyz;rw[hxy] at this;cases this
 ·rfl
theorem a2k (h:Swo lt) {x y z:α} (hxy:lt y x=false) (hyz:lt y z=true):lt x z=true:=by
 cases hxz:lt x z
 ·have:=h.neg y x z hxy hxz;rw[hyz] at this;cases this
 ·rfl
theorem a8T (h:Swo lt) {x:α} {v1 v2:List α} (hs:T0 lt (v1++v2)) (h1:∀y∈v1,lt y x=true) (h2:∀y∈v2,lt y x=false) :
  T0 lt (v1++(x::v2))/\Z0 lt (v1++(x::v2)) (x::(v1++v2)):=by
 obtain⟨s1,s2,s3⟩:=E3.1 hs;refine⟨E3.2 ⟨s1,List.pairwise_cons.2 ⟨h2,s2⟩,λy hy z hz=>?_⟩,?_⟩
 ·rcases List.mem_cons.1 hz with rfl|hz
  ·exact a68 h (h1 y hy)
  ·exact s3 y hy z hz
 ·have:=Z0.append (Z0.swap h (u:=[x]) (v:=v1) λz hz y hy=>by simp at hz;subst hz;exact h1 y hy) (.refl (lt:=lt) v2)
  simpa using this.symm
theorem a2Q (h:Swo lt) {x:α} {u1 u2:List α} (hs:T0 lt (u1++u2)) (h1:∀y∈u1,lt x y=false) (h2:∀y∈u2,lt x y=true) :
  T0 lt (u1++(x::u2))/\Z0 lt (u1++(x::u2)) ((u1++u2)++[x]):=by
 obtain⟨s1,s2,s3⟩:=E3.1 hs;refine⟨E3.2 ⟨s1,List.pairwise_cons.2 ⟨λy hy=>a68 h (h2 y hy),s2⟩,λy hy z hz=>?_⟩,?_⟩
 ·rcases List.mem_cons.1 hz with rfl|hz
  ·exact h1 y hy
  ·exact s3 y hy z hz
 ·have:=Z0.append (.refl (lt:=lt) u1) (Z0.swap h (u:=u2) (v:=[x]) λz hz y hy=>by simp at hy;subst hy;exact h2 z hz)
  simpa using this.symm
theorem a8U (h:Swo lt) {L1 L2 u v P R:List α} (hl:T0 lt (L1++u)) (hr:T0 lt (v++L2)) (huv:∀x∈u,∀y∈v,lt y x=true) (hL:∀x∈L1,∀y∈L2,lt y x=false)
  (hP:T0 lt P) (sP:Z0 lt P (L1++v)) (hR:T0 lt R) (sR:Z0 lt R (u++L2)):T0 lt (P++R)/\Z0 lt (P++R) ((L1++u)++(v++L2)):=by
 obtain⟨a1,a2,a3⟩:=E3.1 hl;obtain⟨b1,b2,b3⟩:=E3.1 hr;refine⟨E3.2 ⟨hP,hR,λx hx y hy=>?_⟩,?_⟩
 ·have hx':=sP.mem h hx;have hy':=sR.mem h hy
  rcases List.mem_append.1 hx' with hx'|hx' <;> rcases List.mem_append.1 hy' with hy'|hy'
  ·exact a3 x hx' y hy'
  ·exact hL x hx' y hy'
  ·exact a68 h (huv y hy' x hx')
  ·exact b3 x hx' y hy'
 ·have s1:=(sP.append sR)
  have s2:Z0 lt ((L1++v)++(u++L2)) ((L1++u)++(v++L2)):=by
   have:=Z0.append (Z0.append (.refl (lt:=lt) L1) (Z0.swap h huv).symm) (.refl (lt:=lt) L2)
   simpa using this
  exact s1.trans s2
end
end
end Go.Proofs.YtncijebklnbhlaaGreatDoor
end
section
namespace Go.Proofs.YtncijebklnbhlaaGreatDoor.Vm
open Go.RowKit
set_option maxRecDepth 100000
set_option maxHeartbeats 4000000
def a0c (fs:List (ByteArray×Ty)) (tail:Ty):Ty:=fs.foldr (λf r=>.mk 11 f.1 0 [f.2,r]) tail
def G4:Ty->Prop
 | .mk op _ _ [_,r]=>op=11->G4 r
 | .mk op _ _ _=>op≠11
def l5:Ty->List (ByteArray×Ty)
 | .mk op nm _ [x,r]=>if op=11 then (nm,x)::l5 r else []
 | _=>[]
def o4:Ty->Ty
 | .mk op nm n [x,r]=>if op=11 then o4 r else .mk op nm n [x,r]
 | t=>t
theorem B3:∀ {t:Ty},t.op≠11->l5 t=[]/\o4 t=t
 | .mk op nm n [],_=>⟨rfl,rfl⟩
 | .mk op nm n [x],_=>⟨rfl,rfl⟩
 | .mk op nm n [x,r],h=>by
  have h':op≠11:=h;unfold l5 o4;rw[if_neg h',if_neg h'];exact⟨rfl,rfl⟩
 | .mk op nm n (x::y::z::l),_=>⟨rfl,rfl⟩
theorem I8:∀ {t:Ty},G4 t->t.op=11->∃a b,t.kids=[a,b]/\G4 b/\l5 t=(t.name,a)::l5 b/\o4 t=o4 b
 | .mk op nm n [],h,h'=>absurd h' h
 | .mk op nm n [x],h,h'=>absurd h' h
 | .mk op nm n [x,r],h,h'=>by
  have e:op=11:=h';subst e;refine⟨x,r,rfl,h rfl,?_,?_⟩
  ·conv=>lhs;unfold l5
   rw[if_pos rfl];rfl
  ·conv=>lhs;unfold o4
   rw[if_pos rfl]
 | .mk op nm n (x::y::z::l),h,h'=>absurd h' h
def C4 (a b:ByteArray×Ty):Bool:=Op.bytesLess a.1.toList b.1.toList
theorem a48 (ds:List (ByteArray×Ty)) (d:ByteArray×Ty):j9 C4 (ds++[d])=N8 C4 d (j9 C4 ds):=by
 unfold j9;rw[List.foldl_append];rfl
theorem b2M {α:Type} {lt:α->α->Bool} (x:α):∀l:List α,(N8 lt x l).length=l.length+1
 | []=>rfl
 | y::l=>by
  unfold N8
  split
  ·rfl
  ·simp[b2M x l]
def atS:List Int->Int->Nat->Int
 | [],_,_=>-1
 | y::l,x,k=>if y=x then k else atS l x (k+1)
theorem b0i:∀(l:List Int) (x:Int) (k:Nat),x∉l->atS l x k=-1
 | [],_,_,_=>rfl
 | y::l,x,k,h=>by
  rw[atS,if_neg (λe=>h (by rw[e];exact List.mem_cons_self ..)),b0i l x (k+1) (λhm=>h (List.mem_cons_of_mem _ hm))]
theorem b2N:∀(l:List Int) (x:Int) (k:Nat),x∈l->0<=atS l x k
 | [],_,_,h=>by simp at h
 | y::l,x,k,h=>by
  rw[atS]
  split
  ·omega
  ·rename_i hne
   rcases List.mem_cons.1 h with rfl|h
   ·exact absurd rfl hne
   ·exact b2N l x (k+1) h
def a2l:Nat->Ty->Ty
 | 0,t=>t
 | m+1,t=>if t.op=11 then a0c ((j9 C4 (l5 t)).map λf=>(f.1,a2l m f.2)) (o4 t) else .mk t.op t.name t.n (t.kids.map (a2l m))
def j7 (t:Ty):Ty:=a2l t.parts.length t
theorem F3:∀(n:Nat) (t:Ty),t.parts.length<=n->∀f∈l5 t,f.2.parts.length<t.parts.length:=by
 intro n
 induction n with
 | zero=>intro t h;have:=v6 t;omega
 | succ n ih =>
  intro t h f hf;obtain⟨op,nm,k,ks⟩:=t
  match ks,hf with
  | [],hf=>simp[l5] at hf
  | [x],hf=>simp[l5] at hf
  | x::y::z::l,hf=>simp[l5] at hf
  | [x,r],hf =>
   have hk:=A4 (.mk op nm k [x,r]);have hx:=hk.2 x (by simp[Ty.kids]);have hr:=hk.2 r (by simp[Ty.kids]);unfold l5 at hf
   by_cases h11:op=11
   ·rw[if_pos h11] at hf
    rcases List.mem_cons.1 hf with rfl|hf
    ·exact hx
    ·have:=ih r (by omega) f hf;omega
   ·rw[if_neg h11] at hf;simp at hf
theorem b0j {α:Type} {lt:α->α->Bool}:∀(l acc:List α) (z:α),z∈l.foldl (λacc x=>N8 lt x acc) acc->z∈acc\/z∈l
 | [],acc,z,h=>.inl h
 | x::l,acc,z,h=>by
  rcases b0j l (N8 lt x acc) z h with h|h
  ·rcases a8Q x acc z h with rfl|h
   ·exact .inr (List.mem_cons_self ..)
   ·exact .inl h
  ·exact .inr (List.mem_cons_of_mem _ h)
theorem F6 {α:Type} {lt:α->α->Bool} {l:List α} {z:α} (h:z∈j9 lt l):z∈l:=by
 rcases b0j l [] z h with h|h
 ·simp at h
 ·exact h
theorem a69:∀(n m:Nat) (t:Ty),t.parts.length<=n->t.parts.length<=m->a2l n t=a2l m t:=by
 intro n
 induction n with
 | zero=>intro m t h;have:=v6 t;omega
 | succ n ih =>
  intro m t h h';obtain⟨m,rfl⟩:∃k,m=k+1:=⟨m - 1,by have:=v6 t;omega⟩;unfold a2l
  by_cases h11:t.op=11
  ·rw[if_pos h11,if_pos h11]
   congr 1
   apply List.map_congr_left
   intro f hf;have:=F3 _ t (Nat.le_refl _) f (F6 hf);rw[ih m f.2 (by omega) (by omega)]
  ·rw[if_neg h11,if_neg h11]
   congr 1
   apply List.map_congr_left
   intro x hx;have:=(A4 t).2 x hx;exact ih m x (by omega) (by omega)
theorem M9 {t:Ty} (h:t.op=11):j7 t=a0c ((j9 C4 (l5 t)).map λf=>(f.1,j7 f.2)) (o4 t):=by
 unfold j7;obtain⟨m,hm⟩:∃m,t.parts.length=m+1:=⟨t.parts.length - 1,by have:=v6 t;omega⟩;rw[hm]
 conv=>lhs;unfold a2l
 rw[if_pos h]
 congr 1
 apply List.map_congr_left
 intro f hf;have:=F3 _ t (Nat.le_refl _) f (F6 hf);rw[a69 m f.2.parts.length f.2 (by omega) (Nat.le_refl _)]
theorem C7 {t:Ty} (h:t.op≠11):j7 t=.mk t.op t.name t.n (t.kids.map j7):=by
 unfold j7;obtain⟨m,hm⟩:∃m,t.parts.length=m+1:=⟨t.parts.length - 1,by have:=v6 t;omega⟩;rw[hm]
 conv=>lhs;unfold a2l
 rw[if_neg h]
 congr 1
 apply List.map_congr_left
 intro x hx;have:=(A4 t).2 x hx;exact a69 m x.parts.length x (by omega) (Nat.le_refl _)
theorem Y0:∀(n:Nat) (t:Ty),t.parts.length<=n->∀f∈l5 t,f.2∈t.parts:=by
 intro n
 induction n with
 | zero=>intro t h;have:=v6 t;omega
 | succ n ih =>
  intro t h f hf;obtain⟨op,nm,k,ks⟩:=t
  match ks,hf with
  | [],hf=>simp[l5] at hf
  | [x],hf=>simp[l5] at hf
  | x::y::z::l,hf=>simp[l5] at hf
  | [x,r],hf =>
   have hk:=A4 (.mk op nm k [x,r]);have hr:=hk.2 r (by simp[Ty.kids]);unfold l5 at hf
   by_cases h11:op=11
   ·rw[if_pos h11] at hf;rw[o9];simp only[Ty.kids,List.flatMap_cons,List.flatMap_nil,List.append_nil]
    rcases List.mem_cons.1 hf with rfl|hf
    ·refine List.mem_cons_of_mem _ (List.mem_append_left _ ?_);rw[A3];exact List.mem_cons_self ..
    ·exact List.mem_cons_of_mem _ (List.mem_append_right _ (ih r (by omega) f hf))
   ·rw[if_neg h11] at hf;simp at hf
theorem C1 {t x y:Ty}:y∈x.parts->x∈t.parts->y∈t.parts:=by
 intro hy
 induction t using Ty.ind with
 | h t ih =>
  intro hx;rw[o9] at hx ⊢
  rcases List.mem_cons.1 hx with rfl|hx
  ·rwa [o9] at hy
  ·obtain⟨k,hk,hx⟩:=List.mem_flatMap.1 hx;exact List.mem_cons_of_mem _ (List.mem_flatMap.2 ⟨k,hk,ih k hk hx⟩)
theorem a8V:∀(n:Nat) (t:Ty),t.parts.length<=n->(l5 t).length<=t.parts.length:=by
 intro n
 induction n with
 | zero=>intro t h;have:=v6 t;omega
 | succ n ih =>
  intro t h;obtain⟨op,nm,k,ks⟩:=t
  match ks with
  | []=>simp[l5]
  | [x]=>simp[l5]
  | x::y::z::l=>simp[l5]
  | [x,r] =>
   have hr:=(A4 (.mk op nm k [x,r])).2 r (by simp[Ty.kids]);unfold l5
   split
   ·have:=ih r (by omega);simp only[List.length_cons];omega
   ·simp
theorem b0k {α:Type} {lt:α->α->Bool}:∀(l acc:List α),(l.foldl (λacc x=>N8 lt x acc) acc).length=acc.length+l.length
 | [],acc=>rfl
 | x::l,acc=>by
  rw[List.foldl_cons,b0k l];simp only[b2M,List.length_cons];omega
theorem N0 {α:Type} {lt:α->α->Bool} (l:List α):(j9 lt l).length=l.length:=by
 unfold j9;rw[b0k]
 simp
def c4B (op n:Int):Bool:=decide (0<=n) && (decide (op=7\/op=10) || decide (n=0))
theorem a6A {iw:ByteArray->Bool} {t:Ty} {s:Int} (h:C3 t.op=none):m8 iw t s=false:=by
 rw[a2c];unfold a2b;rw[h];rfl
def c3B (iw:ByteArray->Bool) (op:Int) (nm:ByteArray):Bool:=if op=11 then iw nm else decide (nm.toList=[])
theorem a3k {iw:ByteArray->Bool} {op:Int} {nm:ByteArray} {n:Int} {kids:List Ty} {s:Int} {k:List Int} (h:C3 op=some k) :
  m8 iw (.mk op nm n kids) s=(((decide (8<=op) == (s == 114)) && (decide (kids.length=k.length) && (c3B iw op nm && c4B op n))) && v7 iw kids k):=by
 rw[a2c];unfold a2b c4B c3B;simp only[Ty.op,Ty.name,Ty.n,Ty.kids];rw[h];rfl
theorem b0l {α:Type} {lt:α->α->Bool} (x:α):∀l:List α,(N8 lt x l).Perm (x::l)
 | []=>.refl _
 | y::l=>by
  unfold N8
  split
  ·exact .refl _
  ·exact((b0l x l).cons y).trans (.swap x y l)
theorem a7U {α:Type} {lt:α->α->Bool}:∀(l acc:List α),(l.foldl (λacc x=>N8 lt x acc) acc).Perm (acc++l)
 | [],acc=>by simp
 | x::l,acc=>by
  rw[List.foldl_cons];refine(a7U l _).trans ?_;have h1:(N8 lt x acc++l).Perm ((x::acc)++l):=(b0l x acc).append_right l;exact h1.trans List.perm_middle.symm
theorem b1w {α:Type} (lt:α->α->Bool) (l:List α):(j9 lt l).Perm l:=by
 have:=a7U (lt:=lt) l []
 simpa [j9] using this
def T7 (fs:List (ByteArray×Ty)):Nat:=(fs.map λf=>1+f.2.parts.length).sum
theorem a7j {a b:List (ByteArray×Ty)} (h:a.Perm b):T7 a=T7 b:=(h.map _).sum_nat
theorem a6B (tl:Ty):∀fs:List (ByteArray×Ty),(a0c fs tl).parts.length=T7 fs+tl.parts.length
 | []=>by simp[a0c,T7]
 | f::fs=>by
  have ih:=a6B tl fs;unfold a0c at ih ⊢;rw[List.foldr_cons,o9];simp only[Ty.kids,List.length_cons,List.flatMap_cons,List.flatMap_nil,List.append_nil,List.length_append,ih,T7,List.map_cons,List.sum_cons];omega
theorem a4X:∀(n:Nat) (t:Ty),t.parts.length<=n->G4 t->t.parts.length=T7 (l5 t)+(o4 t).parts.length:=by
 intro n
 induction n with
 | zero=>intro t h;have:=v6 t;omega
 | succ n ih =>
  intro t hn hsp
  by_cases h11:t.op=11
  ·obtain⟨a,b,hk,hsb,hf,ht⟩:=I8 hsp h11;have hb:=(A4 t).2 b (by rw[hk];simp);have:=ih b (by omega) hsb;rw[hf,ht,o9,hk];simp only[List.length_cons,List.flatMap_cons,List.flatMap_nil,List.append_nil,List.length_append,this,T7,List.map_cons,List.sum_cons];omega
  ·obtain⟨h1,h2⟩:=B3 h11;rw[h1,h2]
   simp[T7]
theorem b0m:∀ {t:Ty},G4 t->(o4 t).op≠11:=by
 intro t
 induction t using Ty.ind with
 | h t ih =>
  intro hsp
  by_cases h11:t.op=11
  ·obtain⟨a,b,hk,hsb,hf,ht⟩:=I8 hsp h11;rw[ht];exact ih b (by rw[hk];simp) hsb
  ·rw[(B3 h11).2];exact h11
theorem b0n:∀ {t:Ty},G4 t->o4 t∈t.parts:=by
 intro t
 induction t using Ty.ind with
 | h t ih =>
  intro hsp
  by_cases h11:t.op=11
  ·obtain⟨a,b,hk,hsb,hf,ht⟩:=I8 hsp h11;rw[ht,o9];exact List.mem_cons_of_mem _ (List.mem_flatMap.2 ⟨b,by rw[hk];simp,ih b (by rw[hk];simp) hsb⟩)
  ·rw[(B3 h11).2,A3];exact List.mem_cons_self ..
theorem a0N {α:Type} {f g:α->Nat}:∀ {l:List α},(∀x∈l,f x=g x)->(l.map f).sum=(l.map g).sum
 | [],_=>rfl
 | x::l,h=>by
  rw[List.map_cons,List.map_cons,List.sum_cons,List.sum_cons,h x (List.mem_cons_self ..),a0N λy hy=>h y (List.mem_cons_of_mem _ hy)]
theorem a0o:∀(n:Nat) (t:Ty),t.parts.length<=n->(∀x∈t.parts,G4 x)->(j7 t).parts.length=t.parts.length:=by
 intro n
 induction n with
 | zero=>intro t h;have:=v6 t;omega
 | succ n ih =>
  intro t hn hsp;have ht:G4 t:=hsp t (by rw[A3];exact List.mem_cons_self ..)
  by_cases h11:t.op=11
  ·rw[M9 h11,a6B,a4X _ t (Nat.le_refl _) ht]
   congr 1
   rw[<-a7j (b1w C4 (l5 t))];unfold T7;rw[List.map_map];refine a0N λf hf=>?_
   have h1:=F3 _ t (Nat.le_refl _) f (F6 hf);have h2:=Y0 _ t (Nat.le_refl _) f (F6 hf);simp only[Function.comp];rw[ih f.2 (by omega) λx hx=>hsp x (C1 hx h2)]
  ·rw[C7 h11,o9,o9 t];simp only[Ty.kids,List.length_cons,List.length_flatMap,List.map_map]
   congr 1
   refine a0N λx hx=>?_
   have h1:=(A4 t).2 x hx;simp only[Function.comp];exact ih x (by omega) λy hy=>hsp y (by rw[o9];exact List.mem_cons_of_mem _ (List.mem_flatMap.2 ⟨x,hx,hy⟩))
def H0 (t:Ty):Prop:=∀x∈t.parts,G4 x
theorem H0.kid {t x:Ty} (h:H0 t) (hx:x∈t.kids):H0 x:=λy hy=>h y (by rw[o9];exact List.mem_cons_of_mem _ (List.mem_flatMap.2 ⟨x,hx,hy⟩))
theorem H0.part {t x:Ty} (h:H0 t) (hx:x∈t.parts):H0 x:=λy hy=>h y (C1 hy hx)
theorem H0.self {t:Ty} (h:H0 t):G4 t:=h t (by rw[A3];exact List.mem_cons_self ..)
theorem H0.mk {t:Ty} (h:G4 t) (hk:∀x∈t.kids,H0 x):H0 t:=λy hy=>by
 rw[o9] at hy
 rcases List.mem_cons.1 hy with rfl|hy
 ·exact h
 ·obtain⟨x,hx,hy⟩:=List.mem_flatMap.1 hy;exact hk x hx y hy
theorem a1y (f:ByteArray×Ty) (fs:List (ByteArray×Ty)) (tl:Ty):a0c (f::fs) tl=.mk 11 f.1 0 [f.2,a0c fs tl]:=rfl
theorem a0d {tl:Ty} (ht:tl.op≠11):∀fs:List (ByteArray×Ty),l5 (a0c fs tl)=fs/\o4 (a0c fs tl)=tl
 | []=>by have:=B3 ht;exact⟨this.1,this.2⟩
 | f::fs=>by
  have ih:=a0d ht fs;rw[a1y]
  constructor
  ·conv=>lhs;unfold l5
   rw[if_pos rfl,ih.1]
  ·conv=>lhs;unfold o4
   rw[if_pos rfl,ih.2]
theorem a4Y {tl:Ty} {fs:List (ByteArray×Ty)} (h:fs≠[]):(a0c fs tl).op=11:=by
 cases fs with
 | nil=>exact absurd rfl h
 | cons f fs=>rfl
theorem b3A {t:Ty} (hsp:G4 t) (h:t.op=11):l5 t≠[]:=by
 obtain⟨a,b,hk,hsb,hf,ht⟩:=I8 hsp h;rw[hf];simp
theorem b5z {α:Type} {lt:α->α->Bool} {l:List α} (h:l≠[]):j9 lt l≠[]:=by
 intro e;have:=congrArg List.length e;rw[N0] at this;exact h (List.eq_nil_of_length_eq_zero (by simpa using this))
theorem b1x {t:Ty} (hsp:G4 t) (h:t.op=11):(j7 t).op=11:=by
 rw[M9 h]
 exact a4Y (by
  intro e
  exact b5z (lt:=C4) (b3A hsp h) (List.map_eq_nil_iff.1 e))
theorem a3P {t:Ty} (hsp:G4 t):(j7 t).op=t.op:=by
 by_cases h:t.op=11
 ·rw[b1x hsp h,h]
 ·rw[C7 h];rfl
theorem a00 (iw:ByteArray->Bool):∀(ts:List Ty) (ks:List Int),v7 iw ts ks=true->∀x∈ts,∃c,m8 iw x c=true
 | [],_,_,x,hx=>by simp at hx
 | t::ts,[],h,x,hx=>by rw[v7] at h;cases h
 | t::ts,k::ks,h,x,hx=>by
  rw[v7,Bool.and_eq_true] at h
  rcases List.mem_cons.1 hx with rfl|hx
  ·exact⟨k,h.1⟩
  ·exact a00 iw ts ks h.2 x hx
theorem a4Z (iw:ByteArray->Bool) (t:Ty):∀s,m8 iw t s=true->∀x∈t.parts,G4 x:=by
 induction t using Ty.ind with
 | h t ih =>
  intro s hs x hx;cases hko:C3 t.op with
  | none=>rw[a6A hko] at hs;cases hs
  | some k =>
   obtain⟨op,nm,n,kids⟩:=t;rw[a3k (k:=k) (by exact hko)] at hs;simp only[Bool.and_eq_true,decide_eq_true_eq] at hs;obtain⟨⟨_,hlen,_⟩,hss⟩:=hs;rw[o9] at hx
   rcases List.mem_cons.1 hx with rfl|hx
   ·simp only[Ty.op] at hko
    by_cases h11:op=11
    ·subst h11
     have hk:k.length=2:=by
      have:C3 11=some [116,114]:=by decide
      rw[this] at hko;injection hko with hko;rw[<-hko];rfl
     rw[hk] at hlen
     match kids,hlen,ih,hss with
     | [a,b],_,ih,hss =>
      obtain⟨c,hc⟩:=a00 iw _ _ hss b (by simp);exact λ_=>ih b (by simp[Ty.kids]) c hc b (by rw[A3];exact List.mem_cons_self ..)
    ·match kids with
     | []=>exact h11
     | [a]=>exact h11
     | [a,b]=>exact λh=>absurd h h11
     | a::b::c::l=>exact h11
   ·obtain⟨y,hy,hx⟩:=List.mem_flatMap.1 hx;obtain⟨c,hc⟩:=a00 iw _ _ hss y hy;exact ih y hy c hc x hx
def a2m (t:Ty):Bool:=(t.op == 7) || (t.op == 10)
def C5:List Ty->List Int->List Int
 | [],acc=>acc
 | t::ts,acc=>C5 ts (if a2m t=true/\t.n∉acc then acc++[t.n] else acc)
def T8 (t:Ty):List Int:=C5 (j7 t).parts []
theorem a6C:∀(ts:List Ty) (acc:List Int) (t:Ty),C5 (ts++[t]) acc=(if a2m t=true/\t.n∉C5 ts acc then C5 ts acc++[t.n] else C5 ts acc)
 | [],_,_=>rfl
 | u::us,acc,t=>a6C us (if a2m u=true/\u.n∉acc then acc++[u.n] else acc) t
theorem a49:∀(ts:List Ty) (acc:List Int),(C5 ts acc).length<=acc.length+ts.length
 | [],acc=>by simp[C5]
 | u::us,acc=>by
  rw[C5];have:=a49 us (if a2m u=true/\u.n∉acc then acc++[u.n] else acc);have h2:(if a2m u=true/\u.n∉acc then acc++[u.n] else acc).length<=acc.length+1:=by split <;> simp
  simp only[List.length_cons];omega
theorem b0o {W:ByteArray->Bool} {t:Ty} {s:Int} (h:m8 W t s=true):∃k,C3 t.op=some k/\(decide (8<=t.op) == (s == 114))=true/\t.kids.length=k.length/\0<=t.n/\v7 W t.kids k=true:=by
 rw[a2c] at h;cases hk:C3 t.op with
 | none=>unfold a2b at h;rw[hk] at h;simp at h
 | some k =>
  unfold a2b at h;rw[hk] at h;simp only[Bool.and_eq_true,decide_eq_true_eq,Option.getD_some] at h;exact⟨k,rfl,h.1.1,h.1.2.1,h.1.2.2.2.1,h.2⟩
theorem b0p {W:ByteArray->Bool} {t:Ty} (h:m8 W t 116=true):0<=t.n/\(((t.op=1\/t.op=2\/t.op=3\/t.op=7)/\t.kids=[])\/(t.op=4/\∃a b,t.kids=[a,b]/\m8 W a 116=true/\m8 W b 116=true)\/((t.op=5\/t.op=6)/\∃a,t.kids=[a]/\m8 W a 114=true)):=by
 obtain⟨k,hk,h1,h2,h3,h4⟩:=b0o h;refine⟨h3,?_⟩;have h1:¬8<=t.op:=λh8=>by rw[decide_eq_true h8] at h1;exact absurd h1 (by decide)
 unfold C3 at hk
 split at hk
 ·rename_i ho;injection hk with hk;subst hk
  exact .inl ⟨by omega,List.eq_nil_of_length_eq_zero h2⟩
 ·split at hk
  ·rename_i ho;injection hk with hk;subst hk
   match t.kids,h2,h4 with
   | [a,b],_,h4=>simp only[v7,Bool.and_eq_true] at h4;exact .inr (.inl ⟨ho,a,b,rfl,h4.1,h4.2.1⟩)
  ·split at hk
   ·rename_i ho;injection hk with hk;subst hk
    match t.kids,h2,h4 with
    | [a],_,h4=>simp only[v7,Bool.and_eq_true] at h4;exact .inr (.inr ⟨ho,a,rfl,h4.1⟩)
   ·split at hk
    ·omega
    ·cases hk
theorem a6D {W:ByteArray->Bool} {t:Ty} (h:m8 W t 114=true):0<=t.n/\(((t.op=8\/t.op=9\/t.op=10)/\t.kids=[])\/(t.op=11/\∃a b,t.kids=[a,b]/\m8 W a 116=true/\m8 W b 114=true)):=by
 obtain⟨k,hk,h1,h2,h3,h4⟩:=b0o h;refine⟨h3,?_⟩
 have h1:8<=t.op:=by
  by_cases h8:8<=t.op
  ·exact h8
  ·rw[decide_eq_false h8] at h1;exact absurd h1 (by decide)
 unfold C3 at hk
 split at hk
 ·rename_i ho;injection hk with hk;subst hk
  exact .inl ⟨by omega,List.eq_nil_of_length_eq_zero h2⟩
 ·split at hk
  ·omega
  ·split at hk
   ·omega
   ·split at hk
    ·rename_i ho;injection hk with hk;subst hk
     match t.kids,h2,h4 with
     | [a,b],_,h4=>simp only[v7,Bool.and_eq_true] at h4;exact .inr ⟨ho,a,b,rfl,h4.1,h4.2.1⟩
    ·cases hk
def K6 (g:Ty->List UInt8):Bool->List (ByteArray×Ty)->List UInt8
 | _,[]=>[]
 | first,f::fs=>(if first=true then [] else [44])++(f.1.data.toList++(58::(g f.2++K6 g false fs)))
def U5 (t:Ty):List UInt8:=if t.op=9 then [124,63] else if t.op=10 then 124::39::Lib.itoa t.n else []
def B1 (g:Ty->List UInt8) (t:Ty):List UInt8:=K6 g true (l5 t)++U5 (o4 t)
def E9 (g:Ty->List UInt8) (t:Ty):List UInt8:=if t.op=4 then 40::(g t++[41]) else g t
def a6E (g:Ty->List UInt8) (t:Ty):List UInt8 :=
 if t.op=1 then [73,110,116] else if t.op=2 then [66,111,111,108] else if t.op=3 then [63] else if t.op=7 then 39::Lib.itoa t.n else
 if t.op=5 then (match t.kids with|[a]=>123::(B1 g a++[125])|_=>[]) else if t.op=6 then (match t.kids with|[a]=>60::(B1 g a++[62])|_=>[]) else
 if t.op=4 then (match t.kids with|[a,b]=>E9 g a++(45::62::g b)|_=>[]) else []
def b1y:Nat->Ty->List UInt8
 | 0,_=>[]
 | m+1,t=>a6E (b1y m) t
def l8 (t:Ty):List UInt8:=b1y t.parts.length t
theorem a6F {g g':Ty->List UInt8}:∀(fs:List (ByteArray×Ty)) (b:Bool),(∀f∈fs,g f.2=g' f.2)->K6 g b fs=K6 g' b fs
 | [],_,_=>rfl
 | f::fs,b,h=>by rw[K6,K6,h f (List.mem_cons_self ..),a6F fs false λx hx=>h x (List.mem_cons_of_mem _ hx)]
theorem b1z {g g':Ty->List UInt8} (t:Ty) (h:∀x:Ty,x.parts.length<t.parts.length->g x=g' x):B1 g t=B1 g' t:=by
 unfold B1;rw[a6F _ true λf hf=>h f.2 (F3 _ t (Nat.le_refl _) f hf)]
theorem a5a {g g':Ty->List UInt8} (t:Ty) (h:∀x:Ty,x.parts.length<t.parts.length->g x=g' x):a6E g t=a6E g' t:=by
 have hkl:=A4 t;unfold a6E
 match hk:t.kids with
 | []=>rfl
 | [a] =>
  have h1:=hkl.2 a (by rw[hk];simp);dsimp only;rw[b1z a λx hx=>h x (by omega)]
 | [a,b] =>
  have h1:=hkl.2 a (by rw[hk];simp);have h2:=hkl.2 b (by rw[hk];simp);dsimp only;unfold E9;rw[h a (by omega),h b (by omega)]
 | a::b::c::l=>rfl
theorem b0q:∀(n m:Nat) (t:Ty),t.parts.length<=n->t.parts.length<=m->b1y n t=b1y m t
 | 0,_,t,h,_=>by have:=v6 t;omega
 | _+1,0,t,_,h=>by have:=v6 t;omega
 | n+1,m+1,t,h1,h2=>by rw[b1y,b1y];exact a5a t λx hx=>b0q n m x (by omega) (by omega)
theorem L6 (t:Ty):l8 t=a6E l8 t:=by
 unfold l8;have:=v6 t;obtain⟨m,hm⟩:∃m,t.parts.length=m+1:=⟨t.parts.length - 1,by omega⟩;rw[hm,b1y];exact a5a t λx hx=>b0q m _ x (by omega) (Nat.le_refl _)
theorem b2O {g:Ty->List UInt8} (b:Bool) {t x y:Ty} (ho:t.op=11) (hk:t.kids=[x,y]):K6 g b (l5 t)++U5 (o4 t)=(if b=true then [] else [44])++(t.name.data.toList++(58::(g x++(K6 g false (l5 y)++U5 (o4 y))))):=by
 obtain⟨op,nm,n,ks⟩:=t;have ho:op=11:=ho;have hk:ks=[x,y]:=hk;subst ho;subst hk;rw[l5,if_pos rfl,o4,if_pos rfl,K6]
 simp[Ty.name]
def WrU (f:Nat) (t:Ty) (out:List UInt8):Prop:=∀l:List UInt8,l.length+out.length<=137438953472->B0 f [.ptr 0 0,.ag (ofD (cT t))] (a0M l) (λres os=>res=[]/\os=a0M (l++out))
theorem j8 (l:List UInt8):a0M l=[.box [.ptr 0 0,.own 1],.row false 5 (rU l)]:=rfl
theorem a3l (t:Ty) (hop:t.op=1\/t.op=2\/t.op=3):WrU 80 t (l8 t):=by
 intro l hl;rw[L6] at hl ⊢;unfold a6E at hl ⊢;have c1:=a4W l ⟨#[73,110,116]⟩;have c2:=a4W l ⟨#[66,111,111,108]⟩;have c3:=a17 l 63;obtain⟨op,nm,n,ks⟩:=t;simp only[Ty.op] at hop hl ⊢;rw[cT];generalize rT ks=K
 rcases hop with rfl|rfl|rfl
 ·replace c1:=c1 (by rw[show (⟨#[73,110,116]⟩:ByteArray).size=3 from rfl];simpa using hl);show B0 _ _ _ (λres os=>res=[]/\os=a0M (l++H3 ⟨#[73,110,116]⟩));clear c2 c3;rw[j8] at *;rw[j8] at *;generalize rU (l++H3 ⟨#[73,110,116]⟩)=R1 at *;generalize rU l=R0 at *;clear hl;refine so9 Tryz.func80 rfl λqa qb qc qd qe qf qg qh qi qj qk ql qm qo qp qq qt qu qv qw qx qy qz va vc vd ve vf vg vh vj vk vl vm vn vo vp vq vr vt vu vv vw hA=>?_
  obtain⟨e1,e2,e3,e4,e5,e6,e7,e8,e9⟩:=l7 hA;have h1:qj 1 1=true:=e9 _ _
  iterate 2 (try cbv;repeat ((first|with_reducible apply j2 hA|rw[h1]);cbv))
  try simp (maxSteps:=4000000) only [nc] at *
  refine l9 hA [0,1] c1 ⟨rfl,rfl,rfl,rfl,rfl,rfl,rfl⟩ ?_
  rintro _ _ ⟨rfl,rfl⟩
  iterate 2 (try cbv;repeat ((first|with_reducible apply j2 hA);cbv))
  try simp (maxSteps:=4000000) only [nc] at *
  exact r7 hA [0,1] ⟨rfl,rfl,rfl,rfl,rfl,rfl,rfl,rfl⟩ ⟨rfl,rfl⟩
 ·replace c2:=c2 (by rw[show (⟨#[66,111,111,108]⟩:ByteArray).size=4 from rfl];simpa using hl);show B0 _ _ _ (λres os=>res=[]/\os=a0M (l++H3 ⟨#[66,111,111,108]⟩));clear c1 c3;rw[j8] at *;rw[j8] at *;generalize rU (l++H3 ⟨#[66,111,111,108]⟩)=R1 at *;generalize rU l=R0 at *;clear hl;refine so9 Tryz.func80 rfl λqa qb qc qd qe qf qg qh qi qj qk ql qm qo qp qq qt qu qv qw qx qy qz va vc vd ve vf vg vh vj vk vl vm vn vo vp vq vr vt vu vv vw hA=>?_
  obtain⟨e1,e2,e3,e4,e5,e6,e7,e8,e9⟩:=l7 hA;have h1:qj 2 1=false:=e9 _ _;have h2:qj 2 2=true:=e9 _ _
  iterate 2 (try cbv;repeat ((first|with_reducible apply j2 hA|rw[h1]|rw[h2]);cbv))
  try simp (maxSteps:=4000000) only [nc] at *
  refine l9 hA [0,1] c2 ⟨rfl,rfl,rfl,rfl,rfl,rfl,rfl⟩ ?_
  rintro _ _ ⟨rfl,rfl⟩
  iterate 2 (try cbv;repeat ((first|with_reducible apply j2 hA);cbv))
  try simp (maxSteps:=4000000) only [nc] at *
  exact r7 hA [0,1] ⟨rfl,rfl,rfl,rfl,rfl,rfl,rfl,rfl⟩ ⟨rfl,rfl⟩
 ·replace c3:=c3 (by simpa using hl);show B0 _ _ _ (λres os=>res=[]/\os=a0M (l++[63]));replace c3:B0 95 [.ptr 0 0,vi .u8 63] _ _:=c3;clear c1 c2;rw[j8] at *;rw[j8] at *;generalize rU (l++[63])=R1 at *;generalize rU l=R0 at *;clear hl;refine so9 Tryz.func80 rfl λqa qb qc qd qe qf qg qh qi qj qk ql qm qo qp qq qt qu qv qw qx qy qz va vc vd ve vf vg vh vj vk vl vm vn vo vp vq vr vt vu vv vw hA=>?_
  obtain⟨e1,e2,e3,e4,e5,e6,e7,e8,e9⟩:=l7 hA;have h1:qj 3 1=false:=e9 _ _;have h2:qj 3 2=false:=e9 _ _;have h3:qj 3 3=true:=e9 _ _
  iterate 2 (try cbv;repeat ((first|with_reducible apply j2 hA|rw[h1]|rw[h2]|rw[h3]);cbv))
  try simp (maxSteps:=4000000) only [nc] at *
  refine l9 hA [0,1] c3 ⟨rfl,rfl,rfl,rfl,rfl,rfl,rfl⟩ ?_
  rintro _ _ ⟨rfl,rfl⟩
  iterate 2 (try cbv;repeat ((first|with_reducible apply j2 hA);cbv))
  try simp (maxSteps:=4000000) only [nc] at *
  exact r7 hA [0,1] ⟨rfl,rfl,rfl,rfl,rfl,rfl,rfl,rfl⟩ ⟨rfl,rfl⟩
theorem b3B (nm:ByteArray) (n:Int) (ks:List Ty) (h0:0<=n) (h1:n<=9223372036854775807):WrU 80 (.mk 7 nm n ks) (39::Lib.itoa n):=by
 intro l hl;have c1:=a4W l (⟨#[39]⟩++⟨(Lib.itoa n).toArray⟩);have hi:=b1u n (by omega) h1;have hb:H3 (⟨#[39]⟩++⟨(Lib.itoa n).toArray⟩:ByteArray)=39::Lib.itoa n:=by unfold H3;simp
 have hz:(⟨#[39]⟩++⟨(Lib.itoa n).toArray⟩:ByteArray).size=(39::Lib.itoa n).length:=by rw[<-hb,B8]
 replace c1:=c1 (by rw[hz];exact hl);rw[hb] at c1
 have hfit:(⟨#[39]⟩:ByteArray).size+(⟨(Lib.itoa n).toArray⟩:ByteArray).size<=4611686018427387904:=by
  have h2:(⟨#[39]⟩++⟨(Lib.itoa n).toArray⟩:ByteArray).size=(⟨#[39]⟩:ByteArray).size+(⟨(Lib.itoa n).toArray⟩:ByteArray).size:=by simp
  rw[<-h2,hz];omega
 rw[cT];generalize rT ks=K;clear hz hb;rw[j8] at *;rw[j8] at *;generalize rU (l++39::Lib.itoa n)=R1 at *;generalize rU l=R0 at *;clear hl;generalize (⟨(Lib.itoa n).toArray⟩:ByteArray)=D at *;obtain⟨S,hS⟩:∃S,S=(⟨#[39]⟩++D:ByteArray):=⟨_,rfl⟩;rw[<-hS] at c1;refine so9 Tryz.func80 rfl ?_;intro _ _ _ _ _ _ _ _ _ qj _ _ _ _ qp;intros;rename_i hA;obtain⟨e1,e2,e3,e4,e5,e6,e7,e8,e9⟩:=l7 hA;obtain⟨s1,s2,s3,s4,s5,s6,s7⟩:=o8 hA;have h1:qj 7 1=false:=e9 _ _;have h2:qj 7 2=false:=e9 _ _;have h3:qj 7 3=false:=e9 _ _;have h7:qj 7 7=true:=e9 _ _;have hc:qp ⟨#[39]⟩ D=S:=by rw[s4,hS]
 iterate 2 (try cbv;repeat ((first|with_reducible apply j2 hA|rw[h1]|rw[h2]|rw[h3]|rw[h7]|refine j3 hA _ hi rfl ?_|refine j4 hA _ hi ?_);cbv))
 try simp (maxSteps:=4000000) only [nc] at *
 refine n9 hA hfit ?_;cbv;rw[hc]
 iterate 2 (try cbv;repeat ((first|with_reducible apply j2 hA);cbv))
 try simp (maxSteps:=4000000) only [nc] at *
 refine l9 hA [0,1] c1 ⟨rfl,rfl,rfl,rfl,rfl,rfl,rfl⟩ ?_
 rintro _ _ ⟨rfl,rfl⟩
 iterate 2 (try cbv;repeat ((first|with_reducible apply j2 hA);cbv))
 try simp (maxSteps:=4000000) only [nc] at *
 exact r7 hA [0,1] ⟨rfl,rfl,rfl,rfl,rfl,rfl,rfl,rfl⟩ ⟨rfl,rfl⟩
def Mod (t:Ty):Prop:=∀x∈t.parts,x.name.size<=32/\0<=x.n/\x.n<=9223372036854775807
theorem Mod.kid {t x:Ty} (h:Mod t) (hx:x∈t.kids):Mod x:=λy hy=>h y (by rw[o9];exact List.mem_cons_of_mem _ (List.mem_flatMap.2 ⟨x,hx,hy⟩))
theorem Mod.self {t:Ty} (h:Mod t):t.name.size<=32/\0<=t.n/\t.n<=9223372036854775807:=h t (by rw[A3];exact List.mem_cons_self ..)
theorem a7V {t a:Ty} (h:t.kids=[a]):t.parts.length=1+a.parts.length:=by rw[o9,h];simp;omega
theorem a7W {t a b:Ty} (h:t.kids=[a,b]):t.parts.length=1+a.parts.length+b.parts.length:=by rw[o9,h];simp;omega
theorem b7n {t:Ty} (h:¬(t.op=11/\∃a b,t.kids=[a,b])):l5 t=[]/\o4 t=t:=by
 obtain⟨op,nm,n,ks⟩:=t
 match ks,h with
 | [],_=>exact⟨rfl,rfl⟩
 | [a],_=>exact⟨rfl,rfl⟩
 | a::b::c::l,_=>exact⟨rfl,rfl⟩
 | [a,b],h =>
  have h:op≠11:=λe=>h ⟨e,a,b,rfl⟩
  unfold l5 o4;rw[if_neg h,if_neg h];exact⟨rfl,rfl⟩
theorem b3C (t:Ty) (h:0<=t.n/\t.n<=9223372036854775807):(U5 t).length<=23:=by
 have h1:=Lib.itoa_length_le t.n (by omega) h.2;unfold U5
 split
 ·simp
 ·split
  ·simp;omega
  ·simp
theorem b2P:∀(m:Nat) (t:Ty),t.parts.length<=m->Mod t->(l8 t).length<=64 * t.parts.length/\∀b,(K6 l8 b (l5 t)++U5 (o4 t)).length<=64 * t.parts.length:=by
 intro m
 induction m with
 | zero=>intro t h;have:=v6 t;omega
 | succ m ih =>
  intro t hm hM;have hkl:=A4 t;have hp:=v6 t;have hs:=hM.self
  constructor
  ·rw[L6];unfold a6E
   split
   ·simp;omega
   split
   ·simp;omega
   split
   ·simp;omega
   split
   ·have h1:=Lib.itoa_length_le t.n (by omega) hs.2.2
    simp;omega
   split
   ·split
    ·rename_i a hk;have h1:=(ih a (by have:=hkl.2 a (by rw[hk];simp);omega) (hM.kid (by rw[hk];simp))).2 true;have h2:=a7V hk;unfold B1;simp only[List.length_cons,List.length_append,List.length_nil] at h1 ⊢;omega
    ·simp
   split
   ·split
    ·rename_i a hk;have h1:=(ih a (by have:=hkl.2 a (by rw[hk];simp);omega) (hM.kid (by rw[hk];simp))).2 true;have h2:=a7V hk;unfold B1;simp only[List.length_cons,List.length_append,List.length_nil] at h1 ⊢;omega
    ·simp
   split
   ·split
    ·rename_i a b hk;have h1:=(ih a (by have:=hkl.2 a (by rw[hk];simp);omega) (hM.kid (by rw[hk];simp))).1;have h2:=(ih b (by have:=hkl.2 b (by rw[hk];simp);omega) (hM.kid (by rw[hk];simp))).1;have h3:=a7W hk;unfold E9
     split <;> simp only[List.length_cons,List.length_append,List.length_nil] <;> omega
    ·simp
   ·simp
  ·intro b
   by_cases h:t.op=11/\∃a b,t.kids=[a,b]
   ·obtain⟨h11,x,y,hk⟩:=h;have h1:=(ih x (by have:=hkl.2 x (by rw[hk];simp);omega) (hM.kid (by rw[hk];simp))).1;have h2:=(ih y (by have:=hkl.2 y (by rw[hk];simp);omega) (hM.kid (by rw[hk];simp))).2 false;have h3:=a7W hk;have h4:t.name.data.toList.length<=32:=hs.1;rw[b2O b h11 hk];simp only[List.length_append,List.length_cons] at h2 ⊢;have h5:(if b=true then ([]:List UInt8) else [44]).length<=1:=by split <;> simp
    omega
   ·obtain⟨h1,h2⟩:=b7n h;rw[h1,h2];have h3:=b3C t hs.2;simp only[K6,List.nil_append];omega
theorem b9q {t:Ty} (h:Mod t):(l8 t).length<=64 * t.parts.length:=(b2P _ t (Nat.le_refl _) h).1
theorem b9r {t:Ty} (h:Mod t) (b:Bool):(K6 l8 b (l5 t)++U5 (o4 t)).length<=64 * t.parts.length:=(b2P _ t (Nat.le_refl _) h).2 b
theorem a7X (g:Ty->List UInt8):∀(l:List (ByteArray×Ty)) (b:Bool) (f:ByteArray×Ty),K6 g b (l++[f])=K6 g b l++((if (b && l.isEmpty)=true then [] else [44])++(f.1.data.toList++58::g f.2))
 | [],b,f=>by simp[K6]
 | x::l,b,f=>by
  rw[List.cons_append,K6,K6,a7X g l false f]
  simp
theorem b12 {t:Ty} (hs:G4 t) (h11:t.op=11):l5 (j7 t)=(j9 C4 (l5 t)).map (λf=>(f.1,j7 f.2))/\o4 (j7 t)=o4 t:=by
 rw[M9 h11];exact a0d (b0m hs) _
theorem a5b (t:Ty):cT t=[.sc (.int .u8 t.op),.sc (.string t.name),.sc (.int .i64 t.n),.sl 4 (rT t.kids)]:=by cases t;rw[cT];rfl
theorem c0M (W:ByteArray->Bool) (t:Ty) (hs:m8 W t 114=true) (hn:∀x∈t.parts,x.n<=9223372036854775807) (hW:∀x:Ty,x.parts.length<t.parts.length->x∈t.parts->m8 W x 116=true->WrU 80 x (l8 x)):WrU 97 t (B1 l8 t):=by
 intro l hl;rw[a5b];obtain⟨op0,hop0⟩:∃o,o=t.op:=⟨_,rfl⟩;obtain⟨nm0,hnm0⟩:∃o,o=t.name:=⟨_,rfl⟩;obtain⟨n0,hn0⟩:∃o,o=t.n:=⟨_,rfl⟩;obtain⟨K0,hK0⟩:∃o,o=rT t.kids:=⟨_,rfl⟩;obtain⟨R0,hR0⟩:∃o,o=rU l:=⟨_,rfl⟩;obtain⟨RE,hRE⟩:∃o,o=rU (l++B1 l8 t):=⟨_,rfl⟩;rw[j8,j8,<-hop0,<-hnm0,<-hn0,<-hK0,<-hR0,<-hRE];refine so9 Tryz.func97 rfl ?_;intro _ _ _ _ _ _ _ _ _ qj _ _ _ _ qp _ _ _ _ _ _ _ _ va _ _ _ _ _ _ _ _ _ _ _ _ _ _ _ _ _ vv;intros;rename_i hA;obtain⟨e1,e2,e3,e4,e5,e6,e7,e8,e9⟩:=l7 hA;obtain⟨r1,r2,r3,r4⟩:=n8 hA;obtain⟨s1,s2,s3,s4,s5,s6,s7⟩:=o8 hA
 iterate 2 (try cbv;repeat ((first|with_reducible apply j2 hA);cbv))
 try simp (maxSteps:=4000000) only [nc] at *
 refine o5 hA (γ:=Bool×Int×ByteArray×Int×List (List D)×List (List D)×Nat) (λx=>[(4,.d (.sc (.bool x.1)))]) (λx=>[(1,.row false 5 x.2.2.2.2.2.1),(2,.box [.d (.sc (.int .u8 x.2.1)),.d (.sc (.string x.2.2.1)),.d (.sc (.int .i64 x.2.2.2.1)),.d (.sl 4 x.2.2.2.2.1)])])
  (λx=>∃(y:Ty) (pre:List UInt8),x.2=(y.op,y.name,y.n,rT y.kids,rU pre,y.parts.length)/\m8 W y 114=true/\y∈t.parts/\y.parts.length<=t.parts.length/\pre++(K6 l8 x.1 (l5 y)++U5 (o4 y))=l++B1 l8 t)
  (λx=>x.2.2.2.2.2.2) (true,op0,nm0,n0,K0,R0,t.parts.length) ?_ ?_ ?_
 ·exact⟨t,l,by rw[hop0,hnm0,hn0,hK0,hR0],hs,by rw[A3];exact List.mem_cons_self ..,Nat.le_refl _,rfl⟩
 ·cbv
 ·intro x hinv;obtain⟨b,op,nm,n,K,R,N⟩:=x;cbv
  repeat ((with_reducible apply j2 hA);cbv)
  obtain⟨y,pre,heq,hsy,hym,hle,hby⟩:=hinv;simp only[Prod.mk.injEq] at heq;obtain⟨hop,hnm,hnn,hK,hR,hN⟩:=heq
  replace hby:pre++(K6 l8 b (l5 y)++U5 (o4 y))=l++B1 l8 t:=hby
  obtain⟨hy0,hys⟩:=a6D hsy;have hyn:=hn y hym
  have hlen:pre.length+(K6 l8 b (l5 y)++U5 (o4 y)).length<=137438953472:=by
   have:=congrArg List.length hby
   simp only[List.length_append] at this ⊢;omega
  have h11:qj op 11=decide (op=11):=e9 _ _
  by_cases hc:y.op=11
  ·rw[hop,decide_eq_true hc,<-hop] at h11
   obtain⟨-,a,c,hk,hsa,hsc⟩:y.op=11/\∃a b,y.kids=[a,b]/\m8 W a 116=true/\m8 W b 114=true:=by
    rcases hys with⟨h,_⟩|h
    ·omega
    ·exact h
   have hkl:=A4 y;have hpa:=hkl.2 a (by rw[hk];simp);have hpc:=hkl.2 c (by rw[hk];simp);have hma:a∈t.parts:=C1 (by rw[o9];exact List.mem_cons_of_mem _ (List.mem_flatMap.2 ⟨a,by rw[hk];simp,by rw[A3];exact List.mem_cons_self ..⟩)) hym;have hmc:c∈t.parts:=C1 (by rw[o9];exact List.mem_cons_of_mem _ (List.mem_flatMap.2 ⟨c,by rw[hk];simp,by rw[A3];exact List.mem_cons_self ..⟩)) hym;have hwa:=hW a (by omega) hma hsa;have hat:=b2O (g:=l8) b hc hk;rw[hat] at hby hlen;have hlc:(cT c)=[.sc (.int .u8 c.op),.sc (.string c.name),.sc (.int .i64 c.n),.sl 4 (rT c.kids)]:=a5b c;have hnml:y.name.data.toList.length=y.name.size:=rfl;simp only[List.length_append,List.length_cons] at hlen;obtain⟨a0,a1,a2,a3,ha⟩:=l6 a;obtain⟨P1,hP1⟩:∃P,P=pre++(if b=true then [] else [44]):=⟨_,rfl⟩;have hl1:P1.length=pre.length+(if b=true then ([]:List UInt8) else [44]).length:=by rw[hP1,List.length_append]
   have c1:=a17 pre 44;have c2:=a4W P1 nm (by rw[hnm,<-hnml];omega);have c3:=a17 (P1++H3 nm) 58 (by rw[List.length_append,B8,hnm,<-hnml];omega);have c4:=hwa (P1++H3 nm++[58]) (by rw[List.length_append,List.length_append,B8,hnm,<-hnml];simp only[List.length_cons,List.length_nil];omega)
   have hnew:(P1++H3 nm++[58]++l8 a)++(K6 l8 false (l5 c)++U5 (o4 c))=l++B1 l8 t:=by
    rw[<-hby,hP1,hnm];show _=pre++((if b=true then [] else [44])++(H3 y.name++58::(l8 a++(K6 l8 false (l5 c)++U5 (o4 c)))))
    simp
   rw[ha] at c4;rw[j8] at c1 c2 c3 c4;rw[j8] at c1 c2 c3 c4;have g0:va K 0=some [a0,a1,a2,a3]:=by rw[r2,if_pos (by omega),hK,hk,rT,ha];rfl
   obtain⟨cop,hcop⟩:∃o,o=c.op:=⟨_,rfl⟩;obtain⟨cnm,hcnm⟩:∃o,o=c.name:=⟨_,rfl⟩;obtain⟨cn,hcn⟩:∃o,o=c.n:=⟨_,rfl⟩;obtain⟨cK,hcK⟩:∃o,o=rT c.kids:=⟨_,rfl⟩;have g1:va K 1=some [.sc (.int .u8 cop),.sc (.string cnm),.sc (.int .i64 cn),.sl 4 cK]:=by rw[r2,if_pos (by omega),hK,hk,rT,rT,hlc,hcop,hcnm,hcn,hcK];rfl
   obtain⟨cN,hcN⟩:∃o,o=c.parts.length:=⟨_,rfl⟩;have hmu:cN<N:=by rw[hcN,hN];exact hpc
   obtain⟨R4,hR4⟩:∃o,o=rU (P1++H3 nm++[58]++l8 a):=⟨_,rfl⟩
   have fin:∃(y:Ty) (pre:List UInt8),(cop,cnm,cn,cK,R4,cN)=(y.op,y.name,y.n,rT y.kids,rU pre,y.parts.length)/\m8 W y 114=true/\y∈t.parts/\y.parts.length<=t.parts.length/\pre++(K6 l8 false (l5 y)++U5 (o4 y))=l++B1 l8 t :=
    ⟨c,P1++H3 nm++[58]++l8 a,by rw[hcop,hcnm,hcn,hcK,hR4,hcN],hsc,hmc,by omega,hnew⟩
   rw[<-hR4] at c4;rw[<-hR] at c1;rw[h11];cases b with
   | true =>
    have hP:P1=pre:=by rw[hP1];simp
    rw[hP,<-hR] at c2;rw[hP] at c3 c4;clear c1;generalize rU (pre++H3 nm)=R2 at *;generalize rU (pre++H3 nm++[58])=R3 at *;clear hR4 hwa hW hn hl hs hnew hP hP1 hat hby hl1 hlen
    iterate 2 (try cbv;repeat ((first|with_reducible apply j2 hA|rw[g0]|rw[g1]|(refine l9 hA [0,1] c2 ⟨rfl,rfl,rfl,rfl,rfl,rfl,rfl⟩ ?_;rintro _ _ ⟨rfl,rfl⟩)|(refine l9 hA [0,1] c3 ⟨rfl,rfl,rfl,rfl,rfl,rfl,rfl⟩ ?_;rintro _ _ ⟨rfl,rfl⟩)|(refine l9 hA [0,1] c4 ⟨rfl,rfl,rfl,rfl,rfl,rfl,rfl⟩ ?_;rintro _ _ ⟨rfl,rfl⟩));cbv))
    try simp (maxSteps:=4000000) only [nc] at *
    refine⟨(false,cop,cnm,cn,cK,R4,cN),fin,hmu,?_⟩;cbv
   | false =>
    have hP:P1=pre++[44]:=by rw[hP1];simp
    rw[hP] at c2 c3 c4;replace c1:B0 95 [.ptr 0 0,vi .u8 44] _ _:=c1 (by simp at hlen;omega);generalize rU (pre++[44])=R1 at *;generalize rU (pre++[44]++H3 nm)=R2 at *;generalize rU (pre++[44]++H3 nm++[58])=R3 at *;clear hR4 hwa hW hn hl hs hnew hP hP1 hat hby hl1 hlen
    iterate 2 (try cbv;repeat ((first|with_reducible apply j2 hA|rw[g0]|rw[g1]|(refine l9 hA [0,1] c1 ⟨rfl,rfl,rfl,rfl,rfl,rfl,rfl⟩ ?_;rintro _ _ ⟨rfl,rfl⟩)|(refine l9 hA [0,1] c2 ⟨rfl,rfl,rfl,rfl,rfl,rfl,rfl⟩ ?_;rintro _ _ ⟨rfl,rfl⟩)|(refine l9 hA [0,1] c3 ⟨rfl,rfl,rfl,rfl,rfl,rfl,rfl⟩ ?_;rintro _ _ ⟨rfl,rfl⟩)|(refine l9 hA [0,1] c4 ⟨rfl,rfl,rfl,rfl,rfl,rfl,rfl⟩ ?_;rintro _ _ ⟨rfl,rfl⟩));cbv))
    try simp (maxSteps:=4000000) only [nc] at *
    refine⟨(false,cop,cnm,cn,cK,R4,cN),fin,hmu,?_⟩;cbv
  ·rw[hop,decide_eq_false hc,<-hop] at h11
   have hy8:y.op=8\/y.op=9\/y.op=10:=by
    rcases hys with⟨h,_⟩|⟨h,_⟩
    ·exact h
    ·exact absurd h hc
   obtain⟨hf0,ht0⟩:=B3 hc;rw[hf0,ht0] at hby hlen;simp only[K6,List.nil_append] at hby hlen;rw[<-hby] at hRE;rw[h11];unfold U5 at hRE hlen
   rcases hy8 with ho|ho|ho
   ·have h9:qj op 9=false:=by rw[e9,hop,ho];rfl
    have h10:qj op 10=false:=by rw[e9,hop,ho];rfl
    rw[if_neg (by omega),if_neg (by omega),List.append_nil,<-hR] at hRE
    iterate 2 (try cbv;repeat ((first|with_reducible apply j2 hA|rw[h9]|rw[h10]);cbv))
    try simp (maxSteps:=4000000) only [nc] at *
    exact r7 hA [0,1] ⟨rfl,rfl,rfl,rfl,rfl,rfl,rfl,rfl⟩ ⟨rfl,by rw[hRE]⟩
   ·have h9:qj op 9=true:=by rw[e9,hop,ho];rfl
    rw[if_pos ho] at hRE hlen;have c1:=a4W pre ⟨#[124,63]⟩ (by rw[show (⟨#[124,63]⟩:ByteArray).size=2 from rfl];simpa using hlen);rw[show H3 ⟨#[124,63]⟩=[124,63] from rfl] at c1;rw[j8] at c1;rw[j8,<-hR,<-hRE] at c1
    iterate 2 (try cbv;repeat ((first|with_reducible apply j2 hA|rw[h9]);cbv))
    try simp (maxSteps:=4000000) only [nc] at *
    refine l9 hA [0,1] c1 ⟨rfl,rfl,rfl,rfl,rfl,rfl,rfl⟩ ?_
    rintro _ _ ⟨rfl,rfl⟩
    iterate 2 (try cbv;repeat ((first|with_reducible apply j2 hA);cbv))
    try simp (maxSteps:=4000000) only [nc] at *
    exact r7 hA [0,1] ⟨rfl,rfl,rfl,rfl,rfl,rfl,rfl,rfl⟩ ⟨rfl,rfl⟩
   ·have h9:qj op 9=false:=by rw[e9,hop,ho];rfl
    have h10:qj op 10=true:=by rw[e9,hop,ho];rfl
    rw[if_neg (by omega),if_pos ho] at hRE hlen;rw[<-hnn] at hRE hlen hy0 hyn;have hi:=b1u n (by omega) hyn;have hb:H3 (⟨#[124,39]⟩++⟨(Lib.itoa n).toArray⟩:ByteArray)=124::39::Lib.itoa n:=by unfold H3;simp
    have hz:(⟨#[124,39]⟩++⟨(Lib.itoa n).toArray⟩:ByteArray).size=(124::39::Lib.itoa n).length:=by rw[<-hb,B8]
    have c1:=a4W pre (⟨#[124,39]⟩++⟨(Lib.itoa n).toArray⟩) (by rw[hz];exact hlen);rw[hb] at c1
    have hfit:(⟨#[124,39]⟩:ByteArray).size+(⟨(Lib.itoa n).toArray⟩:ByteArray).size<=4611686018427387904:=by
     have h2:(⟨#[124,39]⟩++⟨(Lib.itoa n).toArray⟩:ByteArray).size=(⟨#[124,39]⟩:ByteArray).size+(⟨(Lib.itoa n).toArray⟩:ByteArray).size:=by simp
     rw[<-h2,hz];omega
    rw[j8] at c1;rw[j8,<-hR,<-hRE] at c1;clear hz hb hlen;generalize (⟨(Lib.itoa n).toArray⟩:ByteArray)=D at *;obtain⟨S,hS⟩:∃S,S=(⟨#[124,39]⟩++D:ByteArray):=⟨_,rfl⟩;rw[<-hS] at c1;have hc2:qp ⟨#[124,39]⟩ D=S:=by rw[s4,hS]
    iterate 2 (try cbv;repeat ((first|with_reducible apply j2 hA|rw[h9]|rw[h10]|refine j3 hA _ hi rfl ?_|refine j4 hA _ hi ?_);cbv))
    try simp (maxSteps:=4000000) only [nc] at *
    refine n9 hA hfit ?_;cbv;rw[hc2]
    iterate 2 (try cbv;repeat ((first|with_reducible apply j2 hA);cbv))
    try simp (maxSteps:=4000000) only [nc] at *
    refine l9 hA [0,1] c1 ⟨rfl,rfl,rfl,rfl,rfl,rfl,rfl⟩ ?_
    rintro _ _ ⟨rfl,rfl⟩
    iterate 2 (try cbv;repeat ((first|with_reducible apply j2 hA);cbv))
    try simp (maxSteps:=4000000) only [nc] at *
    exact r7 hA [0,1] ⟨rfl,rfl,rfl,rfl,rfl,rfl,rfl,rfl⟩ ⟨rfl,rfl⟩
theorem a01:b7m 103:=by unfold b7m;kernel_rfl
def WrF (f:Nat) (t:Ty) (out:List UInt8):Prop:=out.length<=137438953472->B0 f [.ptr 0 0,.ag (ofD (cT t))] [b0c 103] (λres os=>res=[]/\os=a0M out)
theorem r8 (T:Nat):[b0c T]=[.ob T [.pointer none,.slice none 0 0]]:=rfl
theorem b50 (t:Ty) (hop:t.op≠4) (hw:WrU 80 t (l8 t)):WrU 98 t (E9 l8 t):=by
 intro l hl;unfold E9 at hl ⊢;rw[if_neg hop] at hl ⊢;have c1:=hw l hl;rw[a5b] at c1 ⊢;obtain⟨op,hop0⟩:∃o,o=t.op:=⟨_,rfl⟩;rw[<-hop0] at c1 hop ⊢;generalize t.name=nm at *;generalize t.n=n at *;generalize rT t.kids=K at *
 try rw[j8] at c1
 try rw[j8] at c1
 try rw[r8] at c1
 try rw[j8] at ⊢
 try rw[j8] at ⊢
 try rw[r8] at ⊢
 generalize rU (l++l8 t)=R1 at *;generalize rU l=R0 at *;clear hl hw hop0;refine so9 Tryz.func98 rfl ?_;intro _ _ _ _ _ _ _ _ _ qj;intros;rename_i hA;obtain⟨e1,e2,e3,e4,e5,e6,e7,e8,e9⟩:=l7 hA;obtain⟨r1,r2,r3,r4⟩:=n8 hA;obtain⟨s1,s2,s3,s4,s5,s6,s7⟩:=o8 hA;have h4:qj op 4=false:=by rw[e9];simpa using hop
 iterate 2 (try cbv;repeat ((first|with_reducible apply j2 hA|rw[h4]|(refine l9 hA [0,1] c1 ⟨rfl,rfl,rfl,rfl,rfl,rfl,rfl⟩ ?_;rintro _ _ ⟨rfl,rfl⟩));cbv))
 try simp (maxSteps:=4000000) only [nc] at *
 exact r7 hA [0,1] ⟨rfl,rfl,rfl,rfl,rfl,rfl,rfl,rfl⟩ ⟨rfl,rfl⟩
theorem b51 (t:Ty) (hop:t.op=4) (hw:WrU 80 t (l8 t)):WrU 98 t (E9 l8 t):=by
 intro l hl;unfold E9 at hl ⊢;rw[if_pos hop] at hl ⊢;simp only[List.length_cons,List.length_append,List.length_nil] at hl;have c1:=a17 (l) 40 (by omega);have c2:=hw (l++[40]) (by simp only[List.length_cons,List.length_append,List.length_nil];omega);have c3:=a17 (l++[40]++l8 t) 41 (by simp only[List.length_cons,List.length_append,List.length_nil];omega);rw[show l++(40::(l8 t++[41]))=l++[40]++l8 t++[41] by simp];rw[a5b] at c2 ⊢;obtain⟨op,hop0⟩:∃o,o=t.op:=⟨_,rfl⟩;rw[<-hop0] at c2 hop ⊢;generalize t.name=nm at *;generalize t.n=n at *;generalize rT t.kids=K at *
 try rw[j8] at c1
 try rw[j8] at c1
 try rw[r8] at c1
 try rw[j8] at c2
 try rw[j8] at c2
 try rw[r8] at c2
 try rw[j8] at c3
 try rw[j8] at c3
 try rw[r8] at c3
 try rw[j8] at ⊢
 try rw[j8] at ⊢
 try rw[r8] at ⊢
 replace c1:B0 95 [.ptr 0 0,vi .u8 40] _ _:=c1;replace c3:B0 95 [.ptr 0 0,vi .u8 41] _ _:=c3;generalize rU (l++[40]++l8 t++[41])=R3 at *;generalize rU (l++[40]++l8 t)=R2 at *;generalize rU (l++[40])=R1 at *;generalize rU l=R0 at *;clear hl hw hop0;refine so9 Tryz.func98 rfl ?_;intro _ _ _ _ _ _ _ _ _ qj;intros;rename_i hA;obtain⟨e1,e2,e3,e4,e5,e6,e7,e8,e9⟩:=l7 hA;obtain⟨r1,r2,r3,r4⟩:=n8 hA;obtain⟨s1,s2,s3,s4,s5,s6,s7⟩:=o8 hA;have h4:qj op 4=true:=by rw[e9,hop];rfl
 iterate 2 (try cbv;repeat ((first|with_reducible apply j2 hA|rw[h4]|(refine l9 hA [0,1] c1 ⟨rfl,rfl,rfl,rfl,rfl,rfl,rfl⟩ ?_;rintro _ _ ⟨rfl,rfl⟩)|(refine l9 hA [0,1] c2 ⟨rfl,rfl,rfl,rfl,rfl,rfl,rfl⟩ ?_;rintro _ _ ⟨rfl,rfl⟩)|(refine l9 hA [0,1] c3 ⟨rfl,rfl,rfl,rfl,rfl,rfl,rfl⟩ ?_;rintro _ _ ⟨rfl,rfl⟩));cbv))
 try simp (maxSteps:=4000000) only [nc] at *
 exact r7 hA [0,1] ⟨rfl,rfl,rfl,rfl,rfl,rfl,rfl,rfl⟩ ⟨rfl,rfl⟩
theorem b13 (nm:ByteArray) (n:Int) (a:Ty) (hw:WrU 97 a (B1 l8 a)):WrU 80 (.mk 5 nm n [a]) (l8 (.mk 5 nm n [a])):=by
 intro l hl;have ht:l8 (.mk 5 nm n [a])=123::(B1 l8 a++[125]):=by rw[L6];rfl
 rw[ht] at hl ⊢;simp only[List.length_cons,List.length_append,List.length_nil] at hl;have c1:=a17 (l) 123 (by omega);have c2:=hw (l++[123]) (by simp only[List.length_cons,List.length_append,List.length_nil];omega);have c3:=a17 (l++[123]++B1 l8 a) 125 (by simp only[List.length_cons,List.length_append,List.length_nil];omega);rw[show l++(123::(B1 l8 a++[125]))=l++[123]++B1 l8 a++[125] by simp];rw[cT,rT,rT];obtain⟨a0,a1,a2,a3,ha⟩:=l6 a;rw[ha] at c2 ⊢
 try rw[j8] at c1
 try rw[j8] at c1
 try rw[r8] at c1
 try rw[j8] at c2
 try rw[j8] at c2
 try rw[r8] at c2
 try rw[j8] at c3
 try rw[j8] at c3
 try rw[r8] at c3
 try rw[j8] at ⊢
 try rw[j8] at ⊢
 try rw[r8] at ⊢
 replace c1:B0 95 [.ptr 0 0,vi .u8 123] _ _:=c1;replace c3:B0 95 [.ptr 0 0,vi .u8 125] _ _:=c3;generalize rU (l++[123]++B1 l8 a++[125])=R3 at *;generalize rU (l++[123]++B1 l8 a)=R2 at *;generalize rU (l++[123])=R1 at *;generalize rU l=R0 at *;clear hl hw ht;obtain⟨K,hK⟩:∃K,K=[[a0,a1,a2,a3]]:=⟨_,rfl⟩;rw[<-hK];refine so9 Tryz.func80 rfl ?_;intro _ _ _ _ _ _ _ _ _ qj _ _ _ _ _ _ _ _ _ _ _ _ _ va;intros;rename_i hA;obtain⟨e1,e2,e3,e4,e5,e6,e7,e8,e9⟩:=l7 hA;obtain⟨r1,r2,r3,r4⟩:=n8 hA;obtain⟨s1,s2,s3,s4,s5,s6,s7⟩:=o8 hA;have h1:qj 5 1=false:=e9 _ _;have h2:qj 5 2=false:=e9 _ _;have h3:qj 5 3=false:=e9 _ _;have h7:qj 5 7=false:=e9 _ _;have h5:qj 5 5=true:=e9 _ _;have g0:va K 0=some [a0,a1,a2,a3]:=by rw[r2,hK];rfl
 iterate 2 (try cbv;repeat ((first|with_reducible apply j2 hA|rw[h1]|rw[h2]|rw[h3]|rw[h7]|rw[h5]|rw[g0]|(refine l9 hA [0,1] c1 ⟨rfl,rfl,rfl,rfl,rfl,rfl,rfl⟩ ?_;rintro _ _ ⟨rfl,rfl⟩)|(refine l9 hA [0,1] c2 ⟨rfl,rfl,rfl,rfl,rfl,rfl,rfl⟩ ?_;rintro _ _ ⟨rfl,rfl⟩)|(refine l9 hA [0,1] c3 ⟨rfl,rfl,rfl,rfl,rfl,rfl,rfl⟩ ?_;rintro _ _ ⟨rfl,rfl⟩));cbv))
 try simp (maxSteps:=4000000) only [nc] at *
 exact r7 hA [0,1] ⟨rfl,rfl,rfl,rfl,rfl,rfl,rfl,rfl⟩ ⟨rfl,rfl⟩
theorem b14 (nm:ByteArray) (n:Int) (a:Ty) (hw:WrU 97 a (B1 l8 a)):WrU 80 (.mk 6 nm n [a]) (l8 (.mk 6 nm n [a])):=by
 intro l hl;have ht:l8 (.mk 6 nm n [a])=60::(B1 l8 a++[62]):=by rw[L6];rfl
 rw[ht] at hl ⊢;simp only[List.length_cons,List.length_append,List.length_nil] at hl;have c1:=a17 (l) 60 (by omega);have c2:=hw (l++[60]) (by simp only[List.length_cons,List.length_append,List.length_nil];omega);have c3:=a17 (l++[60]++B1 l8 a) 62 (by simp only[List.length_cons,List.length_append,List.length_nil];omega);rw[show l++(60::(B1 l8 a++[62]))=l++[60]++B1 l8 a++[62] by simp];rw[cT,rT,rT];obtain⟨a0,a1,a2,a3,ha⟩:=l6 a;rw[ha] at c2 ⊢
 try rw[j8] at c1
 try rw[j8] at c1
 try rw[r8] at c1
 try rw[j8] at c2
 try rw[j8] at c2
 try rw[r8] at c2
 try rw[j8] at c3
 try rw[j8] at c3
 try rw[r8] at c3
 try rw[j8] at ⊢
 try rw[j8] at ⊢
 try rw[r8] at ⊢
 replace c1:B0 95 [.ptr 0 0,vi .u8 60] _ _:=c1;replace c3:B0 95 [.ptr 0 0,vi .u8 62] _ _:=c3;generalize rU (l++[60]++B1 l8 a++[62])=R3 at *;generalize rU (l++[60]++B1 l8 a)=R2 at *;generalize rU (l++[60])=R1 at *;generalize rU l=R0 at *;clear hl hw ht;obtain⟨K,hK⟩:∃K,K=[[a0,a1,a2,a3]]:=⟨_,rfl⟩;rw[<-hK];refine so9 Tryz.func80 rfl ?_;intro _ _ _ _ _ _ _ _ _ qj _ _ _ _ _ _ _ _ _ _ _ _ _ va;intros;rename_i hA;obtain⟨e1,e2,e3,e4,e5,e6,e7,e8,e9⟩:=l7 hA;obtain⟨r1,r2,r3,r4⟩:=n8 hA;obtain⟨s1,s2,s3,s4,s5,s6,s7⟩:=o8 hA;have h1:qj 6 1=false:=e9 _ _;have h2:qj 6 2=false:=e9 _ _;have h3:qj 6 3=false:=e9 _ _;have h7:qj 6 7=false:=e9 _ _;have h5:qj 6 5=false:=e9 _ _;have h6:qj 6 6=true:=e9 _ _;have g0:va K 0=some [a0,a1,a2,a3]:=by rw[r2,hK];rfl
 iterate 2 (try cbv;repeat ((first|with_reducible apply j2 hA|rw[h1]|rw[h2]|rw[h3]|rw[h7]|rw[h5]|rw[h6]|rw[g0]|(refine l9 hA [0,1] c1 ⟨rfl,rfl,rfl,rfl,rfl,rfl,rfl⟩ ?_;rintro _ _ ⟨rfl,rfl⟩)|(refine l9 hA [0,1] c2 ⟨rfl,rfl,rfl,rfl,rfl,rfl,rfl⟩ ?_;rintro _ _ ⟨rfl,rfl⟩)|(refine l9 hA [0,1] c3 ⟨rfl,rfl,rfl,rfl,rfl,rfl,rfl⟩ ?_;rintro _ _ ⟨rfl,rfl⟩));cbv))
 try simp (maxSteps:=4000000) only [nc] at *
 exact r7 hA [0,1] ⟨rfl,rfl,rfl,rfl,rfl,rfl,rfl,rfl⟩ ⟨rfl,rfl⟩
theorem b15 (nm:ByteArray) (n:Int) (a b:Ty) (hf:WrU 98 a (E9 l8 a)) (hw:WrU 80 b (l8 b)):WrU 80 (.mk 4 nm n [a,b]) (l8 (.mk 4 nm n [a,b])):=by
 intro l hl;have ht:l8 (.mk 4 nm n [a,b])=E9 l8 a++(45::62::l8 b):=by rw[L6];rfl
 rw[ht] at hl ⊢;simp only[List.length_cons,List.length_append,List.length_nil] at hl;have c1:=hf l (by omega);have c2:=a4W (l++E9 l8 a) ⟨#[45,62]⟩ (by rw[show (⟨#[45,62]⟩:ByteArray).size=2 from rfl];first|omega|(simp only[List.length_cons,List.length_append,List.length_nil];omega));rw[show H3 ⟨#[45,62]⟩=[45,62] from rfl] at c2;have c3:=hw (l++E9 l8 a++[45,62]) (by simp only[List.length_cons,List.length_append,List.length_nil];omega);rw[show l++(E9 l8 a++(45::62::l8 b))=l++E9 l8 a++[45,62]++l8 b by simp];rw[cT,rT,rT,rT];obtain⟨a0,a1,a2,a3,ha⟩:=l6 a;obtain⟨b0,b1,b2,b3,hb⟩:=l6 b;rw[ha] at c1 ⊢;rw[hb] at c3 ⊢
 try rw[j8] at c1
 try rw[j8] at c1
 try rw[r8] at c1
 try rw[j8] at c2
 try rw[j8] at c2
 try rw[r8] at c2
 try rw[j8] at c3
 try rw[j8] at c3
 try rw[r8] at c3
 try rw[j8] at ⊢
 try rw[j8] at ⊢
 try rw[r8] at ⊢
 generalize rU (l++E9 l8 a++[45,62]++l8 b)=R3 at *;generalize rU (l++E9 l8 a++[45,62])=R2 at *;generalize rU (l++E9 l8 a)=R1 at *;generalize rU l=R0 at *;clear hl hf hw ht;obtain⟨K,hK⟩:∃K,K=[[a0,a1,a2,a3],[b0,b1,b2,b3]]:=⟨_,rfl⟩;rw[<-hK];refine so9 Tryz.func80 rfl ?_;intro _ _ _ _ _ _ _ _ _ qj _ _ _ _ _ _ _ _ _ _ _ _ _ va;intros;rename_i hA;obtain⟨e1,e2,e3,e4,e5,e6,e7,e8,e9⟩:=l7 hA;obtain⟨r1,r2,r3,r4⟩:=n8 hA;obtain⟨s1,s2,s3,s4,s5,s6,s7⟩:=o8 hA;have h1:qj 4 1=false:=e9 _ _;have h2:qj 4 2=false:=e9 _ _;have h3:qj 4 3=false:=e9 _ _;have h7:qj 4 7=false:=e9 _ _;have h5:qj 4 5=false:=e9 _ _;have h6:qj 4 6=false:=e9 _ _;have h4:qj 4 4=true:=e9 _ _;have g0:va K 0=some [a0,a1,a2,a3]:=by rw[r2,hK];rfl
 have g1:va K 1=some [b0,b1,b2,b3]:=by rw[r2,hK];rfl
 iterate 2 (try cbv;repeat ((first|with_reducible apply j2 hA|rw[h1]|rw[h2]|rw[h3]|rw[h7]|rw[h5]|rw[h6]|rw[h4]|rw[g0]|rw[g1]|(refine l9 hA [0,1] c1 ⟨rfl,rfl,rfl,rfl,rfl,rfl,rfl⟩ ?_;rintro _ _ ⟨rfl,rfl⟩)|(refine l9 hA [0,1] c2 ⟨rfl,rfl,rfl,rfl,rfl,rfl,rfl⟩ ?_;rintro _ _ ⟨rfl,rfl⟩)|(refine l9 hA [0,1] c3 ⟨rfl,rfl,rfl,rfl,rfl,rfl,rfl⟩ ?_;rintro _ _ ⟨rfl,rfl⟩));cbv))
 try simp (maxSteps:=4000000) only [nc] at *
 exact r7 hA [0,1] ⟨rfl,rfl,rfl,rfl,rfl,rfl,rfl,rfl⟩ ⟨rfl,rfl⟩
theorem b52 (t:Ty) (hop:t.op≠4) (hw:WrF 80 t (l8 t)):WrF 98 t (E9 l8 t):=by
 intro hl;unfold E9 at hl ⊢;rw[if_neg hop] at hl ⊢;have c1:=hw hl;rw[a5b] at c1 ⊢;obtain⟨op,hop0⟩:∃o,o=t.op:=⟨_,rfl⟩;rw[<-hop0] at c1 hop ⊢;generalize t.name=nm at *;generalize t.n=n at *;generalize rT t.kids=K at *
 try rw[j8] at c1
 try rw[j8] at c1
 try rw[r8] at c1
 try rw[j8] at ⊢
 try rw[j8] at ⊢
 try rw[r8] at ⊢
 generalize rU (l8 t)=R1 at *
 skip
 clear hl hw hop0;refine so9 Tryz.func98 rfl ?_;intro _ _ _ _ _ _ _ _ _ qj;intros;rename_i hA;obtain⟨e1,e2,e3,e4,e5,e6,e7,e8,e9⟩:=l7 hA;obtain⟨r1,r2,r3,r4⟩:=n8 hA;obtain⟨s1,s2,s3,s4,s5,s6,s7⟩:=o8 hA;have h4:qj op 4=false:=by rw[e9];simpa using hop
 iterate 2 (try cbv;repeat ((first|with_reducible apply j2 hA|rw[h4]|(refine l9 hA [0] c1 ⟨rfl,rfl,rfl,rfl,rfl,rfl,rfl⟩ ?_;rintro _ _ ⟨rfl,rfl⟩));cbv))
 try simp (maxSteps:=4000000) only [nc] at *
 exact r7 hA [0,2] ⟨rfl,rfl,rfl,rfl,rfl,rfl,rfl,rfl⟩ ⟨rfl,rfl⟩
theorem b53 (t:Ty) (hop:t.op=4) (hw:WrU 80 t (l8 t)):WrF 98 t (E9 l8 t):=by
 intro hl;unfold E9 at hl ⊢;rw[if_pos hop] at hl ⊢;simp only[List.length_cons,List.length_append,List.length_nil] at hl;have c1:=b2J _ a01 40;have c2:=hw ([40]) (by simp only[List.length_cons,List.length_append,List.length_nil];omega);have c3:=a17 ([40]++l8 t) 41 (by simp only[List.length_cons,List.length_append,List.length_nil];omega);rw[show (40::(l8 t++[41]))=[40]++l8 t++[41] by simp];rw[a5b] at c2 ⊢;obtain⟨op,hop0⟩:∃o,o=t.op:=⟨_,rfl⟩;rw[<-hop0] at c2 hop ⊢;generalize t.name=nm at *;generalize t.n=n at *;generalize rT t.kids=K at *
 try rw[j8] at c1
 try rw[j8] at c1
 try rw[r8] at c1
 try rw[j8] at c2
 try rw[j8] at c2
 try rw[r8] at c2
 try rw[j8] at c3
 try rw[j8] at c3
 try rw[r8] at c3
 try rw[j8] at ⊢
 try rw[j8] at ⊢
 try rw[r8] at ⊢
 replace c1:B0 95 [.ptr 0 0,vi .u8 40] _ _:=c1;replace c3:B0 95 [.ptr 0 0,vi .u8 41] _ _:=c3;generalize rU ([40]++l8 t++[41])=R3 at *;generalize rU ([40]++l8 t)=R2 at *;generalize rU ([40])=R1 at *
 skip
 clear hl hw hop0;refine so9 Tryz.func98 rfl ?_;intro _ _ _ _ _ _ _ _ _ qj;intros;rename_i hA;obtain⟨e1,e2,e3,e4,e5,e6,e7,e8,e9⟩:=l7 hA;obtain⟨r1,r2,r3,r4⟩:=n8 hA;obtain⟨s1,s2,s3,s4,s5,s6,s7⟩:=o8 hA;have h4:qj op 4=true:=by rw[e9,hop];rfl
 iterate 2 (try cbv;repeat ((first|with_reducible apply j2 hA|rw[h4]|(refine l9 hA [0] c1 ⟨rfl,rfl,rfl,rfl,rfl,rfl,rfl⟩ ?_;rintro _ _ ⟨rfl,rfl⟩)|(refine l9 hA [0,2] c2 ⟨rfl,rfl,rfl,rfl,rfl,rfl,rfl⟩ ?_;rintro _ _ ⟨rfl,rfl⟩)|(refine l9 hA [0,2] c3 ⟨rfl,rfl,rfl,rfl,rfl,rfl,rfl⟩ ?_;rintro _ _ ⟨rfl,rfl⟩));cbv))
 try simp (maxSteps:=4000000) only [nc] at *
 exact r7 hA [0,2] ⟨rfl,rfl,rfl,rfl,rfl,rfl,rfl,rfl⟩ ⟨rfl,rfl⟩
theorem b16 (nm:ByteArray) (n:Int) (a:Ty) (hw:WrU 97 a (B1 l8 a)):WrF 80 (.mk 5 nm n [a]) (l8 (.mk 5 nm n [a])):=by
 intro hl;have ht:l8 (.mk 5 nm n [a])=123::(B1 l8 a++[125]):=by rw[L6];rfl
 rw[ht] at hl ⊢;simp only[List.length_cons,List.length_append,List.length_nil] at hl;have c1:=b2J _ a01 123;have c2:=hw ([123]) (by simp only[List.length_cons,List.length_append,List.length_nil];omega);have c3:=a17 ([123]++B1 l8 a) 125 (by simp only[List.length_cons,List.length_append,List.length_nil];omega);rw[show (123::(B1 l8 a++[125]))=[123]++B1 l8 a++[125] by simp];rw[cT,rT,rT];obtain⟨a0,a1,a2,a3,ha⟩:=l6 a;rw[ha] at c2 ⊢
 try rw[j8] at c1
 try rw[j8] at c1
 try rw[r8] at c1
 try rw[j8] at c2
 try rw[j8] at c2
 try rw[r8] at c2
 try rw[j8] at c3
 try rw[j8] at c3
 try rw[r8] at c3
 try rw[j8] at ⊢
 try rw[j8] at ⊢
 try rw[r8] at ⊢
 replace c1:B0 95 [.ptr 0 0,vi .u8 123] _ _:=c1;replace c3:B0 95 [.ptr 0 0,vi .u8 125] _ _:=c3;generalize rU ([123]++B1 l8 a++[125])=R3 at *;generalize rU ([123]++B1 l8 a)=R2 at *;generalize rU ([123])=R1 at *
 skip
 clear hl hw ht;obtain⟨K,hK⟩:∃K,K=[[a0,a1,a2,a3]]:=⟨_,rfl⟩;rw[<-hK];refine so9 Tryz.func80 rfl ?_;intro _ _ _ _ _ _ _ _ _ qj _ _ _ _ _ _ _ _ _ _ _ _ _ va;intros;rename_i hA;obtain⟨e1,e2,e3,e4,e5,e6,e7,e8,e9⟩:=l7 hA;obtain⟨r1,r2,r3,r4⟩:=n8 hA;obtain⟨s1,s2,s3,s4,s5,s6,s7⟩:=o8 hA;have h1:qj 5 1=false:=e9 _ _;have h2:qj 5 2=false:=e9 _ _;have h3:qj 5 3=false:=e9 _ _;have h7:qj 5 7=false:=e9 _ _;have h5:qj 5 5=true:=e9 _ _;have g0:va K 0=some [a0,a1,a2,a3]:=by rw[r2,hK];rfl
 iterate 2 (try cbv;repeat ((first|with_reducible apply j2 hA|rw[h1]|rw[h2]|rw[h3]|rw[h7]|rw[h5]|rw[g0]|(refine l9 hA [0] c1 ⟨rfl,rfl,rfl,rfl,rfl,rfl,rfl⟩ ?_;rintro _ _ ⟨rfl,rfl⟩)|(refine l9 hA [0,2] c2 ⟨rfl,rfl,rfl,rfl,rfl,rfl,rfl⟩ ?_;rintro _ _ ⟨rfl,rfl⟩)|(refine l9 hA [0,2] c3 ⟨rfl,rfl,rfl,rfl,rfl,rfl,rfl⟩ ?_;rintro _ _ ⟨rfl,rfl⟩));cbv))
 try simp (maxSteps:=4000000) only [nc] at *
 exact r7 hA [0,2] ⟨rfl,rfl,rfl,rfl,rfl,rfl,rfl,rfl⟩ ⟨rfl,rfl⟩
theorem b17 (nm:ByteArray) (n:Int) (a:Ty) (hw:WrU 97 a (B1 l8 a)):WrF 80 (.mk 6 nm n [a]) (l8 (.mk 6 nm n [a])):=by
 intro hl;have ht:l8 (.mk 6 nm n [a])=60::(B1 l8 a++[62]):=by rw[L6];rfl
 rw[ht] at hl ⊢;simp only[List.length_cons,List.length_append,List.length_nil] at hl;have c1:=b2J _ a01 60;have c2:=hw ([60]) (by simp only[List.length_cons,List.length_append,List.length_nil];omega);have c3:=a17 ([60]++B1 l8 a) 62 (by simp only[List.length_cons,List.length_append,List.length_nil];omega);rw[show (60::(B1 l8 a++[62]))=[60]++B1 l8 a++[62] by simp];rw[cT,rT,rT];obtain⟨a0,a1,a2,a3,ha⟩:=l6 a;rw[ha] at c2 ⊢
 try rw[j8] at c1
 try rw[j8] at c1
 try rw[r8] at c1
 try rw[j8] at c2
 try rw[j8] at c2
 try rw[r8] at c2
 try rw[j8] at c3
 try rw[j8] at c3
 try rw[r8] at c3
 try rw[j8] at ⊢
 try rw[j8] at ⊢
 try rw[r8] at ⊢
 replace c1:B0 95 [.ptr 0 0,vi .u8 60] _ _:=c1;replace c3:B0 95 [.ptr 0 0,vi .u8 62] _ _:=c3;generalize rU ([60]++B1 l8 a++[62])=R3 at *;generalize rU ([60]++B1 l8 a)=R2 at *;generalize rU ([60])=R1 at *
 skip
 clear hl hw ht;obtain⟨K,hK⟩:∃K,K=[[a0,a1,a2,a3]]:=⟨_,rfl⟩;rw[<-hK];refine so9 Tryz.func80 rfl ?_;intro _ _ _ _ _ _ _ _ _ qj _ _ _ _ _ _ _ _ _ _ _ _ _ va;intros;rename_i hA;obtain⟨e1,e2,e3,e4,e5,e6,e7,e8,e9⟩:=l7 hA;obtain⟨r1,r2,r3,r4⟩:=n8 hA;obtain⟨s1,s2,s3,s4,s5,s6,s7⟩:=o8 hA;have h1:qj 6 1=false:=e9 _ _;have h2:qj 6 2=false:=e9 _ _;have h3:qj 6 3=false:=e9 _ _;have h7:qj 6 7=false:=e9 _ _;have h5:qj 6 5=false:=e9 _ _;have h6:qj 6 6=true:=e9 _ _;have g0:va K 0=some [a0,a1,a2,a3]:=by rw[r2,hK];rfl
 iterate 2 (try cbv;repeat ((first|with_reducible apply j2 hA|rw[h1]|rw[h2]|rw[h3]|rw[h7]|rw[h5]|rw[h6]|rw[g0]|(refine l9 hA [0] c1 ⟨rfl,rfl,rfl,rfl,rfl,rfl,rfl⟩ ?_;rintro _ _ ⟨rfl,rfl⟩)|(refine l9 hA [0,2] c2 ⟨rfl,rfl,rfl,rfl,rfl,rfl,rfl⟩ ?_;rintro _ _ ⟨rfl,rfl⟩)|(refine l9 hA [0,2] c3 ⟨rfl,rfl,rfl,rfl,rfl,rfl,rfl⟩ ?_;rintro _ _ ⟨rfl,rfl⟩));cbv))
 try simp (maxSteps:=4000000) only [nc] at *
 exact r7 hA [0,2] ⟨rfl,rfl,rfl,rfl,rfl,rfl,rfl,rfl⟩ ⟨rfl,rfl⟩
theorem b18 (nm:ByteArray) (n:Int) (a b:Ty) (hf:WrF 98 a (E9 l8 a)) (hw:WrU 80 b (l8 b)):WrF 80 (.mk 4 nm n [a,b]) (l8 (.mk 4 nm n [a,b])):=by
 intro hl;have ht:l8 (.mk 4 nm n [a,b])=E9 l8 a++(45::62::l8 b):=by rw[L6];rfl
 rw[ht] at hl ⊢;simp only[List.length_cons,List.length_append,List.length_nil] at hl;have c1:=hf (by omega);have c2:=a4W (E9 l8 a) ⟨#[45,62]⟩ (by rw[show (⟨#[45,62]⟩:ByteArray).size=2 from rfl];first|omega|(simp only[List.length_cons,List.length_append,List.length_nil];omega));rw[show H3 ⟨#[45,62]⟩=[45,62] from rfl] at c2;have c3:=hw (E9 l8 a++[45,62]) (by simp only[List.length_cons,List.length_append,List.length_nil];omega);rw[show (E9 l8 a++(45::62::l8 b))=E9 l8 a++[45,62]++l8 b by simp];rw[cT,rT,rT,rT];obtain⟨a0,a1,a2,a3,ha⟩:=l6 a;obtain⟨b0,b1,b2,b3,hb⟩:=l6 b;rw[ha] at c1 ⊢;rw[hb] at c3 ⊢
 try rw[j8] at c1
 try rw[j8] at c1
 try rw[r8] at c1
 try rw[j8] at c2
 try rw[j8] at c2
 try rw[r8] at c2
 try rw[j8] at c3
 try rw[j8] at c3
 try rw[r8] at c3
 try rw[j8] at ⊢
 try rw[j8] at ⊢
 try rw[r8] at ⊢
 generalize rU (E9 l8 a++[45,62]++l8 b)=R3 at *;generalize rU (E9 l8 a++[45,62])=R2 at *;generalize rU (E9 l8 a)=R1 at *
 skip
 clear hl hf hw ht;obtain⟨K,hK⟩:∃K,K=[[a0,a1,a2,a3],[b0,b1,b2,b3]]:=⟨_,rfl⟩;rw[<-hK];refine so9 Tryz.func80 rfl ?_;intro _ _ _ _ _ _ _ _ _ qj _ _ _ _ _ _ _ _ _ _ _ _ _ va;intros;rename_i hA;obtain⟨e1,e2,e3,e4,e5,e6,e7,e8,e9⟩:=l7 hA;obtain⟨r1,r2,r3,r4⟩:=n8 hA;obtain⟨s1,s2,s3,s4,s5,s6,s7⟩:=o8 hA;have h1:qj 4 1=false:=e9 _ _;have h2:qj 4 2=false:=e9 _ _;have h3:qj 4 3=false:=e9 _ _;have h7:qj 4 7=false:=e9 _ _;have h5:qj 4 5=false:=e9 _ _;have h6:qj 4 6=false:=e9 _ _;have h4:qj 4 4=true:=e9 _ _;have g0:va K 0=some [a0,a1,a2,a3]:=by rw[r2,hK];rfl
 have g1:va K 1=some [b0,b1,b2,b3]:=by rw[r2,hK];rfl
 iterate 2 (try cbv;repeat ((first|with_reducible apply j2 hA|rw[h1]|rw[h2]|rw[h3]|rw[h7]|rw[h5]|rw[h6]|rw[h4]|rw[g0]|rw[g1]|(refine l9 hA [0] c1 ⟨rfl,rfl,rfl,rfl,rfl,rfl,rfl⟩ ?_;rintro _ _ ⟨rfl,rfl⟩)|(refine l9 hA [0,2] c2 ⟨rfl,rfl,rfl,rfl,rfl,rfl,rfl⟩ ?_;rintro _ _ ⟨rfl,rfl⟩)|(refine l9 hA [0,2] c3 ⟨rfl,rfl,rfl,rfl,rfl,rfl,rfl⟩ ?_;rintro _ _ ⟨rfl,rfl⟩));cbv))
 try simp (maxSteps:=4000000) only [nc] at *
 exact r7 hA [0,2] ⟨rfl,rfl,rfl,rfl,rfl,rfl,rfl,rfl⟩ ⟨rfl,rfl⟩
theorem a8W (nm:ByteArray) (n:Int) (ks:List Ty):WrF 80 (.mk 1 nm n ks) (l8 (.mk 1 nm n ks)):=by
 intro hl;have ht:l8 (.mk 1 nm n ks)=[73,110,116]:=by rw[L6];rfl
 rw[ht];have c1:=b5x _ a01 ⟨#[73,110,116]⟩ (by show ([73,110,116]:List UInt8).length<=_;simp);rw[show H3 ⟨#[73,110,116]⟩=[73,110,116] from rfl] at c1;rw[cT];generalize rT ks=K;rw[j8,r8] at c1 ⊢;generalize rU [73,110,116]=R1 at *;refine so9 Tryz.func80 rfl ?_;intro _ _ _ _ _ _ _ _ _ qj;intros;rename_i hA;obtain⟨e1,e2,e3,e4,e5,e6,e7,e8,e9⟩:=l7 hA;obtain⟨r1,r2,r3,r4⟩:=n8 hA;obtain⟨s1,s2,s3,s4,s5,s6,s7⟩:=o8 hA;have h1:qj 1 1=true:=e9 _ _
 iterate 2 (try cbv;repeat ((first|with_reducible apply j2 hA|rw[h1]|(refine l9 hA [0] c1 ⟨rfl,rfl,rfl,rfl,rfl,rfl,rfl⟩ ?_;rintro _ _ ⟨rfl,rfl⟩));cbv))
 try simp (maxSteps:=4000000) only [nc] at *
 exact r7 hA [0,2] ⟨rfl,rfl,rfl,rfl,rfl,rfl,rfl,rfl⟩ ⟨rfl,rfl⟩
theorem a8X (nm:ByteArray) (n:Int) (ks:List Ty):WrF 80 (.mk 2 nm n ks) (l8 (.mk 2 nm n ks)):=by
 intro hl;have ht:l8 (.mk 2 nm n ks)=[66,111,111,108]:=by rw[L6];rfl
 rw[ht];have c1:=b5x _ a01 ⟨#[66,111,111,108]⟩ (by show ([66,111,111,108]:List UInt8).length<=_;simp);rw[show H3 ⟨#[66,111,111,108]⟩=[66,111,111,108] from rfl] at c1;rw[cT];generalize rT ks=K;rw[j8,r8] at c1 ⊢;generalize rU [66,111,111,108]=R1 at *;refine so9 Tryz.func80 rfl ?_;intro _ _ _ _ _ _ _ _ _ qj;intros;rename_i hA;obtain⟨e1,e2,e3,e4,e5,e6,e7,e8,e9⟩:=l7 hA;obtain⟨r1,r2,r3,r4⟩:=n8 hA;obtain⟨s1,s2,s3,s4,s5,s6,s7⟩:=o8 hA;have h1:qj 2 1=false:=e9 _ _;have h2:qj 2 2=true:=e9 _ _
 iterate 2 (try cbv;repeat ((first|with_reducible apply j2 hA|rw[h1]|rw[h2]|(refine l9 hA [0] c1 ⟨rfl,rfl,rfl,rfl,rfl,rfl,rfl⟩ ?_;rintro _ _ ⟨rfl,rfl⟩));cbv))
 try simp (maxSteps:=4000000) only [nc] at *
 exact r7 hA [0,2] ⟨rfl,rfl,rfl,rfl,rfl,rfl,rfl,rfl⟩ ⟨rfl,rfl⟩
theorem a8Y (nm:ByteArray) (n:Int) (ks:List Ty):WrF 80 (.mk 3 nm n ks) (l8 (.mk 3 nm n ks)):=by
 intro hl;have ht:l8 (.mk 3 nm n ks)=[63]:=by rw[L6];rfl
 rw[ht];have c1:=b2J _ a01 63;replace c1:B0 95 [.ptr 0 0,vi .u8 63] _ _:=c1;rw[cT];generalize rT ks=K;rw[j8,r8] at c1 ⊢;generalize rU [63]=R1 at *;refine so9 Tryz.func80 rfl ?_;intro _ _ _ _ _ _ _ _ _ qj;intros;rename_i hA;obtain⟨e1,e2,e3,e4,e5,e6,e7,e8,e9⟩:=l7 hA;obtain⟨r1,r2,r3,r4⟩:=n8 hA;obtain⟨s1,s2,s3,s4,s5,s6,s7⟩:=o8 hA;have h1:qj 3 1=false:=e9 _ _;have h2:qj 3 2=false:=e9 _ _;have h3:qj 3 3=true:=e9 _ _
 iterate 2 (try cbv;repeat ((first|with_reducible apply j2 hA|rw[h1]|rw[h2]|rw[h3]|(refine l9 hA [0] c1 ⟨rfl,rfl,rfl,rfl,rfl,rfl,rfl⟩ ?_;rintro _ _ ⟨rfl,rfl⟩));cbv))
 try simp (maxSteps:=4000000) only [nc] at *
 exact r7 hA [0,2] ⟨rfl,rfl,rfl,rfl,rfl,rfl,rfl,rfl⟩ ⟨rfl,rfl⟩
theorem b19 (nm:ByteArray) (n:Int) (ks:List Ty) (h0:0<=n) (h1:n<=9223372036854775807):WrF 80 (.mk 7 nm n ks) (l8 (.mk 7 nm n ks)):=by
 intro hl;have ht:l8 (.mk 7 nm n ks)=39::Lib.itoa n:=by rw[L6];rfl
 rw[ht] at hl ⊢;have hi:=b1u n (by omega) h1;have hb:H3 (⟨#[39]⟩++⟨(Lib.itoa n).toArray⟩:ByteArray)=39::Lib.itoa n:=by unfold H3;simp
 have hz:(⟨#[39]⟩++⟨(Lib.itoa n).toArray⟩:ByteArray).size=(39::Lib.itoa n).length:=by rw[<-hb,B8]
 have c1:=b5x _ a01 (⟨#[39]⟩++⟨(Lib.itoa n).toArray⟩) (by rw[hz];exact hl);rw[hb] at c1
 have hfit:(⟨#[39]⟩:ByteArray).size+(⟨(Lib.itoa n).toArray⟩:ByteArray).size<=4611686018427387904:=by
  have h2:(⟨#[39]⟩++⟨(Lib.itoa n).toArray⟩:ByteArray).size=(⟨#[39]⟩:ByteArray).size+(⟨(Lib.itoa n).toArray⟩:ByteArray).size:=by simp
  rw[<-h2,hz];omega
 rw[cT];generalize rT ks=K;rw[j8,r8] at c1 ⊢;generalize rU (39::Lib.itoa n)=R1 at *;clear hl hz hb ht;generalize (⟨(Lib.itoa n).toArray⟩:ByteArray)=D at *;obtain⟨S,hS⟩:∃S,S=(⟨#[39]⟩++D:ByteArray):=⟨_,rfl⟩;rw[<-hS] at c1;refine so9 Tryz.func80 rfl ?_;intro _ _ _ _ _ _ _ _ _ qj _ _ _ _ qp;intros;rename_i hA;obtain⟨e1,e2,e3,e4,e5,e6,e7,e8,e9⟩:=l7 hA;obtain⟨r1,r2,r3,r4⟩:=n8 hA;obtain⟨s1,s2,s3,s4,s5,s6,s7⟩:=o8 hA;have h1:qj 7 1=false:=e9 _ _;have h2:qj 7 2=false:=e9 _ _;have h3:qj 7 3=false:=e9 _ _;have h7:qj 7 7=true:=e9 _ _;have hc:qp ⟨#[39]⟩ D=S:=by rw[s4,hS]
 iterate 2 (try cbv;repeat ((first|with_reducible apply j2 hA|rw[h1]|rw[h2]|rw[h3]|rw[h7]|refine j3 hA _ hi rfl ?_|refine j4 hA _ hi ?_);cbv))
 try simp (maxSteps:=4000000) only [nc] at *
 refine n9 hA hfit ?_;cbv;rw[hc]
 iterate 2 (try cbv;repeat ((first|with_reducible apply j2 hA|(refine l9 hA [0] c1 ⟨rfl,rfl,rfl,rfl,rfl,rfl,rfl⟩ ?_;rintro _ _ ⟨rfl,rfl⟩));cbv))
 try simp (maxSteps:=4000000) only [nc] at *
 exact r7 hA [0,2] ⟨rfl,rfl,rfl,rfl,rfl,rfl,rfl,rfl⟩ ⟨rfl,rfl⟩
theorem Mod.part {t x:Ty} (h:Mod t) (hx:x∈t.parts):Mod x:=λy hy=>h y (C1 hy hx)
theorem b3D (W:ByteArray->Bool):∀(m:Nat) (t:Ty),t.parts.length<=m->m8 W t 116=true->Mod t->WrU 80 t (l8 t)/\WrF 80 t (l8 t):=by
 intro m
 induction m with
 | zero=>intro t h;have:=v6 t;omega
 | succ m ih =>
  intro t hm hs hM;have hkl:=A4 t;have hself:=hM.self;obtain⟨h0,hc⟩:=b0p hs
  have hfrom:∀a:Ty,WrU 80 a (l8 a)/\WrF 80 a (l8 a)->WrU 98 a (E9 l8 a)/\WrF 98 a (E9 l8 a):=λa ha=>by
   by_cases h4:a.op=4
   ·exact⟨b51 a h4 ha.1,b53 a h4 ha.1⟩
   ·exact⟨b50 a h4 ha.1,b52 a h4 ha.2⟩
  have hrow:∀a:Ty,a∈t.kids->m8 W a 114=true->WrU 97 a (B1 l8 a):=λa ha hsa=>by
   have h1:=hkl.2 a ha;exact c0M W a hsa (λx hx=>((hM.kid ha) x hx).2.2) λx hx hxm hxs=>(ih x (by omega) hxs ((hM.kid ha).part hxm)).1
  rw[Ty.eta t] at hm hs hM ⊢
  rcases hc with⟨hop,hk⟩|⟨hop,a,b,hk,hsa,hsb⟩|⟨hop,a,hk,hsa⟩
  ·rcases hop with h|h|h|h
   ·exact⟨a3l _ (.inl h),by rw[h];exact a8W _ _ _⟩
   ·exact⟨a3l _ (.inr (.inl h)),by rw[h];exact a8X _ _ _⟩
   ·exact⟨a3l _ (.inr (.inr h)),by rw[h];exact a8Y _ _ _⟩
   ·rw[h];refine⟨?_,b19 _ _ _ h0 hself.2.2⟩;have h1:=b3B t.name t.n t.kids h0 hself.2.2;rw[show l8 (.mk 7 t.name t.n t.kids)=39::Lib.itoa t.n by rw[L6];rfl];exact h1
  ·have ha:=ih a (by have:=hkl.2 a (by rw[hk];simp);rw[<-Ty.eta t] at hm;omega) hsa (by rw[<-Ty.eta t] at hM;exact hM.kid (by rw[hk];simp));have hb:=ih b (by have:=hkl.2 b (by rw[hk];simp);rw[<-Ty.eta t] at hm;omega) hsb (by rw[<-Ty.eta t] at hM;exact hM.kid (by rw[hk];simp));rw[hop,hk];exact⟨b15 _ _ a b (hfrom a ha).1 hb.1,b18 _ _ a b (hfrom a ha).2 hb.1⟩
  ·have hr:=hrow a (by rw[hk];simp) hsa;rw[hk]
   rcases hop with h|h
   ·rw[h];exact⟨b13 _ _ a hr,b16 _ _ a hr⟩
   ·rw[h];exact⟨b14 _ _ a hr,b17 _ _ a hr⟩
end Go.Proofs.YtncijebklnbhlaaGreatDoor.Vm
end

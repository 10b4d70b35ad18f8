/- Part 7 of the proof: VSee, VMove, VOwnBox, VBld1, VBld2, VBld3, VBld4, RWalk. Conditions: none. -/
import Derived.Test.YtahpnackkmbmgaaGreatDoorR1
import Derived.Test.YtahpnackkmbmgaaGreatDoorR3
import Derived.Lib.Builder
import Derived.Laws.Externs
import Derived.Lib.Walk
import Derived.Lib.AppendStr
import Derived.Lib.Hide
import Derived.Lib.UnsafeStr
import Derived.Test.YtahpnackkmbmgaaGreatDoorChecked
import Derived.WalkKit
import Derived.Deep.QuietTactic
import Derived.BigQuiet
set_option linter.all false
set_option linter.unusedVariables false
set_option linter.unusedSimpArgs false
section
namespace Go.Proofs.YtahpnackkmbmgaaGreatDoor.Vm
open Go.RowKit
section
section
variable {qa:IntKind → Int → Int} {qb:Int → Int → Int} {qc:Int → Int → Int} {qd:Int → Int → Int} {qe:Int → Int → Int} {qg:Int → Int → Int} {qh:BinOp → IntKind → Int → IntKind → Int → Option Int} {qi:Int → Int → Bool} {qj:Int → Int → Bool} {qk:Int → Int → Bool} {ql:Int → Prop → Prop} {qm:List UInt8 → List UInt8 → Bool} {qn:List UInt8 → List UInt8 → Bool} {qo:ByteArray → List UInt8} {qp:ByteArray → ByteArray → ByteArray} {qq:ByteArray → ByteArray → Prop → Prop} {qt:ByteArray → Int} {qu:ByteArray → Int → Option Int} {qv:ByteArray → Int → Int → Option ByteArray} {qw:List (List D) → Option ByteArray} {qx:ByteArray → List (List D)} {qy:Int → Nat → Option Nat} {qz:List (List D) → Int} {va:List (List D) → Int → Option (List D)} {vc:List (List D) → Int → Int → Option (List (List D))} {vd:List (List D) → List (List D) → List (List D)} {ve:List (List D) → Int → List D → List (List D)} {vf:List (List D) → List (List D) → Prop → Prop} {vg:List (R × R) → R → Option R} {vh:List (R × R) → R → R → List (R × R)} {vj:List D → List D → Bool} {vk:Int → List D → (List (List D) → Prop) → Prop} {vl:Nat → List R → (List R → Prop) → Prop} {vm:Nat → List V → List O → (V → Prop) → Prop} {vn:Nat → List V → S → (V → S → Prop) → Prop} {vo:Nat → List V → List Nat → S → (V → S → Prop) → Prop} {vp:Nat → (Bool → Prop) → Prop} {vq:Nat → (Bool → Prop) → Prop} {vr:Nat → (List V → List O → Prop) → List V → S → Prop} {vt:(S → Prop) → S → Prop} {vu:Op → Option Nat → S → (S → Prop) → Prop} {vv:Array Oper → S → (S → Prop) → Prop} {vw:Code → (S → (X → S → Prop) → Prop) → S → (X → S → Prop) → Prop}
end
end
section
section
variable {I0:Nat → Nat → Prop} {X:Nat → Prop} {w0:W0} {I:Nat → Nat → Prop} {g:Nat → Value} {s:S} {a:Act} {w:World}
theorem RelI.move (h:RelI I0 X w0 I g s a w) {j k:Nat} {z z':Bool} {e e':Nat} {R R':List (List D)} (hj:s.o[j]? = some (.row z e R)) (hk:s.o[k]? = some (.row z' e' R')) (hjk:j ≠ k) :
  RelI I0 X w0 I (upd g j (g k)) ⟨killT j s.t,((killO j s.o).set k .dead).set j (.row z' e' R')⟩ a w:=by
 have hlt:=(List.getElem?_eq_some_iff.1 hj).1
 have hltk:=(List.getElem?_eq_some_iff.1 hk).1
 obtain ⟨usj,hown,_⟩:=h.obj j _ hj
 have hnp:isRef (g j) = true → upd g j (g k) j = g j:=fun hr=>by rcases hown.2 with ⟨e1,_⟩ | ⟨_,_,_,e1,_⟩ <;> rw [e1] at hr <;> cases hr
 have hg':∀ i,i ≠ j → upd g j (g k) i = g i:=fun i hi=>upd_ne hi
 have hlk:live s k:=⟨_,hk,by simp⟩
 have hget:∀ i o,(((killO j s.o).set k .dead).set j (.row z' e' R'))[i]? = some o → o ≠ .dead → (i = j ∧ o = .row z' e' R') ∨ (i ≠ j ∧ i ≠ k ∧ (killO j s.o)[i]? = some o):=fun i o ho hd=>by
  by_cases hij:j = i
  ·subst hij
   rw [List.getElem?_set_self (by rw [List.length_set,killO_len];exact hlt)] at ho
   injection ho with ho
   exact .inl ⟨rfl,ho.symm⟩
  ·rw [List.getElem?_set_ne hij] at ho
   by_cases hik:k = i
   ·subst hik
    rw [List.getElem?_set_self (by rw [killO_len];exact hltk)] at ho
    injection ho with ho
    exact absurd ho.symm hd
   ·rw [List.getElem?_set_ne hik] at ho
    exact .inr ⟨Ne.symm hij,Ne.symm hik,ho⟩
 refine ⟨h.im,h.lt,h.fr,h.kp,by simp only [List.length_set,killO_len];exact h.lo,fun i hi hr=>?_,fun i o ho=>?_,fun i i' b hi hi' hb hb'=>?_,fun i hi=>?_,killT_at hg' hnp h.tmp,h.dfr⟩
 ·have e:=h.st i hi hr
  refine (hg' i fun ej=>?_).trans e
  subst ej
  rw [← e] at hr
  rcases hown.2 with ⟨e1,_⟩ | ⟨_,_,_,e1,_⟩ <;> rw [e1] at hr <;> cases hr
 ·by_cases hd:o = .dead
  ·subst hd;exact True.intro
  rcases hget i o ho hd with ⟨rfl,rfl⟩ | ⟨hij,hik,ho⟩
  ·obtain ⟨us,h1,h2,h3,h4⟩:=h.obj k _ hk
   exact ⟨us,by rw [upd_same];exact h1,h2,h3,by rw [upd_same];exact h4⟩
  ·obtain ⟨o',ho',hdd,hsh⟩:=killO_get j s.o i o ho
   have hob:=h.obj i o' ho'
   rcases hsh with ⟨cs,rfl,rfl⟩ | ⟨ks,rfl,rfl⟩ | ⟨rfl,hnb,hnf⟩
   ·obtain ⟨b,us,t,h1,h2,h3,h4⟩:=hob
    exact ⟨b,us,t,by rw [upd_ne hij];exact h1,h2,killL_at hg' hnp h3,h4⟩
   ·obtain ⟨us,h1,h2,h3⟩:=hob
    refine ⟨us,by rw [upd_ne hij];exact h1,h2,fun i2 u hu=>?_⟩
    by_cases e:i2 = j
    ·exact .inr (.inr (by rw [e];exact List.mem_cons_self ..))
    ·rcases h3 i2 u hu with h4 | h4 | h4
     ·exact .inl h4
     ·exact .inr (.inl (by rw [upd_ne e];exact h4))
     ·exact .inr (.inr (List.mem_cons_of_mem _ h4))
   ·cases o with
    | dead=>exact True.intro
    | box cs=>exact absurd rfl (hnb cs)
    | kl ks=>exact absurd rfl (hnf ks)
    | mp kt es =>
     obtain ⟨b,l,c,h1,h2⟩:=hob
     exact ⟨b,l,c,by rw [upd_ne hij];exact h1,h2⟩
    | ob T vs =>
     obtain ⟨b,h1,h2⟩:=hob
     exact ⟨b,by rw [upd_ne hij];exact h1,h2⟩
    | it P =>
     obtain ⟨A,n,cap,F,h1,h2⟩:=hob
     exact ⟨A,n,cap,F,by rw [upd_ne hij];exact h1,h2⟩
    | row z2 e2 rows =>
     obtain ⟨us,h1,h2,h3,h4⟩:=hob
     exact ⟨us,by rw [upd_ne hij];exact h1,h2,h3,by rw [upd_ne hij];exact h4⟩
 ·have back:∀ i,live ⟨killT j s.t,((killO j s.o).set k .dead).set j (.row z' e' R')⟩ i → ∃ i2,live s i2 ∧ upd g j (g k) i = g i2 ∧ ((i = j ∧ i2 = k) ∨ (i ≠ j ∧ i2 = i ∧ i ≠ k)):=fun i hl=>by
   obtain ⟨o,ho,hd⟩:=hl
   rcases hget i o ho hd with ⟨rfl,rfl⟩ | ⟨hij,hik,ho⟩
   ·exact ⟨k,hlk,upd_same ..,.inl ⟨rfl,rfl⟩⟩
   ·obtain ⟨o',ho',hdd,_⟩:=killO_get j s.o i o ho
    exact ⟨i,⟨o',ho',hdd hd⟩,upd_ne hij,.inr ⟨hij,rfl,hik⟩⟩
  obtain ⟨i2,l2,e2,c2⟩:=back i hi
  obtain ⟨i3,l3,e3,c3⟩:=back i' hi'
  rw [e2] at hb
  rw [e3] at hb'
  have:=h.dis i2 i3 b l2 l3 hb hb'
  omega
 ·simp only [List.length_set,killO_len] at hi
  rw [upd_ne (by omega)]
  exact h.out i hi
end
theorem Ghost.move (s:S) (i j k:Nat) (hjk:eqN j k = false) {z z':Bool} {e e':Nat} {R R':List (List D)} (hi:getN s.t i = .own k) (hj:getO s.o j = .row z e R) (hk:getO s.o k = .row z' e' R') :
  Ghost s ⟨setN (killT j s.t) i (.own j),setO (setO (killO j s.o) k .dead) j (.row z' e' R')⟩:=by
 rintro I0 X w0 a w ⟨I,g,h⟩
 have hne:j ≠ k:=eqN_no.1 hjk
 have h2:=h.move (getO_some hj (by simp)) (getO_some hk (by simp)) hne
 refine ⟨I,upd g j (g k),?_⟩
 rw [setO_is,setO_is]
 refine RelI.reread (s:=⟨killT j s.t,((killO j s.o).set k .dead).set j (.row z' e' R')⟩) h2 fun v hv=>?_
 have h4:=h.tmp.2 i v _ hv (getN_some hi (by simp))
 cases h4 with
 | own _ A n cap hg=>exact .own _ _ _ _ (by rw [upd_same];exact hg)
theorem GhostN.of {n:Nat} {s s1 s2:S} (h:Ghost s s1) (hw:weak s1 s2) (hl:n ≤ lenO s2.o):GhostN n s s2:=fun I0 X w0 a w hn hr=>(h _ _ _ _ _ hr).weak (Nat.le_trans hn (by rw [← lenO_is];exact hl)) (.inr hw)
def headM (c:Code) (s:S) (l:List (Nat × V)) (m:List (Nat × O)) (x:List O):S:=⟨setsT l (forget (wr c []) s.t),appO (setsO m s.o) x⟩
section
variable {qa:IntKind → Int → Int} {qb:Int → Int → Int} {qc:Int → Int → Int} {qd:Int → Int → Int} {qe:Int → Int → Int} {qg:Int → Int → Int} {qh:BinOp → IntKind → Int → IntKind → Int → Option Int} {qi:Int → Int → Bool} {qj:Int → Int → Bool} {qk:Int → Int → Bool} {ql:Int → Prop → Prop} {qm:List UInt8 → List UInt8 → Bool} {qn:List UInt8 → List UInt8 → Bool} {qo:ByteArray → List UInt8} {qp:ByteArray → ByteArray → ByteArray} {qq:ByteArray → ByteArray → Prop → Prop} {qt:ByteArray → Int} {qu:ByteArray → Int → Option Int} {qv:ByteArray → Int → Int → Option ByteArray} {qw:List (List D) → Option ByteArray} {qx:ByteArray → List (List D)} {qy:Int → Nat → Option Nat} {qz:List (List D) → Int} {va:List (List D) → Int → Option (List D)} {vc:List (List D) → Int → Int → Option (List (List D))} {vd:List (List D) → List (List D) → List (List D)} {ve:List (List D) → Int → List D → List (List D)} {vf:List (List D) → List (List D) → Prop → Prop} {vg:List (R × R) → R → Option R} {vh:List (R × R) → R → R → List (R × R)} {vj:List D → List D → Bool} {vk:Int → List D → (List (List D) → Prop) → Prop} {vl:Nat → List R → (List R → Prop) → Prop} {vm:Nat → List V → List O → (V → Prop) → Prop} {vn:Nat → List V → S → (V → S → Prop) → Prop} {vo:Nat → List V → List Nat → S → (V → S → Prop) → Prop} {vp:Nat → (Bool → Prop) → Prop} {vq:Nat → (Bool → Prop) → Prop} {vr:Nat → (List V → List O → Prop) → List V → S → Prop} {vt:(S → Prop) → S → Prop} {vu:Op → Option Nat → S → (S → Prop) → Prop} {vv:Array Oper → S → (S → Prop) → Prop} {vw:Code → (S → (X → S → Prop) → Prop) → S → (X → S → Prop) → Prop}
theorem loopn_at (hA:Ar.mk qa qb qc qd qe qg qh qi qj qk ql qm qn qo qp qq qt qu qv qw qx qy qz va vc vd ve vf vg vh vj vk vl vm vn vo vp vq vr vt vu vv vw = real) {c:Code} {body:S → (X → S → Prop) → Prop} {s:S} {K:X → S → Prop} {γ:Type} (slots:γ → List (Nat × V)) (objs:γ → List (Nat × O)) (xs:γ → List O) (inv:γ → Prop) (μ:γ → Nat) (x0:γ) (h0:inv x0) (hw:GhostN (lenO s.o) s (headM c s (slots x0) (objs x0) (xs x0)))
  (hr:∀ x,inv x → body (headM c s (slots x) (objs x) (xs x)) (fun e s'=>roundX (fun s2=>∃ y,inv y ∧ μ y < μ x ∧ GhostN (lenO s.o) s2 (headM c s (slots y) (objs y) (xs y))) K e s')):vw c body s K:=by
 have e:vw = real.loop:=congrArg Ar.loop hA
 rw [e]
 exact .inr (.inr ⟨γ,fun x=>headM c s (slots x) (objs x) (xs x),inv,μ,fun x _=>by
  show lenO s.o ≤ lenO (appO (setsO (objs x) s.o) (xs x))
  rw [lenO_is,lenO_is,appO_is,List.length_append,setsO_len]
  exact Nat.le_add_right _ _,⟨x0,hw,h0⟩,hr⟩)
end
end
section
section
variable {I0:Nat → Nat → Prop} {X:Nat → Prop} {w0:W0} {I:Nat → Nat → Prop} {g:Nat → Value} {s:S} {a:Act} {w:World}
theorem AtVs.reset {us:List Value} {cs:List V} {i:Nat} {x:V} (h:AtVs I w g us cs) (hx:∀ v,us[i]? = some v → AtV I w g v x):AtVs I w g us (cs.set i x):=by
 refine ⟨by rw [List.length_set];exact h.1,fun j v y hv hy=>?_⟩
 by_cases hji:i = j
 ·subst hji
  have hlt:i < cs.length:=by have:=(List.getElem?_eq_some_iff.1 hy).1;rw [List.length_set] at this;exact this
  rw [List.getElem?_set_self hlt] at hy
  cases hy
  exact hx v hv
 ·rw [List.getElem?_set_ne hji] at hy
  exact h.2 j v y hv hy
theorem RelI.rebox (h:RelI I0 X w0 I g s a w) {k:Nat} {cs ds:List V} (hk:s.o[k]? = some (.box cs)) (hd:∀ us,AtVs I w g us cs → AtVs I w g us ds):RelI I0 X w0 I g ⟨s.t,s.o.set k (.box ds)⟩ a w:=by
 have hlt:=(List.getElem?_eq_some_iff.1 hk).1
 have back:∀ i,live ⟨s.t,s.o.set k (.box ds)⟩ i → live s i:=fun i hl=>by
  obtain ⟨o,ho,hdd⟩:=hl
  by_cases hik:k = i
  ·subst hik;exact ⟨_,hk,by simp⟩
  ·simp only [List.getElem?_set_ne hik] at ho
   exact ⟨o,ho,hdd⟩
 refine ⟨h.im,h.lt,h.fr,h.kp,by simp only [List.length_set];exact h.lo,h.st,fun i o ho=>?_,fun i j b hi hj=>h.dis i j b (back i hi) (back j hj),fun i hi=>h.out i (by simpa using hi),h.tmp,h.dfr⟩
 by_cases hik:k = i
 ·subst hik
  simp only [List.getElem?_set_self hlt] at ho
  cases ho
  obtain ⟨b,us,t,h1,h2,h3,h4⟩:=h.obj k _ hk
  exact ⟨b,us,t,h1,h2,hd us h3,h4⟩
 ·simp only [List.getElem?_set_ne hik] at ho
  exact h.obj i o ho
end
theorem Ghost.ownBox (s:S) (k i e:Nat) (z:Bool) {cs:List V} (hk:getO s.o k = .box cs) (hi:getN cs i = .em):Ghost s ⟨s.t,setO (snocO s.o (.row z e [])) k (.box (setN cs i (.own (lenO s.o))))⟩:=by
 rintro I0 X w0 a w ⟨I,g,h⟩
 have hk2:=getO_some hk (by simp)
 have hlt:=(List.getElem?_eq_some_iff.1 hk2).1
 have h2:=h.newObj (.row z e []) (.slice none 0 0) ⟨[],by rw [upd_same];exact World.ownsRow_nil w 0 e _,by simp,AtDs.nil I w,fun b hb=>by rw [upd_same] at hb;cases hb⟩ (fun j b _ _ hb=>by cases hb)
 have h3:RelI I0 X w0 I (upd g s.o.length (.slice none 0 0)) ⟨s.t,snocO s.o (.row z e [])⟩ a w:=h2
 refine ⟨I,upd g s.o.length (.slice none 0 0),?_⟩
 rw [setO_is,setN_is]
 refine h3.rebox (cs:=cs) (by show (snocO s.o _)[k]? = _;rw [snocO_is,List.getElem?_append_left hlt];exact hk2) fun us hus=>hus.reset fun v hv=>?_
 have hs:=getN_some hi (by simp)
 have h4:=hus.2 i v _ hv hs
 rw [h4.unem]
 exact .own _ _ _ _ (by rw [lenO_is,upd_same];rfl)
section
variable {qa:IntKind → Int → Int} {qb:Int → Int → Int} {qc:Int → Int → Int} {qd:Int → Int → Int} {qe:Int → Int → Int} {qg:Int → Int → Int} {qh:BinOp → IntKind → Int → IntKind → Int → Option Int} {qi:Int → Int → Bool} {qj:Int → Int → Bool} {qk:Int → Int → Bool} {ql:Int → Prop → Prop} {qm:List UInt8 → List UInt8 → Bool} {qn:List UInt8 → List UInt8 → Bool} {qo:ByteArray → List UInt8} {qp:ByteArray → ByteArray → ByteArray} {qq:ByteArray → ByteArray → Prop → Prop} {qt:ByteArray → Int} {qu:ByteArray → Int → Option Int} {qv:ByteArray → Int → Int → Option ByteArray} {qw:List (List D) → Option ByteArray} {qx:ByteArray → List (List D)} {qy:Int → Nat → Option Nat} {qz:List (List D) → Int} {va:List (List D) → Int → Option (List D)} {vc:List (List D) → Int → Int → Option (List (List D))} {vd:List (List D) → List (List D) → List (List D)} {ve:List (List D) → Int → List D → List (List D)} {vf:List (List D) → List (List D) → Prop → Prop} {vg:List (R × R) → R → Option R} {vh:List (R × R) → R → R → List (R × R)} {vj:List D → List D → Bool} {vk:Int → List D → (List (List D) → Prop) → Prop} {vl:Nat → List R → (List R → Prop) → Prop} {vm:Nat → List V → List O → (V → Prop) → Prop} {vn:Nat → List V → S → (V → S → Prop) → Prop} {vo:Nat → List V → List Nat → S → (V → S → Prop) → Prop} {vp:Nat → (Bool → Prop) → Prop} {vq:Nat → (Bool → Prop) → Prop} {vr:Nat → (List V → List O → Prop) → List V → S → Prop} {vt:(S → Prop) → S → Prop} {vu:Op → Option Nat → S → (S → Prop) → Prop} {vv:Array Oper → S → (S → Prop) → Prop} {vw:Code → (S → (X → S → Prop) → Prop) → S → (X → S → Prop) → Prop}
theorem ownbox_at (hA:Ar.mk qa qb qc qd qe qg qh qi qj qk ql qm qn qo qp qq qt qu qv qw qx qy qz va vc vd ve vf vg vh vj vk vl vm vn vo vp vq vr vt vu vv vw = real) {N:S → Prop} {s:S} (k i e:Nat) (z:Bool) {cs:List V} (hk:getO s.o k = .box cs) (hi:getN cs i = .em) (h:N ⟨s.t,setO (snocO s.o (.row z e [])) k (.box (setN cs i (.own (lenO s.o))))⟩):vt N s:=ghost_at hA _ (Ghost.ownBox s k i e z hk hi) h
end
end
end Go.Proofs.YtahpnackkmbmgaaGreatDoor.Vm
end
section
namespace Go.Proofs.YtahpnackkmbmgaaGreatDoor.Vm
open Go.RowKit
set_option maxRecDepth 100000
set_option maxHeartbeats 4000000
section
theorem cc_used (b:Nat) (w:World) (h0:w.cell? ⟨b,0,none⟩ = some (.pointer (some ⟨b,0,none⟩))) :
  Calls Tryz.prog 71 #[.pointer (some ⟨b,0,none⟩)] w fun e w'=>e = .returned (.tuple #[]) ∧ w' = w:=by
 obtain ⟨j,hj,_⟩:=Option.map_eq_some_iff.1 (show (Tryz.prog.info? 56).map (·.size) = some 2 by kernel_rfl)
 go_enter Tryz.func71,Tryz.ntmps71
 go_wp2
 rw [Lib.run_neq_ptr_same w _ Tryz.underlying54 hj]
 go_wp2
 go_end0
 exact ⟨rfl,rfl⟩
theorem cc_fresh (T b:Nat) (hlies:liesAt Tryz.prog Tryz.prog.depth T (2 / Tryz.prog.cellsOf T) 0 56 1 = true) (w:World) (h0:w.cell? ⟨b,0,none⟩ = some (.pointer none)) (hsh:w.shape? b = some (T,2)) (hfz:w.frozen? ⟨b,0,none⟩ = false) :
  Calls Tryz.prog 71 #[.pointer (some ⟨b,0,none⟩)] w fun e w'=>e = .returned (.tuple #[]) ∧ w' = w.setCell ⟨b,0,none⟩ (.pointer (some ⟨b,0,none⟩)):=by
 obtain ⟨j,hj,hjs⟩:=Option.map_eq_some_iff.1 (show (Tryz.prog.info? 56).map (·.size) = some 2 by kernel_rfl)
 go_enter Tryz.func71,Tryz.ntmps71
 go_wp2
 rw [Lib.run_to_unsafe w ⟨b,0,none⟩ Tryz.underlying54 Tryz.underlying127 hj (by rw [hjs];decide) hsh (Nat.zero_lt_succ 1)]
 simp only [Result.andThen]
 rw [Oper.upon_value]
 go_wp2
 rw [run_callFunc_extern Tryz.func92 (by kernel_rfl) (by kernel_rfl) (by kernel_rfl) (e:=Extern.AbiNoEscape.same) (by kernel_rfl)]
 rw [Lib.run_noEscape]
 simp only [Result.andThen]
 rw [Oper.upon_value]
 go_wp2
 rw [Lib.run_from_unsafe w ⟨b,0,none⟩ Tryz.underlying127 Tryz.underlying54 hj hsh hlies]
 simp only [Result.andThen]
 rw [Oper.upon_value]
 go_wp2
 go_end0
 exact ⟨rfl,rfl⟩
section
variable {I0:Nat → Nat → Prop} {X:Nat → Prop} {w0:W0} {I:Nat → Nat → Prop} {g:Nat → Value} {s:S} {a:Act} {w:World}
theorem RelI.unob (h:RelI I0 X w0 I g s a w) {k T:Nat} {us:List Value} (hk:s.o[k]? = some (.ob T us)) (h1:ones (constL us) = true):RelI I0 X w0 I g ⟨s.t,s.o.set k (.box (constL us))⟩ a w:=by
 have hlt:=(List.getElem?_eq_some_iff.1 hk).1
 have back:∀ i,live ⟨s.t,s.o.set k (.box (constL us))⟩ i → live s i:=fun i hl=>by
  obtain ⟨o,ho,hdd⟩:=hl
  by_cases hik:k = i
  ·subst hik;exact ⟨_,hk,by simp⟩
  ·simp only [List.getElem?_set_ne hik] at ho
   exact ⟨o,ho,hdd⟩
 refine ⟨h.im,h.lt,h.fr,h.kp,by simp only [List.length_set];exact h.lo,h.st,fun i o ho=>?_,fun i j b hi hj=>h.dis i j b (back i hi) (back j hj),fun i hi=>h.out i (by simpa using hi),h.tmp,h.dfr⟩
 by_cases hik:k = i
 ·subst hik
  simp only [List.getElem?_set_self hlt] at ho
  cases ho
  obtain ⟨b,h2,h3,h4⟩:=h.obj k _ hk
  exact ⟨b,us,(T,[]),h2,by rw [List.append_nil];exact h3,constL_at us,constL_ones I w g h1,h4⟩
 ·simp only [List.getElem?_set_ne hik] at ho
  exact h.obj i o ho
end
def penO (T:Nat):O:=.ob T [.pointer none,.slice none 0 0]
theorem copyCheck_ok:fnOk Tryz.prog 71 = true:=by kernel_rfl
theorem shape_of {w:World} {b T:Nat} {us:List Value} (h:w.heap[b]? = some (.cells us.toArray T (0,0))):w.shape? b = some (T,us.length):=by
 unfold World.shape?
 rw [h]
 simp
theorem ccF_s (T:Nat) (hlies:liesAt Tryz.prog Tryz.prog.depth T (2 / Tryz.prog.cellsOf T) 0 56 1 = true):SpecO 71 [.ptr 0 0] [penO T] (fun res os=>res = [] ∧ os = [.box [.ptr 0 0,.em]]):=by
 refine ⟨copyCheck_ok,fun I w g args hrel=>?_⟩
 obtain ⟨b,hg,hb,hI,hM⟩:=hrel.obj 0 _ rfl
 obtain ⟨u,us,rfl,hu,hus⟩:=AtVs.uncons (show AtVs I w g args [.ptr 0 0] from hrel.tmp)
 obtain rfl:=hus.unnil
 obtain ⟨b',hg',rfl⟩:=hu.unptr
 rw [hg] at hg'
 injection hg' with hg'
 injection hg' with hg'
 injection hg' with hg' _ _
 subst hg'
 have c0:w.cell? ⟨b,0,none⟩ = some (.pointer none):=by rw [Lib.cell_of_heap hb];rfl
 refine (cc_fresh T b hlies w c0 (shape_of hb) (Lib.frozen_of_heap hb 0)).mono ?_
 rintro e w' ⟨rfl,rfl⟩
 have h2:=hrel.unob (k:=0) (T:=T) (us:=[.pointer none,.slice none 0 0]) rfl rfl
 have hp:AtVs I w g [.pointer (some ⟨b,0,none⟩)] [V.ptr 0 0]:=.cons (.ptr 0 0 b hg) (.nil I w g)
 obtain ⟨b2,us2,t2,hg2,hb2,hlen,h3⟩:=h2.store (k:=0) (n:=0) (cs:=[.d (.sc (.pointer none)),.em]) (ds:=[.ptr 0 0]) (r:=[.ptr 0 0,.em]) (vs:=[.pointer (some ⟨b,0,none⟩)]) rfl hp (by simp [Value.oneCell']) rfl
 rw [hg] at hg2
 injection hg2 with hg2
 injection hg2 with hg2
 injection hg2 with hg2 _ _
 subst hg2
 rw [hb] at hb2
 injection hb2 with hb2
 injection hb2 with e1 e2 _
 have e3:us2 = [.pointer none,.slice none 0 0]:=by
  have:=congrArg Array.toList e1
  simpa using this.symm
 subst e3
 rw [setCell_eq_setRow w b 0 _ T (0,0) _ hb]
 refine ⟨[],[],_,I,g,rfl,⟨rfl,rfl⟩,⟨h3.im,h3.lt,h3.fr,h3.kp,h3.lo,h3.st,h3.obj,h3.dis,h3.out,.nil _ _ _,rfl,h3.dfr.2⟩⟩
theorem ccU_s (x:V) (os0:List O):SpecO 71 [.ptr 0 0] (.box [.ptr 0 0,x] :: os0) (fun res os=>res = [] ∧ os = .box [.ptr 0 0,x] :: os0):=by
 refine ⟨copyCheck_ok,fun I w g args hrel=>?_⟩
 obtain ⟨b,us,t,hg,hb,hcs,h1,hI,hM⟩:=hrel.obj 0 _ rfl
 obtain ⟨u,us',rfl,hu,hus⟩:=AtVs.uncons (show AtVs I w g args [.ptr 0 0] from hrel.tmp)
 obtain rfl:=hus.unnil
 obtain ⟨b',hg',rfl⟩:=hu.unptr
 rw [hg] at hg'
 injection hg' with hg'
 injection hg' with hg'
 injection hg' with hg' _ _
 subst hg'
 obtain ⟨u0,us0,rfl,hu0,_⟩:=hcs.uncons
 obtain ⟨b2,hg2,rfl⟩:=hu0.unptr
 rw [hg] at hg2
 injection hg2 with hg2
 injection hg2 with hg2
 injection hg2 with hg2 _ _
 subst hg2
 have c0:w.cell? ⟨b,0,none⟩ = some (.pointer (some ⟨b,0,none⟩)):=by rw [Lib.cell_of_heap hb];rfl
 refine (cc_used b w c0).mono ?_
 rintro e w' ⟨rfl,rfl⟩
 exact ⟨[],[],_,I,g,rfl,⟨rfl,rfl⟩,⟨hrel.im,hrel.lt,hrel.fr,hrel.kp,hrel.lo,hrel.st,hrel.obj,hrel.dis,hrel.out,.nil _ _ _,rfl,hrel.dfr.2⟩⟩
end
def Split (w:World) (v v':Value) (w':World):Prop:=(∃ g,v.ownBlock = some g ∧ v'.ownBlock = some g ∧ w.grownBy w' (some g)) ∨ (Below w.heap.size w w' ∧ (v'.ownBlock = none ∨ v'.ownBlock = some w.heap.size))
theorem run_append_str {P:Program} (w:World) (t u ty e:TypeId) (i:TypeInfo) (ht:P.underlying t = some (.slice e)) (hu:P.underlying u = some .string) (hi:P.info? e = some i) (hz:i.zero = some (.int .u8 0)) (hsize:i.size = 1) (hby:i.bytes = 1)
  (v:Value) (n:Nat) (xs:List Value) (hown:w.ownsRow 0 e 1 v n xs) (s:ByteArray) (h63:n + s.size ≤ maxLen) (hbytes:n + s.size ≤ 140737488355328) :
  ∃ v' w',(Builtin.append_ #[t,u] ty #[v,.string s]).run P w = .ok v' w' ∧ w'.ownsRow 0 e 1 v' (n + s.size) (xs ++ Lib.strCells s) ∧ Split w v v' w':=by
 obtain ⟨v',w',hr,h2,h3,h4⟩:=Lib.run_append_own_string (P:=P) w 0 t u ty e i ht hu hi hz hsize hby v n xs hown s h63 hbytes (Nat.zero_le _)
 refine ⟨v',w',hr,h2,?_⟩
 have hxl:xs.length = n:=by simpa using hown.1
 rcases hown.2 with ⟨rfl,rfl⟩ | ⟨g,cap,cur,rfl,hbg,hg,hnc,hcm,hcs,htake⟩
 ·refine .inr ⟨⟨h3.os,h3.tape,h3.output,h3.size,fun k hk=>h3.block k hk (by simp [Value.ownBlock])⟩,?_⟩
  by_cases hm:s.size = 0
  ·rw [h4.2 ⟨rfl,hm⟩];exact .inl rfl
  ·have hrn:=run_append_nil_string (P:=P) w t u ty e i (.int .u8 0) ht hu hi hz s (by omega) (by unfold maxLen at h63;omega) (by rw [hby];omega)
   rw [hr] at hrn
   injection hrn with e1 e2
   rw [e1]
   exact .inr rfl
 ·by_cases hroom:n + s.size ≤ cap
  ·have hrr:=Lib.run_append_room_string (P:=P) w t u ty e i ht hu hi hsize g n cap cur hg s hroom (by omega)
   rw [hr] at hrr
   injection hrr with e1 e2
   rw [e1]
   exact .inl ⟨g,rfl,rfl,h3⟩
  ·have holds:∀ j u,xs[j]? = some u → w.cell? ((⟨g,0,none⟩:Addr).add j) = some u:=hown.cells (g:=g) rfl
   have hrg:=Lib.run_append_grow_string (P:=P) w t u ty e i (.int .u8 0) ht hu hi hz ⟨g,0,none⟩ n cap xs (by rw [hsize];simpa using hxl) holds s (by omega) (by unfold maxLen at h63;omega) (by rw [hby];exact growslice_fits (by omega) (by omega))
   rw [hr] at hrg
   injection hrg with e1 e2
   rw [e1,e2]
   exact .inr ⟨((Below.refl _ _).drew).alloc (Nat.le_refl _) _,.inr rfl⟩
theorem wp_append_str {P:Program} {w:World} {ops:Array Oper} {rest:List Oper} {o:Oper} {a:Act} {Q:Exit → Act → World → Prop} (hgd:o.guard = none) (sl x:Operand) (t u:TypeId)
  (ho:o.op = .call { callee:=.builtin .append,args:=#[sl,x],argTypes:=#[t,u] })
  (e:TypeId) (i:TypeInfo) (ht:P.underlying t = some (.slice e)) (hu:P.underlying u = some .string) (hi:P.info? e = some i) (hz:i.zero = some (.int .u8 0)) (hsize:i.size = 1) (hby:i.bytes = 1)
  (v:Value) (n:Nat) (xs:List Value) (hs:a.eval sl = v) (hown:w.ownsRow 0 e 1 v n xs) (s:ByteArray) (hx:a.eval x = .string s) (h63:n + s.size ≤ maxLen) (hbytes:n + s.size ≤ 140737488355328)
  (h:∀ v' w',w'.ownsRow 0 e 1 v' (n + s.size) (xs ++ Lib.strCells s) → Split w v v' w' → wpList P ops Q rest (a.put o.dst v') w'):wpList P ops Q (o :: rest) a w:=by
 refine wpList_plain hgd fun K hK=>?_
 obtain ⟨v',w',hr,h2,h3⟩:=run_append_str (P:=P) w t u o.type e i ht hu hi hz hsize hby v n xs hown s h63 hbytes
 unfold Oper.wp execOp
 simp only [ho,resolve,invoke,builtin,Sem.run_bind,Sem.run_pure,Result.andThen_ok,List.map_toArray,List.map_cons,List.map_nil,hs,hx,hr]
 exact hK _ _ (h v' w' h2 h3)
theorem Split.other {w w':World} {v v':Value} (h:Split w v v' w') {b:Nat} (hb:b < w.heap.size) (hne:v.ownBlock ≠ some b):w'.heap[b]? = w.heap[b]?:=by
 rcases h with ⟨g,h1,h2,h3⟩ | ⟨h1,_⟩
 ·exact h3.block b hb (by rw [← h1];exact fun e=>hne e.symm)
 ·exact h1.block b hb
theorem cell_get {w:World} {b T:Nat} {cur:Array Value} (h:w.heap[b]? = some (.cells cur T (0,0))) (i:Nat):w.cell? ⟨b,i,none⟩ = cur[i]?:=by
 unfold World.cell?
 rw [h]
 simp
theorem wsU_w (b T n:Nat) (cur:Array Value) (v:Value) (xs:List Value) (s:ByteArray) (w:World) (hb:w.heap[b]? = some (.cells cur T (0,0))) (k0:cur[0]? = some (.pointer (some ⟨b,0,none⟩))) (k1:cur[1]? = some v) (hown:w.ownsRow 0 5 1 v n xs) (hne:v.ownBlock ≠ some b) (h63:n + s.size ≤ 137438953472) :
  Calls Tryz.prog 45 #[.pointer (some ⟨b,0,none⟩),.string s] w fun e w'=>∃ v' w1,e = .returned (.tuple #[.int .i64 s.size,.nilIface]) ∧ w1.ownsRow 0 5 1 v' (n + s.size) (xs ++ Lib.strCells s) ∧ Split w v v' w1 ∧ w1.heap[b]? = some (.cells cur T (0,0)) ∧ w' = w1.setCell ⟨b,1,none⟩ v':=by
 obtain ⟨i0,hi,hz0,hz1,hz2⟩:=info_parts (show (Tryz.prog.info? 5).map (fun i=>(i.zero,i.size,i.bytes)) = some (some (.int .u8 0),1,1) by kernel_rfl)
 have c0:w.cell? ⟨b,0,none⟩ = some (.pointer (some ⟨b,0,none⟩)):=by rw [cell_get hb];exact k0
 have c1:w.cell? ⟨b,1,none⟩ = some v:=by rw [cell_get hb];exact k1
 have hlt:b < w.heap.size:=by
  rcases Nat.lt_or_ge b w.heap.size with h' | h'
  ·exact h'
  ·simp [Array.getElem?_eq_none h'] at hb
 have HB:=Lib.hid hb
 have HOWN:=Lib.hid hown
 have K0:=Lib.hid k0
 have K1:=Lib.hid k1
 clear hb hown k0 k1
 go_enter Tryz.func45,Tryz.ntmps45
 go_wp2_with fail
 refine (cc_used b _ c0).mono ?_
 rintro e w1 ⟨rfl,e1⟩
 subst e1
 go_wp2_with (at_builtin;refine wp_append_str rfl _ _ 32 9 rfl 5 i0 Tryz.underlying32 Tryz.underlying9 hi hz0 hz1 hz2 _ n xs rfl HOWN.out s rfl ?h1 ?h2 ?_)
 case h1=>unfold maxLen;omega
 case h2=>omega
 intro v' w2 hown' hsp
 have hb2:=(hsp.other hlt hne).trans HB.out
 have d0:w2.cell? ⟨b,0,none⟩ = some (.pointer (some ⟨b,0,none⟩)):=by rw [cell_get hb2];exact K0.out
 have d1:w2.cell? ⟨b,1,none⟩ = some v:=by rw [cell_get hb2];exact K1.out
 have f1:w2.frozen? ⟨b,1,none⟩ = false:=Lib.frozen_of_heap hb2 1
 obtain ⟨A,cap,rfl⟩:=own_slice hown'
 have HB2:=Lib.hid hb2
 have HO2:=Lib.hid hown'
 have HSP:=Lib.hid hsp
 clear hb2 hown' hsp c0 c1
 go_wp2
 go_ret2
 exact ⟨_,w2,rfl,HO2.out,HSP.out,HB2.out,rfl⟩
theorem wsF_w (b T:Nat) (hlies:liesAt Tryz.prog Tryz.prog.depth T (2 / Tryz.prog.cellsOf T) 0 56 1 = true) (s:ByteArray) (w:World) (hb:w.heap[b]? = some (.cells #[.pointer none,.slice none 0 0] T (0,0))) (h63:s.size ≤ 137438953472) :
  Calls Tryz.prog 45 #[.pointer (some ⟨b,0,none⟩),.string s] w fun e w'=>∃ v' w1,e = .returned (.tuple #[.int .i64 s.size,.nilIface]) ∧ w1.ownsRow 0 5 1 v' s.size (Lib.strCells s) ∧ Split (w.setCell ⟨b,0,none⟩ (.pointer (some ⟨b,0,none⟩))) (.slice none 0 0) v' w1 ∧ w1.heap[b]? = some (.cells #[.pointer (some ⟨b,0,none⟩),.slice none 0 0] T (0,0)) ∧ w' = w1.setCell ⟨b,1,none⟩ v':=by
 obtain ⟨i0,hi,hz0,hz1,hz2⟩:=info_parts (show (Tryz.prog.info? 5).map (fun i=>(i.zero,i.size,i.bytes)) = some (some (.int .u8 0),1,1) by kernel_rfl)
 have c0:w.cell? ⟨b,0,none⟩ = some (.pointer none):=by rw [cell_get hb];rfl
 have hlt:b < w.heap.size:=by
  rcases Nat.lt_or_ge b w.heap.size with h' | h'
  ·exact h'
  ·simp [Array.getElem?_eq_none h'] at hb
 have hsh:=shape_of (us:=[.pointer none,.slice none 0 0]) hb
 have hfz:=Lib.frozen_of_heap hb 0
 have hb1:(w.setCell ⟨b,0,none⟩ (.pointer (some ⟨b,0,none⟩))).heap[b]? = some (.cells #[.pointer (some ⟨b,0,none⟩),.slice none 0 0] T (0,0)):=by
  rw [setCell_eq_setRow w b 0 _ T (0,0) _ hb,setRow_heap w b _ _ T _ hb]
  rfl
 have hlt1:b < (w.setCell ⟨b,0,none⟩ (.pointer (some ⟨b,0,none⟩))).heap.size:=by
  rcases Nat.lt_or_ge b (w.setCell ⟨b,0,none⟩ (.pointer (some ⟨b,0,none⟩))).heap.size with h' | h'
  ·exact h'
  ·simp [Array.getElem?_eq_none h'] at hb1
 obtain ⟨wz,hwz⟩:∃ wz,wz = w.setCell ⟨b,0,none⟩ (.pointer (some ⟨b,0,none⟩)):=⟨_,rfl⟩
 rw [← hwz] at hb1 hlt1 ⊢
 have HZ:=Lib.hid hwz
 clear hwz
 have HB:=Lib.hid hb1
 have HL:=Lib.hid hlies
 have HS:=Lib.hid hsh
 have HF:=Lib.hid hfz
 clear hb hb1 hlies hsh hfz
 go_enter Tryz.func45,Tryz.ntmps45
 go_wp2_with fail
 refine (cc_fresh T b HL.out _ c0 HS.out HF.out).mono ?_
 rintro e w1 ⟨rfl,e1⟩
 rw [← HZ.out] at e1
 subst e1
 have g1:w1.cell? ⟨b,1,none⟩ = some (.slice none 0 0):=by rw [cell_get HB.out];rfl
 go_wp2_with (at_builtin;refine wp_append_str rfl _ _ 32 9 rfl 5 i0 Tryz.underlying32 Tryz.underlying9 hi hz0 hz1 hz2 _ 0 [] rfl (World.ownsRow_nil w1 0 5 1) s rfl ?h1 ?h2 ?_)
 case h1=>unfold maxLen;omega
 case h2=>omega
 intro v' w2 hown' hsp
 have hb2:=(hsp.other hlt1 (by simp [Value.ownBlock])).trans HB.out
 have d0:w2.cell? ⟨b,0,none⟩ = some (.pointer (some ⟨b,0,none⟩)):=by rw [cell_get hb2];rfl
 have d1:w2.cell? ⟨b,1,none⟩ = some (.slice none 0 0):=by rw [cell_get hb2];rfl
 have f1:w2.frozen? ⟨b,1,none⟩ = false:=Lib.frozen_of_heap hb2 1
 obtain ⟨A,cap,rfl⟩:=own_slice hown'
 have HB2:=Lib.hid hb2
 have HO2:=Lib.hid hown'
 have HSP:=Lib.hid hsp
 clear hb2 hown' hsp c0 g1
 go_wp2
 go_ret2
 exact ⟨_,w2,rfl,HO2.out,HSP.out,HB2.out,rfl⟩
def rU (l:List UInt8):List (List D):=l.map fun c=>[.sc (.int .u8 (c.toNat:Int))]
def penU (l:List UInt8):List O:=[.box [.ptr 0 0,.own 1],.row false 5 (rU l)]
theorem rU_len (l:List UInt8):(rU l).length = l.length:=by unfold rU;rw [List.length_map]
theorem rU_app (a b:List UInt8):rU (a ++ b) = rU a ++ rU b:=by unfold rU;rw [List.map_append]
theorem rU_one (l:List UInt8):∀ r ∈ rU l,r.length = 1:=fun r hr=>by
 unfold rU at hr
 obtain ⟨c,_,rfl⟩:=List.mem_map.1 hr
 rfl
theorem str_at_row {I:Nat → Nat → Prop} {w:World} (s:ByteArray):AtDs I w (Lib.strCells s) (rU (btl s)).flatten:=by
 have key:∀ l:List UInt8,AtDs I w (l.map fun b=>Value.int .u8 b.toNat) (rU l).flatten:=by
  intro l
  induction l with
  | nil=>exact .nil I w
  | cons c l ih=>exact .cons (.sc _ rfl) ih
 exact key _
theorem u8_sz:(ty 5).sz = 1:=rfl
theorem WriteString_ok:fnOk Tryz.prog 45 = true:=by kernel_rfl
theorem isPtr {b c:Nat} (h:Value.pointer (some ⟨b,0,none⟩) = .pointer (some ⟨c,0,none⟩)):b = c:=by
 injection h with h
 injection h with h
 injection h
theorem wsU_s (l:List UInt8) (s:ByteArray) (hlen:l.length + s.size ≤ 137438953472):SpecO 45 [.ptr 0 0,vs s] (penU l) (fun res os=>res = [vi .i64 (s.size:Nat),.d (.sc .nilIface)] ∧ os = penU (l ++ btl s)):=by
 refine ⟨WriteString_ok,fun I w g args hrel=>?_⟩
 obtain ⟨b,us,t,hg,hb,hcs,h1,hI,hM⟩:=hrel.obj 0 _ rfl
 obtain ⟨usr,hown,hrl,hdr,hbk⟩:=hrel.obj 1 _ rfl
 rw [u8_sz,rU_len] at hown
 obtain ⟨u,us',rfl,hu,hus⟩:=AtVs.uncons (show AtVs I w g args [.ptr 0 0,vs s] from hrel.tmp)
 obtain ⟨us1,us2,rfl,hu1,hus2⟩:=hus.uncons
 obtain rfl:=hus2.unnil
 obtain ⟨b',hg',rfl⟩:=hu.unptr
 obtain rfl:=isPtr (hg.symm.trans hg')
 obtain rfl:us1 = .string s:=by cases hu1 with | d hd=>cases hd;rfl
 obtain ⟨u0,us0,rfl,hu0,hu0s⟩:=hcs.uncons
 obtain ⟨v0,us0',rfl,hv0,hv0s⟩:=hu0s.uncons
 obtain rfl:=hv0s.unnil
 obtain ⟨b2,hg2,rfl⟩:=hu0.unptr
 obtain rfl:=isPtr (hg.symm.trans hg2)
 obtain rfl:v0 = g 1:=hv0.unown.1.trans (own_gv hown)
 have hne:(g 1).ownBlock ≠ some b:=fun e=>by
  have h2:gbl (g 1) b:=(own_gblk hown).2 e
  have h3:gbl (g 0) b:=by rw [hg];rfl
  have:=hrel.dis 0 1 b ⟨_,rfl,by simp⟩ ⟨_,rfl,by simp⟩ h3 h2
  omega
 refine (wsU_w b t.1 l.length _ (g 1) usr s w hb (by simp) (by simp) hown hne hlen).mono ?_
 rintro e w' ⟨v',w1,rfl,hown',hsp,hb1,rfl⟩
 have hys:=rU_one (btl s)
 have hl2:(rU (btl s)).length = s.size:=by rw [rU_len,btl_size]
 obtain ⟨I',g',hgv,h2⟩:=hrel.appended (k:=1) (z:=false) (e:=5) (xs:=rU l) (ys:=rU (btl s)) rfl (by rw [u8_sz,rU_len];exact hown) (fun r hr=>hys r hr) (str_at_row s) (v':=v') (w':=w1) (by rw [u8_sz,rU_len,hl2];exact hown') hsp
 have hp0:g' 0 = .pointer (some ⟨b,0,none⟩):=by
  have:=h2.st 0 (by show 0 < 2;omega) (by show isRef (g 0) = true;rw [hg];rfl)
  rw [this];exact hg
 obtain ⟨A',c',hv'⟩:=own_slice hown'
 have hpv:AtVs I' w1 g' [v'] [V.own 1]:=.cons (by rw [hv'];exact .own _ _ _ _ (by rw [hgv,hv'];rfl)) (.nil I' w1 g')
 obtain ⟨b3,us3,t3,hg3,hb3,hlen3,h3⟩:=h2.store (k:=0) (n:=1) (cs:=[.ptr 0 0,.jk]) (ds:=[.own 1]) (r:=[.ptr 0 0,.own 1]) (vs:=[v']) rfl hpv (by intro u hu;simp at hu;subst hu;rw [hv'];rfl) rfl
 obtain rfl:=isPtr (hp0.symm.trans hg3)
 rw [hb1] at hb3
 injection hb3 with hb3
 injection hb3 with e1 e2 _
 have e3:us3 = [.pointer (some ⟨b,0,none⟩),g 1] ++ t.2:=by
  have:=congrArg Array.toList e1
  simpa using this.symm
 have e4:w1.setCell ⟨b,1,none⟩ v' = w1.setRow b (us3.take 1 ++ [v'] ++ us3.drop (1 + 1)).toArray:=by
  rw [setCell_eq_setRow w1 b 1 _ t.1 (0,0) _ hb1,e3]
  congr 1
 rw [e4]
 refine ⟨[.int .i64 (s.size:Nat),.nilIface],[vi .i64 (s.size:Nat),.d (.sc .nilIface)],_,I',g',rfl,⟨rfl,?_⟩,⟨h3.im,h3.lt,h3.fr,h3.kp,h3.lo,h3.st,h3.obj,h3.dis,h3.out,?_,rfl,h3.dfr.2⟩⟩
 ·unfold penU
  rw [rU_app]
  rfl
 ·exact .cons (.d (.sc _ rfl)) (.cons (.d (.sc _ rfl)) (.nil _ _ _))
def Lies (T:Nat):Prop:=liesAt Tryz.prog Tryz.prog.depth T (2 / Tryz.prog.cellsOf T) 0 56 1 = true
theorem wsF_s (T:Nat) (hT:Lies T) (s:ByteArray) (hlen:s.size ≤ 137438953472):SpecO 45 [.ptr 0 0,vs s] [penO T] (fun res os=>res = [vi .i64 (s.size:Nat),.d (.sc .nilIface)] ∧ os = penU (btl s)):=by
 refine ⟨WriteString_ok,fun I w g args hrel=>?_⟩
 obtain ⟨b,hg,hb,hI,hM⟩:=hrel.obj 0 _ rfl
 obtain ⟨u,us',rfl,hu,hus⟩:=AtVs.uncons (show AtVs I w g args [.ptr 0 0,vs s] from hrel.tmp)
 obtain ⟨us1,us2,rfl,hu1,hus2⟩:=hus.uncons
 obtain rfl:=hus2.unnil
 obtain ⟨b',hg',rfl⟩:=hu.unptr
 obtain rfl:=isPtr (hg.symm.trans hg')
 obtain rfl:us1 = .string s:=by cases hu1 with | d hd=>cases hd;rfl
 refine (wsF_w b T hT s w hb hlen).mono ?_
 rintro e w' ⟨v',w1,rfl,hown',hsp,hb1,rfl⟩
 have hu2:=hrel.unob (k:=0) (T:=T) (us:=[.pointer none,.slice none 0 0]) rfl rfl
 have hp:AtVs I w g [.pointer (some ⟨b,0,none⟩)] [V.ptr 0 0]:=.cons (.ptr 0 0 b hg) (.nil I w g)
 obtain ⟨b2,us2,t2,hg2,hb2,hlen2,h0⟩:=hu2.store (k:=0) (n:=0) (cs:=[.d (.sc (.pointer none)),.em]) (ds:=[.ptr 0 0]) (r:=[.ptr 0 0,.em]) (vs:=[.pointer (some ⟨b,0,none⟩)]) rfl hp (by simp [Value.oneCell']) rfl
 obtain rfl:=isPtr (hg.symm.trans hg2)
 rw [hb] at hb2
 injection hb2 with hb2
 injection hb2 with e1 e2 _
 have e3:us2 = [.pointer none,.slice none 0 0]:=by
  have:=congrArg Array.toList e1
  simpa using this.symm
 subst e3
 have e4:w.setCell ⟨b,0,none⟩ (.pointer (some ⟨b,0,none⟩)) = w.setRow b ([Value.pointer none,.slice none 0 0].take 0 ++ [Value.pointer (some ⟨b,0,none⟩)] ++ [Value.pointer none,.slice none 0 0].drop (0 + 1)).toArray:=by
  rw [setCell_eq_setRow w b 0 _ T (0,0) _ hb]
  rfl
 have h00:RelI I (Xof g [penO T]) ⟨w,g,[penO T].length,[]⟩ I g ⟨[V.ptr 0 0,vs s],[O.box [.ptr 0 0,.em]]⟩ { tmps:=[Value.pointer (some ⟨b,0,none⟩),.string s].toArray,defers:=[] } (w.setCell ⟨b,0,none⟩ (.pointer (some ⟨b,0,none⟩))):=by rw [e4];exact h0
 clear h0 e4
 generalize w.setCell ⟨b,0,none⟩ (.pointer (some ⟨b,0,none⟩)) = wz at hsp h00
 have h1:=h00.newObj (.row false 5 []) (.slice none 0 0) ⟨[],by rw [upd_same];exact World.ownsRow_nil wz 0 _ _,by simp,AtDs.nil I wz,fun b hb=>by rw [upd_same] at hb;cases hb⟩ (fun j b _ _ hb=>by cases hb)
 have hys:=rU_one (btl s)
 have hl2:(rU (btl s)).length = s.size:=by rw [rU_len,btl_size]
 obtain ⟨I',g',hgv,h2⟩:=h1.appended (k:=1) (z:=false) (e:=5) (xs:=[]) (ys:=rU (btl s)) (us:=[]) rfl (by rw [show upd g [O.box [V.ptr 0 0,V.em]].length (Value.slice none 0 0) 1 = .slice none 0 0 from upd_same ..];exact World.ownsRow_nil wz 0 _ _) (fun r hr=>hys r hr) (str_at_row s) (v':=v') (w':=w1) (by rw [u8_sz,hl2];simpa using hown') (by rw [show upd g [O.box [V.ptr 0 0,V.em]].length (Value.slice none 0 0) 1 = .slice none 0 0 from upd_same ..];exact hsp)
 have hp0:g' 0 = .pointer (some ⟨b,0,none⟩):=by
  have:=h2.st 0 (by show 0 < 1;omega) (by show isRef (g 0) = true;rw [hg];rfl)
  rw [this];exact hg
 obtain ⟨A',c',hv'⟩:=own_slice hown'
 have hpv:AtVs I' w1 g' [v'] [V.own 1]:=.cons (by rw [hv'];exact .own _ _ _ _ (by rw [hgv,hv'];rfl)) (.nil I' w1 g')
 obtain ⟨b3,us3,t3,hg3,hb3,hlen3,h3⟩:=h2.store (k:=0) (n:=1) (cs:=[.ptr 0 0,.em]) (ds:=[.own 1]) (r:=[.ptr 0 0,.own 1]) (vs:=[v']) rfl hpv (by intro u hu;simp at hu;subst hu;rw [hv'];rfl) rfl
 obtain rfl:=isPtr (hp0.symm.trans hg3)
 rw [hb1] at hb3
 injection hb3 with hb3
 injection hb3 with f1 f2 _
 have f3:us3 = [.pointer (some ⟨b,0,none⟩),.slice none 0 0]:=by
  have:=congrArg Array.toList f1
  simpa using this.symm
 have f4:w1.setCell ⟨b,1,none⟩ v' = w1.setRow b (us3.take 1 ++ [v'] ++ us3.drop (1 + 1)).toArray:=by
  rw [setCell_eq_setRow w1 b 1 _ T (0,0) _ hb1,f3]
  congr 1
 rw [f4]
 refine ⟨[.int .i64 (s.size:Nat),.nilIface],[vi .i64 (s.size:Nat),.d (.sc .nilIface)],_,I',g',rfl,⟨rfl,?_⟩,⟨h3.im,h3.lt,h3.fr,h3.kp,h3.lo,h3.st,h3.obj,h3.dis,h3.out,?_,rfl,h3.dfr.2⟩⟩
 ·rfl
 ·exact .cons (.d (.sc _ rfl)) (.cons (.d (.sc _ rfl)) (.nil _ _ _))
theorem wbU_s (l:List UInt8) (c:UInt8) (hlen:l.length + 1 ≤ 137438953472):SpecO 46 [.ptr 0 0,vi .u8 (c.toNat:Int)] (penU l) (fun res os=>res = [.d (.sc .nilIface)] ∧ os = penU (l ++ [c])):=by
 unfold penU
 rw [rU_app,show rU [c] = [[.sc (.int .u8 (c.toNat:Int))]] from rfl]
 have hll:=rU_len l
 generalize rU l = L at *
 have hcc:=ccU_s (.own 1) [.row false 5 L]
 obtain ⟨ci,hci⟩:∃ ci,ci = (c.toNat:Int):=⟨_,rfl⟩
 rw [← hci]
 refine speco_of Tryz.func46 rfl (by kernel_rfl) (by kernel_rfl) (by kernel_rfl) fun qa qb qc qd qe qg qh qi qj qk ql qm qn qo qp qq qt qu qv qw qx qy qz va vc vd ve vf vg vh vj vk vl vm vn vo vp vq vr vt vu vv vw hA=>?_
 obtain ⟨r1,r2,r3,r4⟩:=row_at hA
 iterate 2 (try cbv;repeat ((first | with_reducible apply next_at hA);cbv))
 try simp (maxSteps:=4000000) only [nc] at *
 refine callo_at hA [0,1] hcc ⟨rfl,rfl,rfl,rfl,rfl,rfl,rfl⟩ ?_
 rintro _ _ ⟨rfl,rfl⟩
 iterate 2 (try cbv;repeat ((first | with_reducible apply next_at hA | refine lit_at hA true ?_ | (refine room_at hA (by simp only [List.length_cons,List.length_nil];omega) ?_));cbv))
 try simp (maxSteps:=4000000) only [nc] at *
 rw [r4]
 exact keep_is hA [0,1] ⟨rfl,rfl,rfl,rfl,rfl,rfl,rfl,rfl⟩ ⟨rfl,rfl⟩
theorem wbF_s (T:Nat) (hT:Lies T) (c:UInt8):SpecO 46 [.ptr 0 0,vi .u8 (c.toNat:Int)] [penO T] (fun res os=>res = [.d (.sc .nilIface)] ∧ os = penU [c]):=by
 unfold penU
 rw [show rU [c] = [[.sc (.int .u8 (c.toNat:Int))]] from rfl]
 have hcc:=ccF_s T hT
 unfold penO at *
 obtain ⟨ci,hci⟩:∃ ci,ci = (c.toNat:Int):=⟨_,rfl⟩
 rw [← hci]
 refine speco_of Tryz.func46 rfl (by kernel_rfl) (by kernel_rfl) (by kernel_rfl) fun qa qb qc qd qe qg qh qi qj qk ql qm qn qo qp qq qt qu qv qw qx qy qz va vc vd ve vf vg vh vj vk vl vm vn vo vp vq vr vt vu vv vw hA=>?_
 obtain ⟨r1,r2,r3,r4⟩:=row_at hA
 iterate 2 (try cbv;repeat ((first | with_reducible apply next_at hA);cbv))
 try simp (maxSteps:=4000000) only [nc] at *
 refine callo_at hA [0] hcc ⟨rfl,rfl,rfl,rfl,rfl,rfl,rfl⟩ ?_
 rintro _ _ ⟨rfl,rfl⟩
 iterate 2 (try cbv;repeat ((first | with_reducible apply next_at hA | refine lit_at hA true ?_ | refine new_at hA false ?_ | (refine room_at hA (by simp only [List.length_cons,List.length_nil];omega) ?_));cbv))
 try simp (maxSteps:=4000000) only [nc] at *
 exact keep_is hA [0,1] ⟨rfl,rfl,rfl,rfl,rfl,rfl,rfl,rfl⟩ ⟨rfl,rfl⟩
section
section
variable {I0:Nat → Nat → Prop} {X:Nat → Prop} {w0:W0} {I:Nat → Nat → Prop} {g:Nat → Value} {s:S} {a:Act} {w:World}
theorem live_dead2 {s:S} {k:Nat} {j:Nat} (h:live ⟨s.t,s.o.set k .dead⟩ j):j ≠ k ∧ live s j:=by
 obtain ⟨o,ho,hd⟩:=h
 by_cases e:k = j
 ·subst e
  simp only at ho
  have hlt:=(List.getElem?_eq_some_iff.1 ho).1
  rw [List.length_set] at hlt
  rw [List.getElem?_set_self hlt] at ho
  cases ho
  exact absurd rfl hd
 ·simp only [List.getElem?_set_ne e] at ho
  exact ⟨Ne.symm e,o,ho,hd⟩
theorem RelI.dead (h:RelI I0 X w0 I g s a w) (k:Nat):RelI I0 X w0 I g ⟨s.t,s.o.set k .dead⟩ a w:=by
 refine ⟨h.im,h.lt,h.fr,h.kp,by simp only [List.length_set];exact h.lo,h.st,fun i o ho=>?_,fun i j b hi hj=>h.dis i j b (live_dead2 hi).2 (live_dead2 hj).2,fun i hi=>h.out i (by simpa using hi),h.tmp,h.dfr⟩
 by_cases hd:o = .dead
 ·subst hd;exact True.intro
 ·have h1:=live_dead2 (s:=s) (k:=k) ⟨o,ho,hd⟩
  simp only [List.getElem?_set_ne (Ne.symm h1.1)] at ho
  exact h.obj i o ho
theorem RelI.deadTo (h:RelI I0 X w0 I g s a w) {k:Nat} {o:O} (hk:s.o[k]? = some o) (hd:o ≠ .dead) {w':World} {b:Nat} (hb:gbl (g k) b) (hos:w'.os = w.os) (htp:w'.tape = w.tape) (hou:w'.output = w.output) (hsz:w'.heap.size = w.heap.size)
  (hoth:∀ c,c ≠ b → w'.heap[c]? = w.heap[c]?) (hcell:∀ i,w'.cell? ⟨b,i,none⟩ = w.cell? ⟨b,i,none⟩):RelI I0 X w0 I g ⟨s.t,s.o.set k .dead⟩ a w':=by
 have hm:=(h.obj k o hk).blk hd b hb
 have hkp:Keeps I w w':=fun b' n hb' i hi=>by
  by_cases e:b' = b
  ·subst e;exact hcell i
  ·exact blk_cell (hoth b' e) i
 refine ⟨h.im,fun b' n hb'=>by rw [hsz];exact h.lt b' n hb',⟨hos.trans h.fr.os,htp.trans h.fr.tape,hou.trans h.fr.output,by rw [hsz];exact h.fr.size,fun b' hb' hX=>?_⟩,h.kp.trans fun b' n hb' i hi=>hkp b' n (h.im b' n hb') i hi,by simp only [List.length_set];exact h.lo,h.st,fun i x hx=>?_,fun i j b hi hj=>h.dis i j b (live_dead2 hi).2 (live_dead2 hj).2,fun i hi=>h.out i (by simpa using hi),h.tmp.mono (fun _ _ h=>h) hkp,h.dfr⟩
 ·rw [hoth b' fun e=>?_]
  ·exact h.fr.block b' hb' hX
  ·subst e
   rcases hm.2 with h1 | h1
   ·omega
   ·exact hX h1
 ·by_cases hxd:x = .dead
  ·subst hxd;exact True.intro
  ·have h1:=live_dead2 (s:=s) (k:=k) ⟨x,hx,hxd⟩
   simp only [List.getElem?_set_ne (Ne.symm h1.1)] at hx
   refine (h.obj i x hx).keep (fun _ _ h=>h) hkp (fun b' hb'=>hoth b' fun e=>?_) fun _ _ _ h=>h
   subst e
   exact h1.1 (h.dis i k b' ⟨x,hx,hxd⟩ ⟨o,hk,hd⟩ hb' hb)
end
theorem freeze_heap {w:World} {b T n:Nat} {cur:Array Value} (hn:n ≠ 0) (h:w.heap[b]? = some (.cells cur T (0,0))):(w.freeze ⟨b,0,none⟩ n).heap[b]? = some (.cells cur T (0,n)):=by
 unfold World.freeze
 rw [if_neg hn]
 have hlt:=(Array.getElem?_eq_some_iff.1 h).1
 simp only [Array.getElem?_modify,if_true,h]
 simp
theorem freeze_other {w:World} {b n c:Nat} (hc:c ≠ b):(w.freeze ⟨b,0,none⟩ n).heap[c]? = w.heap[c]?:=by
 unfold World.freeze
 split
 ·rfl
 ·simp only [Array.getElem?_modify]
  rw [if_neg (Ne.symm hc)]
theorem freeze_rest (w:World) (b n:Nat):(w.freeze ⟨b,0,none⟩ n).os = w.os ∧ (w.freeze ⟨b,0,none⟩ n).tape = w.tape ∧ (w.freeze ⟨b,0,none⟩ n).output = w.output ∧ (w.freeze ⟨b,0,none⟩ n).heap.size = w.heap.size:=by
 unfold World.freeze
 split
 ·exact ⟨rfl,rfl,rfl,rfl⟩
 ·exact ⟨rfl,rfl,rfl,by simp⟩
theorem String_ok:fnOk Tryz.prog 27 = true:=by kernel_rfl
theorem stB_w (b T gb cap:Nat) (cur gc:Array Value) (l:List UInt8) (h0:l ≠ []) (w:World) (hb:w.heap[b]? = some (.cells cur T (0,0))) (k1:cur[1]? = some (.slice (some ⟨gb,0,none⟩) l.length cap)) (hg:w.heap[gb]? = some (.cells gc 5 (0,0))) (hcap:l.length ≤ cap) (hcm:cap ≤ maxLen) (hcs:gc.size = cap)
  (hcells:∀ (j:Nat) (x:UInt8),l[j]? = some x → gc[j]? = some (Value.int .u8 x.toNat)) :
  Calls Tryz.prog 27 #[.pointer (some ⟨b,0,none⟩)] w fun e w'=>e = .returned (.string ⟨l.toArray⟩) ∧ w' = w.drew.freeze ⟨gb,0,none⟩ l.length:=by
 have hl0:l.length ≠ 0:=by simpa using h0
 have c1:w.drew.cell? ⟨b,1,none⟩ = some (.slice (some ⟨gb,0,none⟩) l.length cap):=by
  have:w.drew.heap[b]? = some (.cells cur T (0,0)):=hb
  rw [cell_get this];exact k1
 have hSD:(Builtin.unsafeSliceData_ #[32] 97 #[.slice (some ⟨gb,0,none⟩) l.length cap]).run Tryz.prog w.drew = .ok (.pointer (some ⟨gb,0,none⟩)) w.drew :=
  Lib.run_unsafeSliceData_row _ _ _ _ _ _ (by omega)
 have hUS:(Builtin.unsafeString_ #[97,3] 9 #[.pointer (some ⟨gb,0,none⟩),.int .i64 l.length]).run Tryz.prog w.drew = .ok (.string ⟨l.toArray⟩) (w.drew.freeze ⟨gb,0,none⟩ l.length):=by
  refine Lib.run_unsafeString_row w.drew 97 3 9 5 Tryz.underlying97 (by kernel_rfl) gb gc.size (by have hg':w.drew.heap[gb]? = some (.cells gc 5 (0,0)):=hg;simp [World.shape?,hg']) l h0 (by omega) (by unfold maxLen at hcm;omega) ?_
  intro j x hx
  have hg':w.drew.heap[gb]? = some (.cells gc 5 (0,0)):=hg
  rw [Addr.add_lit,Nat.zero_add,cell_get hg']
  exact hcells j x hx
 clear hb k1 hg hcap hcm hcs hcells h0
 go_enter Tryz.func27,Tryz.ntmps27
 go_wp2
 go_region
 all_goals (go_wp2;go_ret;exact ⟨rfl,rfl⟩)
theorem stN_w (b T:Nat) (cur:Array Value) (w:World) (hb:w.heap[b]? = some (.cells cur T (0,0))) (k1:cur[1]? = some (.slice none 0 0)) :
  Calls Tryz.prog 27 #[.pointer (some ⟨b,0,none⟩)] w fun e w'=>e = .returned (.string ⟨#[]⟩) ∧ w' = w.drew:=by
 have c1:w.drew.cell? ⟨b,1,none⟩ = some (.slice none 0 0):=by
  have:w.drew.heap[b]? = some (.cells cur T (0,0)):=hb
  rw [cell_get this];exact k1
 have hSD:(Builtin.unsafeSliceData_ #[32] 97 #[.slice none 0 0]).run Tryz.prog w.drew = .ok (.pointer none) w.drew:=rfl
 have hUS:(Builtin.unsafeString_ #[97,3] 9 #[.pointer none,.int .i64 0]).run Tryz.prog w.drew = .ok (.string .empty) w.drew:=Lib.run_unsafeString_none w.drew _ _ _ none
 clear hb k1
 go_enter Tryz.func27,Tryz.ntmps27
 go_wp2
 go_region
 all_goals (go_wp2;go_ret;exact ⟨rfl,rfl⟩)
theorem stR_w (b T gb cap:Nat) (hc0:cap ≠ 0) (cur:Array Value) (w:World) (hb:w.heap[b]? = some (.cells cur T (0,0))) (k1:cur[1]? = some (.slice (some ⟨gb,0,none⟩) 0 cap)) :
  Calls Tryz.prog 27 #[.pointer (some ⟨b,0,none⟩)] w fun e w'=>e = .returned (.string ⟨#[]⟩) ∧ w' = w.drew:=by
 have c1:w.drew.cell? ⟨b,1,none⟩ = some (.slice (some ⟨gb,0,none⟩) 0 cap):=by
  have:w.drew.heap[b]? = some (.cells cur T (0,0)):=hb
  rw [cell_get this];exact k1
 have hSD:(Builtin.unsafeSliceData_ #[32] 97 #[.slice (some ⟨gb,0,none⟩) 0 cap]).run Tryz.prog w.drew = .ok (.pointer (some ⟨gb,0,none⟩)) w.drew:=Lib.run_unsafeSliceData_row _ _ _ _ _ _ hc0
 have hUS:(Builtin.unsafeString_ #[97,3] 9 #[.pointer (some ⟨gb,0,none⟩),.int .i64 0]).run Tryz.prog w.drew = .ok (.string .empty) w.drew:=Lib.run_unsafeString_none w.drew _ _ _ _
 clear hb k1 hc0
 go_enter Tryz.func27,Tryz.ntmps27
 go_wp2
 go_region
 all_goals (go_wp2;go_ret;exact ⟨rfl,rfl⟩)
theorem stZ_w (b T gb:Nat) (cur gc:Array Value) (w:World) (hb:w.heap[b]? = some (.cells cur T (0,0))) (k1:cur[1]? = some (.slice (some ⟨gb,0,none⟩) 0 0)) (hg:w.heap[gb]? = some (.cells gc 5 (0,0))) :
  Calls Tryz.prog 27 #[.pointer (some ⟨b,0,none⟩)] w fun e w'=>e = .returned (.string ⟨#[]⟩) ∧ w' = w.drew.alloc (.view ⟨gb,0,none⟩ 5):=by
 have hlt:b < w.heap.size:=by
  rcases Nat.lt_or_ge b w.heap.size with h' | h'
  ·exact h'
  ·simp [Array.getElem?_eq_none h'] at hb
 have c1:w.drew.cell? ⟨b,1,none⟩ = some (.slice (some ⟨gb,0,none⟩) 0 0):=by
  have:w.drew.heap[b]? = some (.cells cur T (0,0)):=hb
  rw [cell_get this];exact k1
 have hSD:(Builtin.unsafeSliceData_ #[32] 97 #[.slice (some ⟨gb,0,none⟩) 0 0]).run Tryz.prog w.drew = .ok (.pointer (some ⟨w.drew.heap.size,0,none⟩)) (w.drew.alloc (.view ⟨gb,0,none⟩ 5)) :=
  Lib.run_unsafeSliceData_zero w.drew _ _ 5 Tryz.underlying97 ⟨gb,0,none⟩ 0 (5,gc.size) (by have hg':w.drew.heap[gb]? = some (.cells gc 5 (0,0)):=hg;simp [World.shape?,hg'])
 have hb2:(w.drew.alloc (.view ⟨gb,0,none⟩ 5)).heap[b]? = some (.cells cur T (0,0)):=(Lib.alloc_old w.drew _ b hlt).trans hb
 have c2:(w.drew.alloc (.view ⟨gb,0,none⟩ 5)).cell? ⟨b,1,none⟩ = some (.slice (some ⟨gb,0,none⟩) 0 0):=by
  rw [cell_get hb2];exact k1
 have c3:(w.alloc (.view ⟨gb,0,none⟩ 5)).drew.cell? ⟨b,1,none⟩ = some (.slice (some ⟨gb,0,none⟩) 0 0):=c2
 have c0:w.cell? ⟨b,1,none⟩ = some (.slice (some ⟨gb,0,none⟩) 0 0):=c1
 have hUS:∀ W:World,∀ q,(Builtin.unsafeString_ #[97,3] 9 #[.pointer q,.int .i64 0]).run Tryz.prog W = .ok (.string .empty) W:=fun W q=>Lib.run_unsafeString_none W _ _ _ q
 clear hb k1 hb2 hg
 go_enter Tryz.func27,Tryz.ntmps27
 go_wp2
 go_region
 all_goals (go_wp2;go_ret;exact ⟨rfl,rfl⟩)
theorem row_cells {I:Nat → Nat → Prop} {w:World}:∀ (l:List UInt8) {us:List Value},AtDs I w us (rU l).flatten → us = l.map fun c=>Value.int .u8 c.toNat
 | [],us,h=>by
  have:=h.1
  simp [rU] at this
  exact this
 | c :: l,us,h=>by
  obtain ⟨u,us',rfl,h1,h2⟩:=AtDs.uncons (show AtDs I w us (.sc (.int .u8 (c.toNat:Int)) :: (rU l).flatten) from h)
  rw [row_cells l h2]
  cases h1
  rfl
theorem stU_s (l:List UInt8):SpecO 27 [.ptr 0 0] (penU l) (fun res os=>res = [vs ⟨l.toArray⟩] ∧ os = [.dead,.dead]):=by
 refine ⟨String_ok,fun I w g args hrel=>?_⟩
 obtain ⟨b,us,t,hg,hb,hcs,h1,hI,hM⟩:=hrel.obj 0 _ rfl
 obtain ⟨usr,hown,hrl,hdr,hbk⟩:=hrel.obj 1 _ rfl
 rw [u8_sz,rU_len] at hown
 obtain ⟨u,us',rfl,hu,hus⟩:=AtVs.uncons (show AtVs I w g args [.ptr 0 0] from hrel.tmp)
 obtain rfl:=hus.unnil
 obtain ⟨b',hg',rfl⟩:=hu.unptr
 obtain rfl:=isPtr (hg.symm.trans hg')
 obtain ⟨u0,us0,rfl,hu0,hu0s⟩:=hcs.uncons
 obtain ⟨v0,us0',rfl,hv0,hv0s⟩:=hu0s.uncons
 obtain rfl:=hv0s.unnil
 obtain rfl:v0 = g 1:=hv0.unown.1.trans (own_gv hown)
 have hur:=row_cells l hdr
 subst hur
 have hd:=hrel.drew
 have fin:∀ {w':World} {I':Nat → Nat → Prop} {o0 o1:O},RelI I (Xof g (penU l)) ⟨w,g,(penU l).length,[]⟩ I' g ⟨[V.ptr 0 0],[o0,o1]⟩ { tmps:=[Value.pointer (some ⟨b,0,none⟩)].toArray,defers:=[] } w' →
   ∃ us res os2 I' g',Ending.returned (Value.string ⟨l.toArray⟩) = .returned (pkg us) ∧ (res = [vs ⟨l.toArray⟩] ∧ os2 = [O.dead,.dead]) ∧ RelI I (Xof g (penU l)) ⟨w,g,(penU l).length,[]⟩ I' g' ⟨res,os2⟩ { tmps:=us.toArray,defers:=[] } w':=fun {w'} {I'} {o0} {o1} h=>by
  have h2:=(h.dead 0).dead 1
  exact ⟨[.string ⟨l.toArray⟩],_,_,I',g,rfl,⟨rfl,rfl⟩,⟨h2.im,h2.lt,h2.fr,h2.kp,h2.lo,h2.st,h2.obj,h2.dis,h2.out,.cons (.d (.sc _ rfl)) (.nil _ _ _),rfl,h2.dfr.2⟩⟩
 by_cases hl:l = []
 ·subst hl
  rcases hown.2 with ⟨e0,_⟩ | ⟨gb,cap,cur,e0,_,hgc,_,_,_,_⟩
  ·refine (stN_w b t.1 _ w hb (by rw [e0];simp)).mono ?_
   rintro e w' ⟨rfl,rfl⟩
   exact fin hd
  ·by_cases hc0:cap = 0
   ·subst hc0
    refine (stZ_w b t.1 gb _ cur w hb (by rw [e0];simp) hgc).mono ?_
    rintro e w' ⟨rfl,rfl⟩
    exact fin (hd.grow (I':=I) ((Below.refl _ _).alloc (Nat.le_refl _) _) (fun _ _ h=>h) (fun _ _ h=>.inl h))
   ·refine (stR_w b t.1 gb cap hc0 _ w hb (by rw [e0];simp)).mono ?_
    rintro e w' ⟨rfl,rfl⟩
    exact fin hd
 ·rcases hown.2 with ⟨_,hz⟩ | ⟨gb,cap,cur,e0,_,hgc,hnc,hcm,hcs',htake⟩
  ·exact absurd (List.eq_nil_of_length_eq_zero hz) hl
  ·refine (stB_w b t.1 gb cap _ cur l hl w hb (by rw [e0];simp) hgc hnc hcm (by simpa using hcs') fun j x hx=>?_).mono ?_
   ·have h5:(cur.toList.take (l.length * 1))[j]? = some (Value.int .u8 x.toNat):=by
     rw [htake,List.getElem?_map,hx];rfl
    rw [List.getElem?_take] at h5
    split at h5
    ·simpa using h5
    ·cases h5
   rintro e w' ⟨rfl,rfl⟩
   obtain ⟨f1,f2,f3,f4⟩:=freeze_rest w.drew gb l.length
   have hgb:gbl (g 1) gb:=by rw [e0];rfl
   have h2:=hd.deadTo (k:=1) (o:=.row false 5 (rU l)) rfl (by simp) (w':=w.drew.freeze ⟨gb,0,none⟩ l.length) hgb f1 f2 f3 f4 (fun c hc=>freeze_other hc) fun i=>by
    have hgd:w.drew.heap[gb]? = some (.cells cur 5 (0,0)):=hgc
    have hn:l.length ≠ 0:=fun h=>hl (List.eq_nil_of_length_eq_zero h)
    have hfz:=freeze_heap hn hgd
    rw [cell_get hgd]
    unfold World.cell?
    rw [hfz]
    simp
   exact fin h2
end
end Go.Proofs.YtahpnackkmbmgaaGreatDoor.Vm
end
section
namespace Go.Proofs.YtahpnackkmbmgaaGreatDoor
open Go.RowKit
theorem length_any (c:Int) (w:World) (h:0 ≤ c) (h':c ≤ 255) :
  Calls Tryz.prog 113 #[.int .u8 c] w fun e w'=>e = .returned (.int .i64 (lenZ c)) ∧ w = w':=by
 by_cases c1:c < 128
 ·have f:(c / 128 == 0) = true:=by simp;omega
  have e:lenZ c = 1:=by unfold lenZ;rw [if_pos c1]
  rw [e]
  go_enter Tryz.func113,Tryz.ntmps113
  go_wp2_with fail
  go_ret
  exact ⟨rfl,rfl⟩
 have f:(c / 128 == 0) = false:=by simp;omega
 by_cases c2:192 ≤ c ∧ c < 224
 ·have g:(c / 32 == 6) = true:=by simp;omega
  have e:lenZ c = 2:=by unfold lenZ;rw [if_neg c1,if_pos c2]
  rw [e]
  clear c1 c2 e
  go_enter Tryz.func113,Tryz.ntmps113
  go_wp2_with fail
  go_ret
  exact ⟨rfl,rfl⟩
 have g:(c / 32 == 6) = false:=by simp;omega
 by_cases c3:224 ≤ c ∧ c < 240
 ·have i:(c / 16 == 14) = true:=by simp;omega
  have e:lenZ c = 3:=by unfold lenZ;rw [if_neg c1,if_neg c2,if_pos c3]
  rw [e]
  clear c1 c2 c3 e
  go_enter Tryz.func113,Tryz.ntmps113
  go_wp2_with fail
  go_ret
  exact ⟨rfl,rfl⟩
 have i:(c / 16 == 14) = false:=by simp;omega
 by_cases c4:240 ≤ c ∧ c < 248
 ·have j:(c / 8 == 30) = true:=by simp;omega
  have e:lenZ c = 4:=by unfold lenZ;rw [if_neg c1,if_neg c2,if_neg c3,if_pos c4]
  rw [e]
  clear c1 c2 c3 c4 e
  go_enter Tryz.func113,Tryz.ntmps113
  go_wp2_with fail
  go_ret
  exact ⟨rfl,rfl⟩
 have j:(c / 8 == 30) = false:=by simp;omega
 have e:lenZ c = 0:=by unfold lenZ;rw [if_neg c1,if_neg c2,if_neg c3,if_neg c4]
 rw [e]
 clear c1 c2 c3 c4 e
 go_enter Tryz.func113,Tryz.ntmps113
 go_wp2_with fail
 go_ret
 exact ⟨rfl,rfl⟩
theorem is_any (r:Int) (w:World):Calls Tryz.prog 114 #[.int .i32 r] w fun e w'=>e = .returned (.bool (isB r)) ∧ w = w':=by
 cases hb:isB r
 ·have H:¬ (0 ≤ r ∧ r ≤ 1114111 ∧ (r < 55296 ∨ 57343 < r)):=by rw [← isB_iff,hb];decide
  clear hb
  by_cases h0:r < 0
  ·go_enter Tryz.func114,Tryz.ntmps114
   go_wp2_with fail
   go_ret
   exact ⟨rfl,rfl⟩
  ·by_cases h1:1114111 < r
   ·clear H
    go_enter Tryz.func114,Tryz.ntmps114
    go_wp2_with fail
    go_ret
    exact ⟨rfl,rfl⟩
   ·have h2:55296 ≤ r:=by omega
    have h3:r ≤ 57343:=by omega
    clear H
    go_enter Tryz.func114,Tryz.ntmps114
    go_wp2_with fail
    go_ret
    exact ⟨retBool (by simp <;> omega),rfl⟩
 ·rw [isB_iff] at hb
  obtain ⟨h0,h1,h2⟩:=hb
  by_cases h3:r < 55296
  ·clear h2
   go_enter Tryz.func114,Tryz.ntmps114
   go_wp2_with fail
   go_ret
   exact ⟨rfl,rfl⟩
  ·have h4:57343 < r:=by omega
   clear h2
   go_enter Tryz.func114,Tryz.ntmps114
   go_wp2_with fail
   go_ret
   exact ⟨retBool (by simp <;> omega),rfl⟩
theorem size_any (r:Int) (w:World):Calls Tryz.prog 115 #[.int .i32 r] w fun e w'=>e = .returned (.int .i64 (sizeZ r)) ∧ w = w':=by
 unfold sizeZ
 by_cases a:r < 128
 ·rw [if_pos a]
  go_enter Tryz.func115,Tryz.ntmps115
  go_wp2_with fail
  go_ret
  exact ⟨rfl,rfl⟩
 rw [if_neg a]
 by_cases b:r < 2048
 ·rw [if_pos b]
  go_enter Tryz.func115,Tryz.ntmps115
  go_wp2_with fail
  go_ret
  exact ⟨rfl,rfl⟩
 rw [if_neg b]
 by_cases c:r < 65536
 ·rw [if_pos c]
  go_enter Tryz.func115,Tryz.ntmps115
  go_wp2_with fail
  go_ret
  exact ⟨rfl,rfl⟩
 rw [if_neg c]
 go_enter Tryz.func115,Tryz.ntmps115
 go_wp2_with fail
 go_ret
 exact ⟨rfl,rfl⟩
end Go.Proofs.YtahpnackkmbmgaaGreatDoor
end

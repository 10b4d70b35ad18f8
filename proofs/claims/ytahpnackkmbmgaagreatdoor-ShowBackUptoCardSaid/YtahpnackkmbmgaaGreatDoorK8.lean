/- Part 8 of the proof: VSee, VMove, VOwnBox, VBld1, VBld2, VBld3, VBld4, ShBld, VItoa, SortLaw, VCanLaw, VShL, VRd, VDraw2, VDraw3, VSh1, VShB, VFld, VSh2, VSh3, VRFields, VRFieldsO, VSLaw, VSort1, VSort2. Conditions: none. -/
import Derived.Test.YtahpnackkmbmgaaGreatDoorK1
import Derived.Test.YtahpnackkmbmgaaGreatDoorK3
import Derived.Test.YtahpnackkmbmgaaGreatDoorK4
import Derived.Lib.Builder
import Derived.Laws.Externs
import Derived.Lib.Walk
import Derived.Lib.AppendStr
import Derived.Lib.Hide
import Derived.Lib.UnsafeStr
import Derived.Shelf.Strings.Builder1
import Derived.Shelf.Small.Strs
import Derived.Shelf.Strconv.Itoa0
import Derived.Shelf.Strconv.Itoa1
import Derived.Shelf.LaysM
import Derived.Shelf.Strconv.Itoa2
import Derived.Shelf.Strconv.Itoa3
import Derived.Test.YtahpnackkmbmgaaGreatDoorProg
import Derived.Lib.ItoaNum
import Derived.Lib.ItoaLen
import Derived.IntWalk
set_option linter.all false
set_option linter.unusedVariables false
set_option linter.unusedSimpArgs false
section
namespace Go.Proofs.YtahpnackkmbmgaaGreatDoor.Vm
open Go.RowKit
section
section
variable {qa:IntKind → Int → Int} {qb:Int → Int → Int} {qc:Int → Int → Int} {qd:Int → Int → Int} {qe:Int → Int → Int} {qg:Int → Int → Int} {qh:BinOp → IntKind → Int → IntKind → Int → Option Int} {qi:Int → Int → Bool} {qj:Int → Int → Bool} {qk:Int → Int → Bool} {ql:Int → Prop → Prop} {qm:List UInt8 → List UInt8 → Bool} {qo:List UInt8 → List UInt8 → Bool} {qp:ByteArray → List UInt8} {qq:ByteArray → ByteArray → ByteArray} {qt:ByteArray → ByteArray → Prop → Prop} {qu:ByteArray → Int} {qv:ByteArray → Int → Option Int} {qw:ByteArray → Int → Int → Option ByteArray} {qx:List (List D) → Option ByteArray} {qy:ByteArray → List (List D)} {qz:Int → Nat → Option Nat} {va:List (List D) → Int} {vc:List (List D) → Int → Option (List D)} {vd:List (List D) → Int → Int → Option (List (List D))} {ve:List (List D) → List (List D) → List (List D)} {vf:List (List D) → Int → List D → List (List D)} {vg:List (List D) → List (List D) → Prop → Prop} {vh:List (R × R) → R → Option R} {vj:List (R × R) → R → R → List (R × R)} {vk:List D → List D → Bool} {vl:Int → List D → (List (List D) → Prop) → Prop} {vm:Nat → List R → (List R → Prop) → Prop} {vn:Nat → List V → List O → (V → Prop) → Prop} {vo:Nat → List V → S → (V → S → Prop) → Prop} {vp:Nat → List V → List Nat → S → (V → S → Prop) → Prop} {vq:Nat → (Bool → Prop) → Prop} {vr:Nat → (Bool → Prop) → Prop} {vt:Nat → (List V → List O → Prop) → List V → S → Prop} {vu:(S → Prop) → S → Prop} {vv:Op → Option Nat → S → (S → Prop) → Prop} {vw:Array Oper → S → (S → Prop) → Prop} {vx:Code → (S → (X → S → Prop) → Prop) → S → (X → S → Prop) → Prop}
end
end
section
section
variable {I0:Nat → Nat → Prop} {X:Nat → Prop} {w0:W0} {I:Nat → Nat → Prop} {g:Nat → Value} {s:S} {a:Act} {w:World}
theorem RelI.move (h:RelI I0 X w0 I g s a w) {j k:Nat} {z z':Bool} {e e':Nat} {R R':List (List D)} (hj:s.o[j]? = some (.row z e R)) (hk:s.o[k]? = some (.row z' e' R')) (hjk:j ≠ k) :
  RelI I0 X w0 I (upd g j (g k)) ⟨killT j s.t,((killO j s.o).set k .dead).set j (.row z' e' R')⟩ a w:=by
 have hlt:=(List.getElem?_eq_some_iff.1 hj).1
 have hltk:=(List.getElem?_eq_some_iff.1 hk).1
 obtain ⟨usj,hown,_⟩:=h.obj j _ hj
 have hnp:isRef (g j) = true → upd g j (g k) j = g j:=fun hr=>by rcases hown.2 with ⟨e1,_⟩ | ⟨_,_,_,e1,_⟩ <;> rw [e1] at hr <;> cases hr
 have hg':∀ i,i ≠ j → upd g j (g k) i = g i:=fun i hi=>upd_ne hi
 have hlk:live s k:=⟨_,hk,by simp⟩
 have hget:∀ i o,(((killO j s.o).set k .dead).set j (.row z' e' R'))[i]? = some o → o ≠ .dead → (i = j ∧ o = .row z' e' R') ∨ (i ≠ j ∧ i ≠ k ∧ (killO j s.o)[i]? = some o):=fun i o ho hd=>by
  by_cases hij:j = i
  ·subst hij
   rw [List.getElem?_set_self (by rw [List.length_set,killO_len];exact hlt)] at ho
   injection ho with ho
   exact .inl ⟨rfl,ho.symm⟩
  ·rw [List.getElem?_set_ne hij] at ho
   by_cases hik:k = i
   ·subst hik
    rw [List.getElem?_set_self (by rw [killO_len];exact hltk)] at ho
    injection ho with ho
    exact absurd ho.symm hd
   ·rw [List.getElem?_set_ne hik] at ho
    exact .inr ⟨Ne.symm hij,Ne.symm hik,ho⟩
 refine ⟨h.im,h.lt,h.fr,h.kp,by simp only [List.length_set,killO_len];exact h.lo,fun i hi hr=>?_,fun i o ho=>?_,fun i i' b hi hi' hb hb'=>?_,fun i hi=>?_,killT_at hg' hnp h.tmp,h.dfr⟩
 ·have e:=h.st i hi hr
  refine (hg' i fun ej=>?_).trans e
  subst ej
  rw [← e] at hr
  rcases hown.2 with ⟨e1,_⟩ | ⟨_,_,_,e1,_⟩ <;> rw [e1] at hr <;> cases hr
 ·by_cases hd:o = .dead
  ·subst hd;exact True.intro
  rcases hget i o ho hd with ⟨rfl,rfl⟩ | ⟨hij,hik,ho⟩
  ·obtain ⟨us,h1,h2,h3,h4⟩:=h.obj k _ hk
   exact ⟨us,by rw [upd_same];exact h1,h2,h3,by rw [upd_same];exact h4⟩
  ·obtain ⟨o',ho',hdd,hsh⟩:=killO_get j s.o i o ho
   have hob:=h.obj i o' ho'
   rcases hsh with ⟨cs,rfl,rfl⟩ | ⟨ks,rfl,rfl⟩ | ⟨rfl,hnb,hnf⟩
   ·obtain ⟨b,us,t,h1,h2,h3,h4⟩:=hob
    exact ⟨b,us,t,by rw [upd_ne hij];exact h1,h2,killL_at hg' hnp h3,h4⟩
   ·obtain ⟨us,h1,h2,h3⟩:=hob
    refine ⟨us,by rw [upd_ne hij];exact h1,h2,fun i2 u hu=>?_⟩
    by_cases e:i2 = j
    ·exact .inr (.inr (by rw [e];exact List.mem_cons_self ..))
    ·rcases h3 i2 u hu with h4 | h4 | h4
     ·exact .inl h4
     ·exact .inr (.inl (by rw [upd_ne e];exact h4))
     ·exact .inr (.inr (List.mem_cons_of_mem _ h4))
   ·cases o with
    | dead=>exact True.intro
    | box cs=>exact absurd rfl (hnb cs)
    | kl ks=>exact absurd rfl (hnf ks)
    | mp kt es =>
     obtain ⟨b,l,c,h1,h2⟩:=hob
     exact ⟨b,l,c,by rw [upd_ne hij];exact h1,h2⟩
    | ob T vs =>
     obtain ⟨b,h1,h2⟩:=hob
     exact ⟨b,by rw [upd_ne hij];exact h1,h2⟩
    | it P =>
     obtain ⟨A,n,cap,F,h1,h2⟩:=hob
     exact ⟨A,n,cap,F,by rw [upd_ne hij];exact h1,h2⟩
    | row z2 e2 rows =>
     obtain ⟨us,h1,h2,h3,h4⟩:=hob
     exact ⟨us,by rw [upd_ne hij];exact h1,h2,h3,by rw [upd_ne hij];exact h4⟩
 ·have back:∀ i,live ⟨killT j s.t,((killO j s.o).set k .dead).set j (.row z' e' R')⟩ i → ∃ i2,live s i2 ∧ upd g j (g k) i = g i2 ∧ ((i = j ∧ i2 = k) ∨ (i ≠ j ∧ i2 = i ∧ i ≠ k)):=fun i hl=>by
   obtain ⟨o,ho,hd⟩:=hl
   rcases hget i o ho hd with ⟨rfl,rfl⟩ | ⟨hij,hik,ho⟩
   ·exact ⟨k,hlk,upd_same ..,.inl ⟨rfl,rfl⟩⟩
   ·obtain ⟨o',ho',hdd,_⟩:=killO_get j s.o i o ho
    exact ⟨i,⟨o',ho',hdd hd⟩,upd_ne hij,.inr ⟨hij,rfl,hik⟩⟩
  obtain ⟨i2,l2,e2,c2⟩:=back i hi
  obtain ⟨i3,l3,e3,c3⟩:=back i' hi'
  rw [e2] at hb
  rw [e3] at hb'
  have:=h.dis i2 i3 b l2 l3 hb hb'
  omega
 ·simp only [List.length_set,killO_len] at hi
  rw [upd_ne (by omega)]
  exact h.out i hi
end
theorem Ghost.move (s:S) (i j k:Nat) (hjk:eqN j k = false) {z z':Bool} {e e':Nat} {R R':List (List D)} (hi:getN s.t i = .own k) (hj:getO s.o j = .row z e R) (hk:getO s.o k = .row z' e' R') :
  Ghost s ⟨setN (killT j s.t) i (.own j),setO (setO (killO j s.o) k .dead) j (.row z' e' R')⟩:=by
 rintro I0 X w0 a w ⟨I,g,h⟩
 have hne:j ≠ k:=eqN_no.1 hjk
 have h2:=h.move (getO_some hj (by simp)) (getO_some hk (by simp)) hne
 refine ⟨I,upd g j (g k),?_⟩
 rw [setO_is,setO_is]
 refine RelI.reread (s:=⟨killT j s.t,((killO j s.o).set k .dead).set j (.row z' e' R')⟩) h2 fun v hv=>?_
 have h4:=h.tmp.2 i v _ hv (getN_some hi (by simp))
 cases h4 with
 | own _ A n cap hg=>exact .own _ _ _ _ (by rw [upd_same];exact hg)
theorem GhostN.of {n:Nat} {s s1 s2:S} (h:Ghost s s1) (hw:weak s1 s2) (hl:n ≤ lenO s2.o):GhostN n s s2:=fun I0 X w0 a w hn hr=>(h _ _ _ _ _ hr).weak (Nat.le_trans hn (by rw [← lenO_is];exact hl)) (.inr hw)
def headM (c:Code) (s:S) (l:List (Nat × V)) (m:List (Nat × O)) (x:List O):S:=⟨setsT l (forget (wr c []) s.t),appO (setsO m s.o) x⟩
section
variable {qa:IntKind → Int → Int} {qb:Int → Int → Int} {qc:Int → Int → Int} {qd:Int → Int → Int} {qe:Int → Int → Int} {qg:Int → Int → Int} {qh:BinOp → IntKind → Int → IntKind → Int → Option Int} {qi:Int → Int → Bool} {qj:Int → Int → Bool} {qk:Int → Int → Bool} {ql:Int → Prop → Prop} {qm:List UInt8 → List UInt8 → Bool} {qo:List UInt8 → List UInt8 → Bool} {qp:ByteArray → List UInt8} {qq:ByteArray → ByteArray → ByteArray} {qt:ByteArray → ByteArray → Prop → Prop} {qu:ByteArray → Int} {qv:ByteArray → Int → Option Int} {qw:ByteArray → Int → Int → Option ByteArray} {qx:List (List D) → Option ByteArray} {qy:ByteArray → List (List D)} {qz:Int → Nat → Option Nat} {va:List (List D) → Int} {vc:List (List D) → Int → Option (List D)} {vd:List (List D) → Int → Int → Option (List (List D))} {ve:List (List D) → List (List D) → List (List D)} {vf:List (List D) → Int → List D → List (List D)} {vg:List (List D) → List (List D) → Prop → Prop} {vh:List (R × R) → R → Option R} {vj:List (R × R) → R → R → List (R × R)} {vk:List D → List D → Bool} {vl:Int → List D → (List (List D) → Prop) → Prop} {vm:Nat → List R → (List R → Prop) → Prop} {vn:Nat → List V → List O → (V → Prop) → Prop} {vo:Nat → List V → S → (V → S → Prop) → Prop} {vp:Nat → List V → List Nat → S → (V → S → Prop) → Prop} {vq:Nat → (Bool → Prop) → Prop} {vr:Nat → (Bool → Prop) → Prop} {vt:Nat → (List V → List O → Prop) → List V → S → Prop} {vu:(S → Prop) → S → Prop} {vv:Op → Option Nat → S → (S → Prop) → Prop} {vw:Array Oper → S → (S → Prop) → Prop} {vx:Code → (S → (X → S → Prop) → Prop) → S → (X → S → Prop) → Prop}
theorem loopn_at (hA:Ar.mk qa qb qc qd qe qg qh qi qj qk ql qm qo qp qq qt qu qv qw qx qy qz va vc vd ve vf vg vh vj vk vl vm vn vo vp vq vr vt vu vv vw vx = real) {c:Code} {body:S → (X → S → Prop) → Prop} {s:S} {K:X → S → Prop} {γ:Type} (slots:γ → List (Nat × V)) (objs:γ → List (Nat × O)) (xs:γ → List O) (inv:γ → Prop) (μ:γ → Nat) (x0:γ) (h0:inv x0) (hw:GhostN (lenO s.o) s (headM c s (slots x0) (objs x0) (xs x0)))
  (hr:∀ x,inv x → body (headM c s (slots x) (objs x) (xs x)) (fun e s'=>roundX (fun s2=>∃ y,inv y ∧ μ y < μ x ∧ GhostN (lenO s.o) s2 (headM c s (slots y) (objs y) (xs y))) K e s')):vx c body s K:=by
 have e:vx = real.loop:=congrArg Ar.loop hA
 rw [e]
 exact .inr (.inr ⟨γ,fun x=>headM c s (slots x) (objs x) (xs x),inv,μ,fun x _=>by
  show lenO s.o ≤ lenO (appO (setsO (objs x) s.o) (xs x))
  rw [lenO_is,lenO_is,appO_is,List.length_append,setsO_len]
  exact Nat.le_add_right _ _,⟨x0,hw,h0⟩,hr⟩)
end
end
section
section
variable {I0:Nat → Nat → Prop} {X:Nat → Prop} {w0:W0} {I:Nat → Nat → Prop} {g:Nat → Value} {s:S} {a:Act} {w:World}
theorem AtVs.reset {us:List Value} {cs:List V} {i:Nat} {x:V} (h:AtVs I w g us cs) (hx:∀ v,us[i]? = some v → AtV I w g v x):AtVs I w g us (cs.set i x):=by
 refine ⟨by rw [List.length_set];exact h.1,fun j v y hv hy=>?_⟩
 by_cases hji:i = j
 ·subst hji
  have hlt:i < cs.length:=by have:=(List.getElem?_eq_some_iff.1 hy).1;rw [List.length_set] at this;exact this
  rw [List.getElem?_set_self hlt] at hy
  cases hy
  exact hx v hv
 ·rw [List.getElem?_set_ne hji] at hy
  exact h.2 j v y hv hy
theorem RelI.rebox (h:RelI I0 X w0 I g s a w) {k:Nat} {cs ds:List V} (hk:s.o[k]? = some (.box cs)) (hd:∀ us,AtVs I w g us cs → AtVs I w g us ds):RelI I0 X w0 I g ⟨s.t,s.o.set k (.box ds)⟩ a w:=by
 have hlt:=(List.getElem?_eq_some_iff.1 hk).1
 have back:∀ i,live ⟨s.t,s.o.set k (.box ds)⟩ i → live s i:=fun i hl=>by
  obtain ⟨o,ho,hdd⟩:=hl
  by_cases hik:k = i
  ·subst hik;exact ⟨_,hk,by simp⟩
  ·simp only [List.getElem?_set_ne hik] at ho
   exact ⟨o,ho,hdd⟩
 refine ⟨h.im,h.lt,h.fr,h.kp,by simp only [List.length_set];exact h.lo,h.st,fun i o ho=>?_,fun i j b hi hj=>h.dis i j b (back i hi) (back j hj),fun i hi=>h.out i (by simpa using hi),h.tmp,h.dfr⟩
 by_cases hik:k = i
 ·subst hik
  simp only [List.getElem?_set_self hlt] at ho
  cases ho
  obtain ⟨b,us,t,h1,h2,h3,h4⟩:=h.obj k _ hk
  exact ⟨b,us,t,h1,h2,hd us h3,h4⟩
 ·simp only [List.getElem?_set_ne hik] at ho
  exact h.obj i o ho
end
theorem Ghost.ownBox (s:S) (k i e:Nat) (z:Bool) {cs:List V} (hk:getO s.o k = .box cs) (hi:getN cs i = .em):Ghost s ⟨s.t,setO (snocO s.o (.row z e [])) k (.box (setN cs i (.own (lenO s.o))))⟩:=by
 rintro I0 X w0 a w ⟨I,g,h⟩
 have hk2:=getO_some hk (by simp)
 have hlt:=(List.getElem?_eq_some_iff.1 hk2).1
 have h2:=h.newObj (.row z e []) (.slice none 0 0) ⟨[],by rw [upd_same];exact World.ownsRow_nil w 0 e _,by simp,AtDs.nil I w,fun b hb=>by rw [upd_same] at hb;cases hb⟩ (fun j b _ _ hb=>by cases hb)
 have h3:RelI I0 X w0 I (upd g s.o.length (.slice none 0 0)) ⟨s.t,snocO s.o (.row z e [])⟩ a w:=h2
 refine ⟨I,upd g s.o.length (.slice none 0 0),?_⟩
 rw [setO_is,setN_is]
 refine h3.rebox (cs:=cs) (by show (snocO s.o _)[k]? = _;rw [snocO_is,List.getElem?_append_left hlt];exact hk2) fun us hus=>hus.reset fun v hv=>?_
 have hs:=getN_some hi (by simp)
 have h4:=hus.2 i v _ hv hs
 rw [h4.unem]
 exact .own _ _ _ _ (by rw [lenO_is,upd_same];rfl)
section
variable {qa:IntKind → Int → Int} {qb:Int → Int → Int} {qc:Int → Int → Int} {qd:Int → Int → Int} {qe:Int → Int → Int} {qg:Int → Int → Int} {qh:BinOp → IntKind → Int → IntKind → Int → Option Int} {qi:Int → Int → Bool} {qj:Int → Int → Bool} {qk:Int → Int → Bool} {ql:Int → Prop → Prop} {qm:List UInt8 → List UInt8 → Bool} {qo:List UInt8 → List UInt8 → Bool} {qp:ByteArray → List UInt8} {qq:ByteArray → ByteArray → ByteArray} {qt:ByteArray → ByteArray → Prop → Prop} {qu:ByteArray → Int} {qv:ByteArray → Int → Option Int} {qw:ByteArray → Int → Int → Option ByteArray} {qx:List (List D) → Option ByteArray} {qy:ByteArray → List (List D)} {qz:Int → Nat → Option Nat} {va:List (List D) → Int} {vc:List (List D) → Int → Option (List D)} {vd:List (List D) → Int → Int → Option (List (List D))} {ve:List (List D) → List (List D) → List (List D)} {vf:List (List D) → Int → List D → List (List D)} {vg:List (List D) → List (List D) → Prop → Prop} {vh:List (R × R) → R → Option R} {vj:List (R × R) → R → R → List (R × R)} {vk:List D → List D → Bool} {vl:Int → List D → (List (List D) → Prop) → Prop} {vm:Nat → List R → (List R → Prop) → Prop} {vn:Nat → List V → List O → (V → Prop) → Prop} {vo:Nat → List V → S → (V → S → Prop) → Prop} {vp:Nat → List V → List Nat → S → (V → S → Prop) → Prop} {vq:Nat → (Bool → Prop) → Prop} {vr:Nat → (Bool → Prop) → Prop} {vt:Nat → (List V → List O → Prop) → List V → S → Prop} {vu:(S → Prop) → S → Prop} {vv:Op → Option Nat → S → (S → Prop) → Prop} {vw:Array Oper → S → (S → Prop) → Prop} {vx:Code → (S → (X → S → Prop) → Prop) → S → (X → S → Prop) → Prop}
theorem ownbox_at (hA:Ar.mk qa qb qc qd qe qg qh qi qj qk ql qm qo qp qq qt qu qv qw qx qy qz va vc vd ve vf vg vh vj vk vl vm vn vo vp vq vr vt vu vv vw vx = real) {N:S → Prop} {s:S} (k i e:Nat) (z:Bool) {cs:List V} (hk:getO s.o k = .box cs) (hi:getN cs i = .em) (h:N ⟨s.t,setO (snocO s.o (.row z e [])) k (.box (setN cs i (.own (lenO s.o))))⟩):vu N s:=ghost_at hA _ (Ghost.ownBox s k i e z hk hi) h
end
end
end Go.Proofs.YtahpnackkmbmgaaGreatDoor.Vm
end
section
namespace Go.Proofs.YtahpnackkmbmgaaGreatDoor.Vm
open Go.RowKit
set_option maxRecDepth 100000
set_option maxHeartbeats 4000000
section
theorem cc_used (b:Nat) (w:World) (h0:w.cell? ⟨b,0,none⟩ = some (.pointer (some ⟨b,0,none⟩))) :
  Calls Tryz.prog 71 #[.pointer (some ⟨b,0,none⟩)] w fun e w'=>e = .returned (.tuple #[]) ∧ w' = w:=by
 obtain ⟨j,hj,_⟩:=Option.map_eq_some_iff.1 (show (Tryz.prog.info? 56).map (·.size) = some 2 by kernel_rfl)
 go_enter Tryz.func71,Tryz.ntmps71
 go_wp2
 rw [Lib.run_neq_ptr_same w _ Tryz.underlying54 hj]
 go_wp2
 go_end0
 exact ⟨rfl,rfl⟩
theorem cc_fresh (T b:Nat) (hlies:liesAt Tryz.prog Tryz.prog.depth T (2 / Tryz.prog.cellsOf T) 0 56 1 = true) (w:World) (h0:w.cell? ⟨b,0,none⟩ = some (.pointer none)) (hsh:w.shape? b = some (T,2)) (hfz:w.frozen? ⟨b,0,none⟩ = false) :
  Calls Tryz.prog 71 #[.pointer (some ⟨b,0,none⟩)] w fun e w'=>e = .returned (.tuple #[]) ∧ w' = w.setCell ⟨b,0,none⟩ (.pointer (some ⟨b,0,none⟩)):=by
 obtain ⟨j,hj,hjs⟩:=Option.map_eq_some_iff.1 (show (Tryz.prog.info? 56).map (·.size) = some 2 by kernel_rfl)
 go_enter Tryz.func71,Tryz.ntmps71
 go_wp2
 rw [Lib.run_to_unsafe w ⟨b,0,none⟩ Tryz.underlying54 Tryz.underlying127 hj (by rw [hjs];decide) hsh (Nat.zero_lt_succ 1)]
 simp only [Result.andThen]
 rw [Oper.upon_value]
 go_wp2
 rw [run_callFunc_extern Tryz.func92 (by kernel_rfl) (by kernel_rfl) (by kernel_rfl) (e:=Extern.AbiNoEscape.same) (by kernel_rfl)]
 rw [Lib.run_noEscape]
 simp only [Result.andThen]
 rw [Oper.upon_value]
 go_wp2
 rw [Lib.run_from_unsafe w ⟨b,0,none⟩ Tryz.underlying127 Tryz.underlying54 hj hsh hlies]
 simp only [Result.andThen]
 rw [Oper.upon_value]
 go_wp2
 go_end0
 exact ⟨rfl,rfl⟩
section
variable {I0:Nat → Nat → Prop} {X:Nat → Prop} {w0:W0} {I:Nat → Nat → Prop} {g:Nat → Value} {s:S} {a:Act} {w:World}
theorem RelI.unob (h:RelI I0 X w0 I g s a w) {k T:Nat} {us:List Value} (hk:s.o[k]? = some (.ob T us)) (h1:ones (constL us) = true):RelI I0 X w0 I g ⟨s.t,s.o.set k (.box (constL us))⟩ a w:=by
 have hlt:=(List.getElem?_eq_some_iff.1 hk).1
 have back:∀ i,live ⟨s.t,s.o.set k (.box (constL us))⟩ i → live s i:=fun i hl=>by
  obtain ⟨o,ho,hdd⟩:=hl
  by_cases hik:k = i
  ·subst hik;exact ⟨_,hk,by simp⟩
  ·simp only [List.getElem?_set_ne hik] at ho
   exact ⟨o,ho,hdd⟩
 refine ⟨h.im,h.lt,h.fr,h.kp,by simp only [List.length_set];exact h.lo,h.st,fun i o ho=>?_,fun i j b hi hj=>h.dis i j b (back i hi) (back j hj),fun i hi=>h.out i (by simpa using hi),h.tmp,h.dfr⟩
 by_cases hik:k = i
 ·subst hik
  simp only [List.getElem?_set_self hlt] at ho
  cases ho
  obtain ⟨b,h2,h3,h4⟩:=h.obj k _ hk
  exact ⟨b,us,(T,[]),h2,by rw [List.append_nil];exact h3,constL_at us,constL_ones I w g h1,h4⟩
 ·simp only [List.getElem?_set_ne hik] at ho
  exact h.obj i o ho
end
def penO (T:Nat):O:=.ob T [.pointer none,.slice none 0 0]
theorem copyCheck_ok:fnOk Tryz.prog 71 = true:=by kernel_rfl
theorem shape_of {w:World} {b T:Nat} {us:List Value} (h:w.heap[b]? = some (.cells us.toArray T (0,0))):w.shape? b = some (T,us.length):=by
 unfold World.shape?
 rw [h]
 simp
theorem ccF_s (T:Nat) (hlies:liesAt Tryz.prog Tryz.prog.depth T (2 / Tryz.prog.cellsOf T) 0 56 1 = true):SpecO 71 [.ptr 0 0] [penO T] (fun res os=>res = [] ∧ os = [.box [.ptr 0 0,.em]]):=by
 refine ⟨copyCheck_ok,fun I w g args hrel=>?_⟩
 obtain ⟨b,hg,hb,hI,hM⟩:=hrel.obj 0 _ rfl
 obtain ⟨u,us,rfl,hu,hus⟩:=AtVs.uncons (show AtVs I w g args [.ptr 0 0] from hrel.tmp)
 obtain rfl:=hus.unnil
 obtain ⟨b',hg',rfl⟩:=hu.unptr
 rw [hg] at hg'
 injection hg' with hg'
 injection hg' with hg'
 injection hg' with hg' _ _
 subst hg'
 have c0:w.cell? ⟨b,0,none⟩ = some (.pointer none):=by rw [Lib.cell_of_heap hb];rfl
 refine (cc_fresh T b hlies w c0 (shape_of hb) (Lib.frozen_of_heap hb 0)).mono ?_
 rintro e w' ⟨rfl,rfl⟩
 have h2:=hrel.unob (k:=0) (T:=T) (us:=[.pointer none,.slice none 0 0]) rfl rfl
 have hp:AtVs I w g [.pointer (some ⟨b,0,none⟩)] [V.ptr 0 0]:=.cons (.ptr 0 0 b hg) (.nil I w g)
 obtain ⟨b2,us2,t2,hg2,hb2,hlen,h3⟩:=h2.store (k:=0) (n:=0) (cs:=[.d (.sc (.pointer none)),.em]) (ds:=[.ptr 0 0]) (r:=[.ptr 0 0,.em]) (vs:=[.pointer (some ⟨b,0,none⟩)]) rfl hp (by simp [Value.oneCell']) rfl
 rw [hg] at hg2
 injection hg2 with hg2
 injection hg2 with hg2
 injection hg2 with hg2 _ _
 subst hg2
 rw [hb] at hb2
 injection hb2 with hb2
 injection hb2 with e1 e2 _
 have e3:us2 = [.pointer none,.slice none 0 0]:=by
  have:=congrArg Array.toList e1
  simpa using this.symm
 subst e3
 rw [setCell_eq_setRow w b 0 _ T (0,0) _ hb]
 refine ⟨[],[],_,I,g,rfl,⟨rfl,rfl⟩,⟨h3.im,h3.lt,h3.fr,h3.kp,h3.lo,h3.st,h3.obj,h3.dis,h3.out,.nil _ _ _,rfl,h3.dfr.2⟩⟩
theorem ccU_s (x:V) (os0:List O):SpecO 71 [.ptr 0 0] (.box [.ptr 0 0,x] :: os0) (fun res os=>res = [] ∧ os = .box [.ptr 0 0,x] :: os0):=by
 refine ⟨copyCheck_ok,fun I w g args hrel=>?_⟩
 obtain ⟨b,us,t,hg,hb,hcs,h1,hI,hM⟩:=hrel.obj 0 _ rfl
 obtain ⟨u,us',rfl,hu,hus⟩:=AtVs.uncons (show AtVs I w g args [.ptr 0 0] from hrel.tmp)
 obtain rfl:=hus.unnil
 obtain ⟨b',hg',rfl⟩:=hu.unptr
 rw [hg] at hg'
 injection hg' with hg'
 injection hg' with hg'
 injection hg' with hg' _ _
 subst hg'
 obtain ⟨u0,us0,rfl,hu0,_⟩:=hcs.uncons
 obtain ⟨b2,hg2,rfl⟩:=hu0.unptr
 rw [hg] at hg2
 injection hg2 with hg2
 injection hg2 with hg2
 injection hg2 with hg2 _ _
 subst hg2
 have c0:w.cell? ⟨b,0,none⟩ = some (.pointer (some ⟨b,0,none⟩)):=by rw [Lib.cell_of_heap hb];rfl
 refine (cc_used b w c0).mono ?_
 rintro e w' ⟨rfl,rfl⟩
 exact ⟨[],[],_,I,g,rfl,⟨rfl,rfl⟩,⟨hrel.im,hrel.lt,hrel.fr,hrel.kp,hrel.lo,hrel.st,hrel.obj,hrel.dis,hrel.out,.nil _ _ _,rfl,hrel.dfr.2⟩⟩
end
def Split (w:World) (v v':Value) (w':World):Prop:=(∃ g,v.ownBlock = some g ∧ v'.ownBlock = some g ∧ w.grownBy w' (some g)) ∨ (Below w.heap.size w w' ∧ (v'.ownBlock = none ∨ v'.ownBlock = some w.heap.size))
theorem run_append_str {P:Program} (w:World) (t u ty e:TypeId) (i:TypeInfo) (ht:P.underlying t = some (.slice e)) (hu:P.underlying u = some .string) (hi:P.info? e = some i) (hz:i.zero = some (.int .u8 0)) (hsize:i.size = 1) (hby:i.bytes = 1)
  (v:Value) (n:Nat) (xs:List Value) (hown:w.ownsRow 0 e 1 v n xs) (s:ByteArray) (h63:n + s.size ≤ maxLen) (hbytes:n + s.size ≤ 140737488355328) :
  ∃ v' w',(Builtin.append_ #[t,u] ty #[v,.string s]).run P w = .ok v' w' ∧ w'.ownsRow 0 e 1 v' (n + s.size) (xs ++ Lib.strCells s) ∧ Split w v v' w':=by
 obtain ⟨v',w',hr,h2,h3,h4⟩:=Lib.run_append_own_string (P:=P) w 0 t u ty e i ht hu hi hz hsize hby v n xs hown s h63 hbytes (Nat.zero_le _)
 refine ⟨v',w',hr,h2,?_⟩
 have hxl:xs.length = n:=by simpa using hown.1
 rcases hown.2 with ⟨rfl,rfl⟩ | ⟨g,cap,cur,rfl,hbg,hg,hnc,hcm,hcs,htake⟩
 ·refine .inr ⟨⟨h3.os,h3.tape,h3.output,h3.size,fun k hk=>h3.block k hk (by simp [Value.ownBlock])⟩,?_⟩
  by_cases hm:s.size = 0
  ·rw [h4.2 ⟨rfl,hm⟩];exact .inl rfl
  ·have hrn:=run_append_nil_string (P:=P) w t u ty e i (.int .u8 0) ht hu hi hz s (by omega) (by unfold maxLen at h63;omega) (by rw [hby];omega)
   rw [hr] at hrn
   injection hrn with e1 e2
   rw [e1]
   exact .inr rfl
 ·by_cases hroom:n + s.size ≤ cap
  ·have hrr:=Lib.run_append_room_string (P:=P) w t u ty e i ht hu hi hsize g n cap cur hg s hroom (by omega)
   rw [hr] at hrr
   injection hrr with e1 e2
   rw [e1]
   exact .inl ⟨g,rfl,rfl,h3⟩
  ·have holds:∀ j u,xs[j]? = some u → w.cell? ((⟨g,0,none⟩:Addr).add j) = some u:=hown.cells (g:=g) rfl
   have hrg:=Lib.run_append_grow_string (P:=P) w t u ty e i (.int .u8 0) ht hu hi hz ⟨g,0,none⟩ n cap xs (by rw [hsize];simpa using hxl) holds s (by omega) (by unfold maxLen at h63;omega) (by rw [hby];exact growslice_fits (by omega) (by omega))
   rw [hr] at hrg
   injection hrg with e1 e2
   rw [e1,e2]
   exact .inr ⟨((Below.refl _ _).drew).alloc (Nat.le_refl _) _,.inr rfl⟩
theorem wp_append_str {P:Program} {w:World} {ops:Array Oper} {rest:List Oper} {o:Oper} {a:Act} {Q:Exit → Act → World → Prop} (hgd:o.guard = none) (sl x:Operand) (t u:TypeId)
  (ho:o.op = .call { callee:=.builtin .append,args:=#[sl,x],argTypes:=#[t,u] })
  (e:TypeId) (i:TypeInfo) (ht:P.underlying t = some (.slice e)) (hu:P.underlying u = some .string) (hi:P.info? e = some i) (hz:i.zero = some (.int .u8 0)) (hsize:i.size = 1) (hby:i.bytes = 1)
  (v:Value) (n:Nat) (xs:List Value) (hs:a.eval sl = v) (hown:w.ownsRow 0 e 1 v n xs) (s:ByteArray) (hx:a.eval x = .string s) (h63:n + s.size ≤ maxLen) (hbytes:n + s.size ≤ 140737488355328)
  (h:∀ v' w',w'.ownsRow 0 e 1 v' (n + s.size) (xs ++ Lib.strCells s) → Split w v v' w' → wpList P ops Q rest (a.put o.dst v') w'):wpList P ops Q (o :: rest) a w:=by
 refine wpList_plain hgd fun K hK=>?_
 obtain ⟨v',w',hr,h2,h3⟩:=run_append_str (P:=P) w t u o.type e i ht hu hi hz hsize hby v n xs hown s h63 hbytes
 unfold Oper.wp execOp
 simp only [ho,resolve,invoke,builtin,Sem.run_bind,Sem.run_pure,Result.andThen_ok,List.map_toArray,List.map_cons,List.map_nil,hs,hx,hr]
 exact hK _ _ (h v' w' h2 h3)
theorem Split.other {w w':World} {v v':Value} (h:Split w v v' w') {b:Nat} (hb:b < w.heap.size) (hne:v.ownBlock ≠ some b):w'.heap[b]? = w.heap[b]?:=by
 rcases h with ⟨g,h1,h2,h3⟩ | ⟨h1,_⟩
 ·exact h3.block b hb (by rw [← h1];exact fun e=>hne e.symm)
 ·exact h1.block b hb
theorem cell_get {w:World} {b T:Nat} {cur:Array Value} (h:w.heap[b]? = some (.cells cur T (0,0))) (i:Nat):w.cell? ⟨b,i,none⟩ = cur[i]?:=by
 unfold World.cell?
 rw [h]
 simp
theorem wsU_w (b T n:Nat) (cur:Array Value) (v:Value) (xs:List Value) (s:ByteArray) (w:World) (hb:w.heap[b]? = some (.cells cur T (0,0))) (k0:cur[0]? = some (.pointer (some ⟨b,0,none⟩))) (k1:cur[1]? = some v) (hown:w.ownsRow 0 5 1 v n xs) (hne:v.ownBlock ≠ some b) (h63:n + s.size ≤ 137438953472) :
  Calls Tryz.prog 45 #[.pointer (some ⟨b,0,none⟩),.string s] w fun e w'=>∃ v' w1,e = .returned (.tuple #[.int .i64 s.size,.nilIface]) ∧ w1.ownsRow 0 5 1 v' (n + s.size) (xs ++ Lib.strCells s) ∧ Split w v v' w1 ∧ w1.heap[b]? = some (.cells cur T (0,0)) ∧ w' = w1.setCell ⟨b,1,none⟩ v':=by
 obtain ⟨i0,hi,hz0,hz1,hz2⟩:=info_parts (show (Tryz.prog.info? 5).map (fun i=>(i.zero,i.size,i.bytes)) = some (some (.int .u8 0),1,1) by kernel_rfl)
 have c0:w.cell? ⟨b,0,none⟩ = some (.pointer (some ⟨b,0,none⟩)):=by rw [cell_get hb];exact k0
 have c1:w.cell? ⟨b,1,none⟩ = some v:=by rw [cell_get hb];exact k1
 have hlt:b < w.heap.size:=by
  rcases Nat.lt_or_ge b w.heap.size with h' | h'
  ·exact h'
  ·simp [Array.getElem?_eq_none h'] at hb
 have HB:=Lib.hid hb
 have HOWN:=Lib.hid hown
 have K0:=Lib.hid k0
 have K1:=Lib.hid k1
 clear hb hown k0 k1
 go_enter Tryz.func45,Tryz.ntmps45
 go_wp2_with fail
 refine (cc_used b _ c0).mono ?_
 rintro e w1 ⟨rfl,e1⟩
 subst e1
 go_wp2_with (at_builtin;refine wp_append_str rfl _ _ 32 9 rfl 5 i0 Tryz.underlying32 Tryz.underlying9 hi hz0 hz1 hz2 _ n xs rfl HOWN.out s rfl ?h1 ?h2 ?_)
 case h1=>unfold maxLen;omega
 case h2=>omega
 intro v' w2 hown' hsp
 have hb2:=(hsp.other hlt hne).trans HB.out
 have d0:w2.cell? ⟨b,0,none⟩ = some (.pointer (some ⟨b,0,none⟩)):=by rw [cell_get hb2];exact K0.out
 have d1:w2.cell? ⟨b,1,none⟩ = some v:=by rw [cell_get hb2];exact K1.out
 have f1:w2.frozen? ⟨b,1,none⟩ = false:=Lib.frozen_of_heap hb2 1
 obtain ⟨A,cap,rfl⟩:=own_slice hown'
 have HB2:=Lib.hid hb2
 have HO2:=Lib.hid hown'
 have HSP:=Lib.hid hsp
 clear hb2 hown' hsp c0 c1
 go_wp2
 go_ret2
 exact ⟨_,w2,rfl,HO2.out,HSP.out,HB2.out,rfl⟩
theorem wsF_w (b T:Nat) (hlies:liesAt Tryz.prog Tryz.prog.depth T (2 / Tryz.prog.cellsOf T) 0 56 1 = true) (s:ByteArray) (w:World) (hb:w.heap[b]? = some (.cells #[.pointer none,.slice none 0 0] T (0,0))) (h63:s.size ≤ 137438953472) :
  Calls Tryz.prog 45 #[.pointer (some ⟨b,0,none⟩),.string s] w fun e w'=>∃ v' w1,e = .returned (.tuple #[.int .i64 s.size,.nilIface]) ∧ w1.ownsRow 0 5 1 v' s.size (Lib.strCells s) ∧ Split (w.setCell ⟨b,0,none⟩ (.pointer (some ⟨b,0,none⟩))) (.slice none 0 0) v' w1 ∧ w1.heap[b]? = some (.cells #[.pointer (some ⟨b,0,none⟩),.slice none 0 0] T (0,0)) ∧ w' = w1.setCell ⟨b,1,none⟩ v':=by
 obtain ⟨i0,hi,hz0,hz1,hz2⟩:=info_parts (show (Tryz.prog.info? 5).map (fun i=>(i.zero,i.size,i.bytes)) = some (some (.int .u8 0),1,1) by kernel_rfl)
 have c0:w.cell? ⟨b,0,none⟩ = some (.pointer none):=by rw [cell_get hb];rfl
 have hlt:b < w.heap.size:=by
  rcases Nat.lt_or_ge b w.heap.size with h' | h'
  ·exact h'
  ·simp [Array.getElem?_eq_none h'] at hb
 have hsh:=shape_of (us:=[.pointer none,.slice none 0 0]) hb
 have hfz:=Lib.frozen_of_heap hb 0
 have hb1:(w.setCell ⟨b,0,none⟩ (.pointer (some ⟨b,0,none⟩))).heap[b]? = some (.cells #[.pointer (some ⟨b,0,none⟩),.slice none 0 0] T (0,0)):=by
  rw [setCell_eq_setRow w b 0 _ T (0,0) _ hb,setRow_heap w b _ _ T _ hb]
  rfl
 have hlt1:b < (w.setCell ⟨b,0,none⟩ (.pointer (some ⟨b,0,none⟩))).heap.size:=by
  rcases Nat.lt_or_ge b (w.setCell ⟨b,0,none⟩ (.pointer (some ⟨b,0,none⟩))).heap.size with h' | h'
  ·exact h'
  ·simp [Array.getElem?_eq_none h'] at hb1
 obtain ⟨wz,hwz⟩:∃ wz,wz = w.setCell ⟨b,0,none⟩ (.pointer (some ⟨b,0,none⟩)):=⟨_,rfl⟩
 rw [← hwz] at hb1 hlt1 ⊢
 have HZ:=Lib.hid hwz
 clear hwz
 have HB:=Lib.hid hb1
 have HL:=Lib.hid hlies
 have HS:=Lib.hid hsh
 have HF:=Lib.hid hfz
 clear hb hb1 hlies hsh hfz
 go_enter Tryz.func45,Tryz.ntmps45
 go_wp2_with fail
 refine (cc_fresh T b HL.out _ c0 HS.out HF.out).mono ?_
 rintro e w1 ⟨rfl,e1⟩
 rw [← HZ.out] at e1
 subst e1
 have g1:w1.cell? ⟨b,1,none⟩ = some (.slice none 0 0):=by rw [cell_get HB.out];rfl
 go_wp2_with (at_builtin;refine wp_append_str rfl _ _ 32 9 rfl 5 i0 Tryz.underlying32 Tryz.underlying9 hi hz0 hz1 hz2 _ 0 [] rfl (World.ownsRow_nil w1 0 5 1) s rfl ?h1 ?h2 ?_)
 case h1=>unfold maxLen;omega
 case h2=>omega
 intro v' w2 hown' hsp
 have hb2:=(hsp.other hlt1 (by simp [Value.ownBlock])).trans HB.out
 have d0:w2.cell? ⟨b,0,none⟩ = some (.pointer (some ⟨b,0,none⟩)):=by rw [cell_get hb2];rfl
 have d1:w2.cell? ⟨b,1,none⟩ = some (.slice none 0 0):=by rw [cell_get hb2];rfl
 have f1:w2.frozen? ⟨b,1,none⟩ = false:=Lib.frozen_of_heap hb2 1
 obtain ⟨A,cap,rfl⟩:=own_slice hown'
 have HB2:=Lib.hid hb2
 have HO2:=Lib.hid hown'
 have HSP:=Lib.hid hsp
 clear hb2 hown' hsp c0 g1
 go_wp2
 go_ret2
 exact ⟨_,w2,rfl,HO2.out,HSP.out,HB2.out,rfl⟩
def rU (l:List UInt8):List (List D):=l.map fun c=>[.sc (.int .u8 (c.toNat:Int))]
def penU (l:List UInt8):List O:=[.box [.ptr 0 0,.own 1],.row false 5 (rU l)]
theorem rU_len (l:List UInt8):(rU l).length = l.length:=by unfold rU;rw [List.length_map]
theorem rU_app (a b:List UInt8):rU (a ++ b) = rU a ++ rU b:=by unfold rU;rw [List.map_append]
theorem rU_one (l:List UInt8):∀ r ∈ rU l,r.length = 1:=fun r hr=>by
 unfold rU at hr
 obtain ⟨c,_,rfl⟩:=List.mem_map.1 hr
 rfl
theorem str_at_row {I:Nat → Nat → Prop} {w:World} (s:ByteArray):AtDs I w (Lib.strCells s) (rU (btl s)).flatten:=by
 have key:∀ l:List UInt8,AtDs I w (l.map fun b=>Value.int .u8 b.toNat) (rU l).flatten:=by
  intro l
  induction l with
  | nil=>exact .nil I w
  | cons c l ih=>exact .cons (.sc _ rfl) ih
 exact key _
theorem u8_sz:(ty 5).sz = 1:=rfl
theorem WriteString_ok:fnOk Tryz.prog 45 = true:=by kernel_rfl
theorem isPtr {b c:Nat} (h:Value.pointer (some ⟨b,0,none⟩) = .pointer (some ⟨c,0,none⟩)):b = c:=by
 injection h with h
 injection h with h
 injection h
theorem wsU_s (l:List UInt8) (s:ByteArray) (hlen:l.length + s.size ≤ 137438953472):SpecO 45 [.ptr 0 0,vs s] (penU l) (fun res os=>res = [vi .i64 (s.size:Nat),.d (.sc .nilIface)] ∧ os = penU (l ++ btl s)):=by
 refine ⟨WriteString_ok,fun I w g args hrel=>?_⟩
 obtain ⟨b,us,t,hg,hb,hcs,h1,hI,hM⟩:=hrel.obj 0 _ rfl
 obtain ⟨usr,hown,hrl,hdr,hbk⟩:=hrel.obj 1 _ rfl
 rw [u8_sz,rU_len] at hown
 obtain ⟨u,us',rfl,hu,hus⟩:=AtVs.uncons (show AtVs I w g args [.ptr 0 0,vs s] from hrel.tmp)
 obtain ⟨us1,us2,rfl,hu1,hus2⟩:=hus.uncons
 obtain rfl:=hus2.unnil
 obtain ⟨b',hg',rfl⟩:=hu.unptr
 obtain rfl:=isPtr (hg.symm.trans hg')
 obtain rfl:us1 = .string s:=by cases hu1 with | d hd=>cases hd;rfl
 obtain ⟨u0,us0,rfl,hu0,hu0s⟩:=hcs.uncons
 obtain ⟨v0,us0',rfl,hv0,hv0s⟩:=hu0s.uncons
 obtain rfl:=hv0s.unnil
 obtain ⟨b2,hg2,rfl⟩:=hu0.unptr
 obtain rfl:=isPtr (hg.symm.trans hg2)
 obtain rfl:v0 = g 1:=hv0.unown.1.trans (own_gv hown)
 have hne:(g 1).ownBlock ≠ some b:=fun e=>by
  have h2:gbl (g 1) b:=(own_gblk hown).2 e
  have h3:gbl (g 0) b:=by rw [hg];rfl
  have:=hrel.dis 0 1 b ⟨_,rfl,by simp⟩ ⟨_,rfl,by simp⟩ h3 h2
  omega
 refine (wsU_w b t.1 l.length _ (g 1) usr s w hb (by simp) (by simp) hown hne hlen).mono ?_
 rintro e w' ⟨v',w1,rfl,hown',hsp,hb1,rfl⟩
 have hys:=rU_one (btl s)
 have hl2:(rU (btl s)).length = s.size:=by rw [rU_len,btl_size]
 obtain ⟨I',g',hgv,h2⟩:=hrel.appended (k:=1) (z:=false) (e:=5) (xs:=rU l) (ys:=rU (btl s)) rfl (by rw [u8_sz,rU_len];exact hown) (fun r hr=>hys r hr) (str_at_row s) (v':=v') (w':=w1) (by rw [u8_sz,rU_len,hl2];exact hown') hsp
 have hp0:g' 0 = .pointer (some ⟨b,0,none⟩):=by
  have:=h2.st 0 (by show 0 < 2;omega) (by show isRef (g 0) = true;rw [hg];rfl)
  rw [this];exact hg
 obtain ⟨A',c',hv'⟩:=own_slice hown'
 have hpv:AtVs I' w1 g' [v'] [V.own 1]:=.cons (by rw [hv'];exact .own _ _ _ _ (by rw [hgv,hv'];rfl)) (.nil I' w1 g')
 obtain ⟨b3,us3,t3,hg3,hb3,hlen3,h3⟩:=h2.store (k:=0) (n:=1) (cs:=[.ptr 0 0,.jk]) (ds:=[.own 1]) (r:=[.ptr 0 0,.own 1]) (vs:=[v']) rfl hpv (by intro u hu;simp at hu;subst hu;rw [hv'];rfl) rfl
 obtain rfl:=isPtr (hp0.symm.trans hg3)
 rw [hb1] at hb3
 injection hb3 with hb3
 injection hb3 with e1 e2 _
 have e3:us3 = [.pointer (some ⟨b,0,none⟩),g 1] ++ t.2:=by
  have:=congrArg Array.toList e1
  simpa using this.symm
 have e4:w1.setCell ⟨b,1,none⟩ v' = w1.setRow b (us3.take 1 ++ [v'] ++ us3.drop (1 + 1)).toArray:=by
  rw [setCell_eq_setRow w1 b 1 _ t.1 (0,0) _ hb1,e3]
  congr 1
 rw [e4]
 refine ⟨[.int .i64 (s.size:Nat),.nilIface],[vi .i64 (s.size:Nat),.d (.sc .nilIface)],_,I',g',rfl,⟨rfl,?_⟩,⟨h3.im,h3.lt,h3.fr,h3.kp,h3.lo,h3.st,h3.obj,h3.dis,h3.out,?_,rfl,h3.dfr.2⟩⟩
 ·unfold penU
  rw [rU_app]
  rfl
 ·exact .cons (.d (.sc _ rfl)) (.cons (.d (.sc _ rfl)) (.nil _ _ _))
def Lies (T:Nat):Prop:=liesAt Tryz.prog Tryz.prog.depth T (2 / Tryz.prog.cellsOf T) 0 56 1 = true
theorem wsF_s (T:Nat) (hT:Lies T) (s:ByteArray) (hlen:s.size ≤ 137438953472):SpecO 45 [.ptr 0 0,vs s] [penO T] (fun res os=>res = [vi .i64 (s.size:Nat),.d (.sc .nilIface)] ∧ os = penU (btl s)):=by
 refine ⟨WriteString_ok,fun I w g args hrel=>?_⟩
 obtain ⟨b,hg,hb,hI,hM⟩:=hrel.obj 0 _ rfl
 obtain ⟨u,us',rfl,hu,hus⟩:=AtVs.uncons (show AtVs I w g args [.ptr 0 0,vs s] from hrel.tmp)
 obtain ⟨us1,us2,rfl,hu1,hus2⟩:=hus.uncons
 obtain rfl:=hus2.unnil
 obtain ⟨b',hg',rfl⟩:=hu.unptr
 obtain rfl:=isPtr (hg.symm.trans hg')
 obtain rfl:us1 = .string s:=by cases hu1 with | d hd=>cases hd;rfl
 refine (wsF_w b T hT s w hb hlen).mono ?_
 rintro e w' ⟨v',w1,rfl,hown',hsp,hb1,rfl⟩
 have hu2:=hrel.unob (k:=0) (T:=T) (us:=[.pointer none,.slice none 0 0]) rfl rfl
 have hp:AtVs I w g [.pointer (some ⟨b,0,none⟩)] [V.ptr 0 0]:=.cons (.ptr 0 0 b hg) (.nil I w g)
 obtain ⟨b2,us2,t2,hg2,hb2,hlen2,h0⟩:=hu2.store (k:=0) (n:=0) (cs:=[.d (.sc (.pointer none)),.em]) (ds:=[.ptr 0 0]) (r:=[.ptr 0 0,.em]) (vs:=[.pointer (some ⟨b,0,none⟩)]) rfl hp (by simp [Value.oneCell']) rfl
 obtain rfl:=isPtr (hg.symm.trans hg2)
 rw [hb] at hb2
 injection hb2 with hb2
 injection hb2 with e1 e2 _
 have e3:us2 = [.pointer none,.slice none 0 0]:=by
  have:=congrArg Array.toList e1
  simpa using this.symm
 subst e3
 have e4:w.setCell ⟨b,0,none⟩ (.pointer (some ⟨b,0,none⟩)) = w.setRow b ([Value.pointer none,.slice none 0 0].take 0 ++ [Value.pointer (some ⟨b,0,none⟩)] ++ [Value.pointer none,.slice none 0 0].drop (0 + 1)).toArray:=by
  rw [setCell_eq_setRow w b 0 _ T (0,0) _ hb]
  rfl
 have h00:RelI I (Xof g [penO T]) ⟨w,g,[penO T].length,[]⟩ I g ⟨[V.ptr 0 0,vs s],[O.box [.ptr 0 0,.em]]⟩ { tmps:=[Value.pointer (some ⟨b,0,none⟩),.string s].toArray,defers:=[] } (w.setCell ⟨b,0,none⟩ (.pointer (some ⟨b,0,none⟩))):=by rw [e4];exact h0
 clear h0 e4
 generalize w.setCell ⟨b,0,none⟩ (.pointer (some ⟨b,0,none⟩)) = wz at hsp h00
 have h1:=h00.newObj (.row false 5 []) (.slice none 0 0) ⟨[],by rw [upd_same];exact World.ownsRow_nil wz 0 _ _,by simp,AtDs.nil I wz,fun b hb=>by rw [upd_same] at hb;cases hb⟩ (fun j b _ _ hb=>by cases hb)
 have hys:=rU_one (btl s)
 have hl2:(rU (btl s)).length = s.size:=by rw [rU_len,btl_size]
 obtain ⟨I',g',hgv,h2⟩:=h1.appended (k:=1) (z:=false) (e:=5) (xs:=[]) (ys:=rU (btl s)) (us:=[]) rfl (by rw [show upd g [O.box [V.ptr 0 0,V.em]].length (Value.slice none 0 0) 1 = .slice none 0 0 from upd_same ..];exact World.ownsRow_nil wz 0 _ _) (fun r hr=>hys r hr) (str_at_row s) (v':=v') (w':=w1) (by rw [u8_sz,hl2];simpa using hown') (by rw [show upd g [O.box [V.ptr 0 0,V.em]].length (Value.slice none 0 0) 1 = .slice none 0 0 from upd_same ..];exact hsp)
 have hp0:g' 0 = .pointer (some ⟨b,0,none⟩):=by
  have:=h2.st 0 (by show 0 < 1;omega) (by show isRef (g 0) = true;rw [hg];rfl)
  rw [this];exact hg
 obtain ⟨A',c',hv'⟩:=own_slice hown'
 have hpv:AtVs I' w1 g' [v'] [V.own 1]:=.cons (by rw [hv'];exact .own _ _ _ _ (by rw [hgv,hv'];rfl)) (.nil I' w1 g')
 obtain ⟨b3,us3,t3,hg3,hb3,hlen3,h3⟩:=h2.store (k:=0) (n:=1) (cs:=[.ptr 0 0,.em]) (ds:=[.own 1]) (r:=[.ptr 0 0,.own 1]) (vs:=[v']) rfl hpv (by intro u hu;simp at hu;subst hu;rw [hv'];rfl) rfl
 obtain rfl:=isPtr (hp0.symm.trans hg3)
 rw [hb1] at hb3
 injection hb3 with hb3
 injection hb3 with f1 f2 _
 have f3:us3 = [.pointer (some ⟨b,0,none⟩),.slice none 0 0]:=by
  have:=congrArg Array.toList f1
  simpa using this.symm
 have f4:w1.setCell ⟨b,1,none⟩ v' = w1.setRow b (us3.take 1 ++ [v'] ++ us3.drop (1 + 1)).toArray:=by
  rw [setCell_eq_setRow w1 b 1 _ T (0,0) _ hb1,f3]
  congr 1
 rw [f4]
 refine ⟨[.int .i64 (s.size:Nat),.nilIface],[vi .i64 (s.size:Nat),.d (.sc .nilIface)],_,I',g',rfl,⟨rfl,?_⟩,⟨h3.im,h3.lt,h3.fr,h3.kp,h3.lo,h3.st,h3.obj,h3.dis,h3.out,?_,rfl,h3.dfr.2⟩⟩
 ·rfl
 ·exact .cons (.d (.sc _ rfl)) (.cons (.d (.sc _ rfl)) (.nil _ _ _))
theorem wbU_s (l:List UInt8) (c:UInt8) (hlen:l.length + 1 ≤ 137438953472):SpecO 46 [.ptr 0 0,vi .u8 (c.toNat:Int)] (penU l) (fun res os=>res = [.d (.sc .nilIface)] ∧ os = penU (l ++ [c])):=by
 unfold penU
 rw [rU_app,show rU [c] = [[.sc (.int .u8 (c.toNat:Int))]] from rfl]
 have hll:=rU_len l
 generalize rU l = L at *
 have hcc:=ccU_s (.own 1) [.row false 5 L]
 obtain ⟨ci,hci⟩:∃ ci,ci = (c.toNat:Int):=⟨_,rfl⟩
 rw [← hci]
 refine speco_of Tryz.func46 rfl (by kernel_rfl) (by kernel_rfl) (by kernel_rfl) fun qa qb qc qd qe qg qh qi qj qk ql qm qo qp qq qt qu qv qw qx qy qz va vc vd ve vf vg vh vj vk vl vm vn vo vp vq vr vt vu vv vw vx hA=>?_
 obtain ⟨r1,r2,r3,r4⟩:=row_at hA
 iterate 2 (try cbv;repeat ((first | with_reducible apply next_at hA);cbv))
 try simp (maxSteps:=4000000) only [nc] at *
 refine callo_at hA [0,1] hcc ⟨rfl,rfl,rfl,rfl,rfl,rfl,rfl⟩ ?_
 rintro _ _ ⟨rfl,rfl⟩
 iterate 2 (try cbv;repeat ((first | with_reducible apply next_at hA | refine lit_at hA true ?_ | (refine room_at hA (by simp only [List.length_cons,List.length_nil];omega) ?_));cbv))
 try simp (maxSteps:=4000000) only [nc] at *
 rw [r4]
 exact keep_is hA [0,1] ⟨rfl,rfl,rfl,rfl,rfl,rfl,rfl,rfl⟩ ⟨rfl,rfl⟩
theorem wbF_s (T:Nat) (hT:Lies T) (c:UInt8):SpecO 46 [.ptr 0 0,vi .u8 (c.toNat:Int)] [penO T] (fun res os=>res = [.d (.sc .nilIface)] ∧ os = penU [c]):=by
 unfold penU
 rw [show rU [c] = [[.sc (.int .u8 (c.toNat:Int))]] from rfl]
 have hcc:=ccF_s T hT
 unfold penO at *
 obtain ⟨ci,hci⟩:∃ ci,ci = (c.toNat:Int):=⟨_,rfl⟩
 rw [← hci]
 refine speco_of Tryz.func46 rfl (by kernel_rfl) (by kernel_rfl) (by kernel_rfl) fun qa qb qc qd qe qg qh qi qj qk ql qm qo qp qq qt qu qv qw qx qy qz va vc vd ve vf vg vh vj vk vl vm vn vo vp vq vr vt vu vv vw vx hA=>?_
 obtain ⟨r1,r2,r3,r4⟩:=row_at hA
 iterate 2 (try cbv;repeat ((first | with_reducible apply next_at hA);cbv))
 try simp (maxSteps:=4000000) only [nc] at *
 refine callo_at hA [0] hcc ⟨rfl,rfl,rfl,rfl,rfl,rfl,rfl⟩ ?_
 rintro _ _ ⟨rfl,rfl⟩
 iterate 2 (try cbv;repeat ((first | with_reducible apply next_at hA | refine lit_at hA true ?_ | refine new_at hA false ?_ | (refine room_at hA (by simp only [List.length_cons,List.length_nil];omega) ?_));cbv))
 try simp (maxSteps:=4000000) only [nc] at *
 exact keep_is hA [0,1] ⟨rfl,rfl,rfl,rfl,rfl,rfl,rfl,rfl⟩ ⟨rfl,rfl⟩
section
section
variable {I0:Nat → Nat → Prop} {X:Nat → Prop} {w0:W0} {I:Nat → Nat → Prop} {g:Nat → Value} {s:S} {a:Act} {w:World}
theorem live_dead2 {s:S} {k:Nat} {j:Nat} (h:live ⟨s.t,s.o.set k .dead⟩ j):j ≠ k ∧ live s j:=by
 obtain ⟨o,ho,hd⟩:=h
 by_cases e:k = j
 ·subst e
  simp only at ho
  have hlt:=(List.getElem?_eq_some_iff.1 ho).1
  rw [List.length_set] at hlt
  rw [List.getElem?_set_self hlt] at ho
  cases ho
  exact absurd rfl hd
 ·simp only [List.getElem?_set_ne e] at ho
  exact ⟨Ne.symm e,o,ho,hd⟩
theorem RelI.dead (h:RelI I0 X w0 I g s a w) (k:Nat):RelI I0 X w0 I g ⟨s.t,s.o.set k .dead⟩ a w:=by
 refine ⟨h.im,h.lt,h.fr,h.kp,by simp only [List.length_set];exact h.lo,h.st,fun i o ho=>?_,fun i j b hi hj=>h.dis i j b (live_dead2 hi).2 (live_dead2 hj).2,fun i hi=>h.out i (by simpa using hi),h.tmp,h.dfr⟩
 by_cases hd:o = .dead
 ·subst hd;exact True.intro
 ·have h1:=live_dead2 (s:=s) (k:=k) ⟨o,ho,hd⟩
  simp only [List.getElem?_set_ne (Ne.symm h1.1)] at ho
  exact h.obj i o ho
theorem RelI.deadTo (h:RelI I0 X w0 I g s a w) {k:Nat} {o:O} (hk:s.o[k]? = some o) (hd:o ≠ .dead) {w':World} {b:Nat} (hb:gbl (g k) b) (hos:w'.os = w.os) (htp:w'.tape = w.tape) (hou:w'.output = w.output) (hsz:w'.heap.size = w.heap.size)
  (hoth:∀ c,c ≠ b → w'.heap[c]? = w.heap[c]?) (hcell:∀ i,w'.cell? ⟨b,i,none⟩ = w.cell? ⟨b,i,none⟩):RelI I0 X w0 I g ⟨s.t,s.o.set k .dead⟩ a w':=by
 have hm:=(h.obj k o hk).blk hd b hb
 have hkp:Keeps I w w':=fun b' n hb' i hi=>by
  by_cases e:b' = b
  ·subst e;exact hcell i
  ·exact blk_cell (hoth b' e) i
 refine ⟨h.im,fun b' n hb'=>by rw [hsz];exact h.lt b' n hb',⟨hos.trans h.fr.os,htp.trans h.fr.tape,hou.trans h.fr.output,by rw [hsz];exact h.fr.size,fun b' hb' hX=>?_⟩,h.kp.trans fun b' n hb' i hi=>hkp b' n (h.im b' n hb') i hi,by simp only [List.length_set];exact h.lo,h.st,fun i x hx=>?_,fun i j b hi hj=>h.dis i j b (live_dead2 hi).2 (live_dead2 hj).2,fun i hi=>h.out i (by simpa using hi),h.tmp.mono (fun _ _ h=>h) hkp,h.dfr⟩
 ·rw [hoth b' fun e=>?_]
  ·exact h.fr.block b' hb' hX
  ·subst e
   rcases hm.2 with h1 | h1
   ·omega
   ·exact hX h1
 ·by_cases hxd:x = .dead
  ·subst hxd;exact True.intro
  ·have h1:=live_dead2 (s:=s) (k:=k) ⟨x,hx,hxd⟩
   simp only [List.getElem?_set_ne (Ne.symm h1.1)] at hx
   refine (h.obj i x hx).keep (fun _ _ h=>h) hkp (fun b' hb'=>hoth b' fun e=>?_) fun _ _ _ h=>h
   subst e
   exact h1.1 (h.dis i k b' ⟨x,hx,hxd⟩ ⟨o,hk,hd⟩ hb' hb)
end
theorem freeze_heap {w:World} {b T n:Nat} {cur:Array Value} (hn:n ≠ 0) (h:w.heap[b]? = some (.cells cur T (0,0))):(w.freeze ⟨b,0,none⟩ n).heap[b]? = some (.cells cur T (0,n)):=by
 unfold World.freeze
 rw [if_neg hn]
 have hlt:=(Array.getElem?_eq_some_iff.1 h).1
 simp only [Array.getElem?_modify,if_true,h]
 simp
theorem freeze_other {w:World} {b n c:Nat} (hc:c ≠ b):(w.freeze ⟨b,0,none⟩ n).heap[c]? = w.heap[c]?:=by
 unfold World.freeze
 split
 ·rfl
 ·simp only [Array.getElem?_modify]
  rw [if_neg (Ne.symm hc)]
theorem freeze_rest (w:World) (b n:Nat):(w.freeze ⟨b,0,none⟩ n).os = w.os ∧ (w.freeze ⟨b,0,none⟩ n).tape = w.tape ∧ (w.freeze ⟨b,0,none⟩ n).output = w.output ∧ (w.freeze ⟨b,0,none⟩ n).heap.size = w.heap.size:=by
 unfold World.freeze
 split
 ·exact ⟨rfl,rfl,rfl,rfl⟩
 ·exact ⟨rfl,rfl,rfl,by simp⟩
theorem String_ok:fnOk Tryz.prog 27 = true:=by kernel_rfl
theorem stB_w (b T gb cap:Nat) (cur gc:Array Value) (l:List UInt8) (h0:l ≠ []) (w:World) (hb:w.heap[b]? = some (.cells cur T (0,0))) (k1:cur[1]? = some (.slice (some ⟨gb,0,none⟩) l.length cap)) (hg:w.heap[gb]? = some (.cells gc 5 (0,0))) (hcap:l.length ≤ cap) (hcm:cap ≤ maxLen) (hcs:gc.size = cap)
  (hcells:∀ (j:Nat) (x:UInt8),l[j]? = some x → gc[j]? = some (Value.int .u8 x.toNat)) :
  Calls Tryz.prog 27 #[.pointer (some ⟨b,0,none⟩)] w fun e w'=>e = .returned (.string ⟨l.toArray⟩) ∧ w' = w.drew.freeze ⟨gb,0,none⟩ l.length:=by
 have hl0:l.length ≠ 0:=by simpa using h0
 have c1:w.drew.cell? ⟨b,1,none⟩ = some (.slice (some ⟨gb,0,none⟩) l.length cap):=by
  have:w.drew.heap[b]? = some (.cells cur T (0,0)):=hb
  rw [cell_get this];exact k1
 have hSD:(Builtin.unsafeSliceData_ #[32] 97 #[.slice (some ⟨gb,0,none⟩) l.length cap]).run Tryz.prog w.drew = .ok (.pointer (some ⟨gb,0,none⟩)) w.drew :=
  Lib.run_unsafeSliceData_row _ _ _ _ _ _ (by omega)
 have hUS:(Builtin.unsafeString_ #[97,3] 9 #[.pointer (some ⟨gb,0,none⟩),.int .i64 l.length]).run Tryz.prog w.drew = .ok (.string ⟨l.toArray⟩) (w.drew.freeze ⟨gb,0,none⟩ l.length):=by
  refine Lib.run_unsafeString_row w.drew 97 3 9 5 Tryz.underlying97 (by kernel_rfl) gb gc.size (by have hg':w.drew.heap[gb]? = some (.cells gc 5 (0,0)):=hg;simp [World.shape?,hg']) l h0 (by omega) (by unfold maxLen at hcm;omega) ?_
  intro j x hx
  have hg':w.drew.heap[gb]? = some (.cells gc 5 (0,0)):=hg
  rw [Addr.add_lit,Nat.zero_add,cell_get hg']
  exact hcells j x hx
 clear hb k1 hg hcap hcm hcs hcells h0
 go_enter Tryz.func27,Tryz.ntmps27
 go_wp2
 go_region
 all_goals (go_wp2;go_ret;exact ⟨rfl,rfl⟩)
theorem stN_w (b T:Nat) (cur:Array Value) (w:World) (hb:w.heap[b]? = some (.cells cur T (0,0))) (k1:cur[1]? = some (.slice none 0 0)) :
  Calls Tryz.prog 27 #[.pointer (some ⟨b,0,none⟩)] w fun e w'=>e = .returned (.string ⟨#[]⟩) ∧ w' = w.drew:=by
 have c1:w.drew.cell? ⟨b,1,none⟩ = some (.slice none 0 0):=by
  have:w.drew.heap[b]? = some (.cells cur T (0,0)):=hb
  rw [cell_get this];exact k1
 have hSD:(Builtin.unsafeSliceData_ #[32] 97 #[.slice none 0 0]).run Tryz.prog w.drew = .ok (.pointer none) w.drew:=rfl
 have hUS:(Builtin.unsafeString_ #[97,3] 9 #[.pointer none,.int .i64 0]).run Tryz.prog w.drew = .ok (.string .empty) w.drew:=Lib.run_unsafeString_none w.drew _ _ _ none
 clear hb k1
 go_enter Tryz.func27,Tryz.ntmps27
 go_wp2
 go_region
 all_goals (go_wp2;go_ret;exact ⟨rfl,rfl⟩)
theorem stR_w (b T gb cap:Nat) (hc0:cap ≠ 0) (cur:Array Value) (w:World) (hb:w.heap[b]? = some (.cells cur T (0,0))) (k1:cur[1]? = some (.slice (some ⟨gb,0,none⟩) 0 cap)) :
  Calls Tryz.prog 27 #[.pointer (some ⟨b,0,none⟩)] w fun e w'=>e = .returned (.string ⟨#[]⟩) ∧ w' = w.drew:=by
 have c1:w.drew.cell? ⟨b,1,none⟩ = some (.slice (some ⟨gb,0,none⟩) 0 cap):=by
  have:w.drew.heap[b]? = some (.cells cur T (0,0)):=hb
  rw [cell_get this];exact k1
 have hSD:(Builtin.unsafeSliceData_ #[32] 97 #[.slice (some ⟨gb,0,none⟩) 0 cap]).run Tryz.prog w.drew = .ok (.pointer (some ⟨gb,0,none⟩)) w.drew:=Lib.run_unsafeSliceData_row _ _ _ _ _ _ hc0
 have hUS:(Builtin.unsafeString_ #[97,3] 9 #[.pointer (some ⟨gb,0,none⟩),.int .i64 0]).run Tryz.prog w.drew = .ok (.string .empty) w.drew:=Lib.run_unsafeString_none w.drew _ _ _ _
 clear hb k1 hc0
 go_enter Tryz.func27,Tryz.ntmps27
 go_wp2
 go_region
 all_goals (go_wp2;go_ret;exact ⟨rfl,rfl⟩)
theorem stZ_w (b T gb:Nat) (cur gc:Array Value) (w:World) (hb:w.heap[b]? = some (.cells cur T (0,0))) (k1:cur[1]? = some (.slice (some ⟨gb,0,none⟩) 0 0)) (hg:w.heap[gb]? = some (.cells gc 5 (0,0))) :
  Calls Tryz.prog 27 #[.pointer (some ⟨b,0,none⟩)] w fun e w'=>e = .returned (.string ⟨#[]⟩) ∧ w' = w.drew.alloc (.view ⟨gb,0,none⟩ 5):=by
 have hlt:b < w.heap.size:=by
  rcases Nat.lt_or_ge b w.heap.size with h' | h'
  ·exact h'
  ·simp [Array.getElem?_eq_none h'] at hb
 have c1:w.drew.cell? ⟨b,1,none⟩ = some (.slice (some ⟨gb,0,none⟩) 0 0):=by
  have:w.drew.heap[b]? = some (.cells cur T (0,0)):=hb
  rw [cell_get this];exact k1
 have hSD:(Builtin.unsafeSliceData_ #[32] 97 #[.slice (some ⟨gb,0,none⟩) 0 0]).run Tryz.prog w.drew = .ok (.pointer (some ⟨w.drew.heap.size,0,none⟩)) (w.drew.alloc (.view ⟨gb,0,none⟩ 5)) :=
  Lib.run_unsafeSliceData_zero w.drew _ _ 5 Tryz.underlying97 ⟨gb,0,none⟩ 0 (5,gc.size) (by have hg':w.drew.heap[gb]? = some (.cells gc 5 (0,0)):=hg;simp [World.shape?,hg'])
 have hb2:(w.drew.alloc (.view ⟨gb,0,none⟩ 5)).heap[b]? = some (.cells cur T (0,0)):=(Lib.alloc_old w.drew _ b hlt).trans hb
 have c2:(w.drew.alloc (.view ⟨gb,0,none⟩ 5)).cell? ⟨b,1,none⟩ = some (.slice (some ⟨gb,0,none⟩) 0 0):=by
  rw [cell_get hb2];exact k1
 have c3:(w.alloc (.view ⟨gb,0,none⟩ 5)).drew.cell? ⟨b,1,none⟩ = some (.slice (some ⟨gb,0,none⟩) 0 0):=c2
 have c0:w.cell? ⟨b,1,none⟩ = some (.slice (some ⟨gb,0,none⟩) 0 0):=c1
 have hUS:∀ W:World,∀ q,(Builtin.unsafeString_ #[97,3] 9 #[.pointer q,.int .i64 0]).run Tryz.prog W = .ok (.string .empty) W:=fun W q=>Lib.run_unsafeString_none W _ _ _ q
 clear hb k1 hb2 hg
 go_enter Tryz.func27,Tryz.ntmps27
 go_wp2
 go_region
 all_goals (go_wp2;go_ret;exact ⟨rfl,rfl⟩)
theorem row_cells {I:Nat → Nat → Prop} {w:World}:∀ (l:List UInt8) {us:List Value},AtDs I w us (rU l).flatten → us = l.map fun c=>Value.int .u8 c.toNat
 | [],us,h=>by
  have:=h.1
  simp [rU] at this
  exact this
 | c :: l,us,h=>by
  obtain ⟨u,us',rfl,h1,h2⟩:=AtDs.uncons (show AtDs I w us (.sc (.int .u8 (c.toNat:Int)) :: (rU l).flatten) from h)
  rw [row_cells l h2]
  cases h1
  rfl
theorem stU_s (l:List UInt8):SpecO 27 [.ptr 0 0] (penU l) (fun res os=>res = [vs ⟨l.toArray⟩] ∧ os = [.dead,.dead]):=by
 refine ⟨String_ok,fun I w g args hrel=>?_⟩
 obtain ⟨b,us,t,hg,hb,hcs,h1,hI,hM⟩:=hrel.obj 0 _ rfl
 obtain ⟨usr,hown,hrl,hdr,hbk⟩:=hrel.obj 1 _ rfl
 rw [u8_sz,rU_len] at hown
 obtain ⟨u,us',rfl,hu,hus⟩:=AtVs.uncons (show AtVs I w g args [.ptr 0 0] from hrel.tmp)
 obtain rfl:=hus.unnil
 obtain ⟨b',hg',rfl⟩:=hu.unptr
 obtain rfl:=isPtr (hg.symm.trans hg')
 obtain ⟨u0,us0,rfl,hu0,hu0s⟩:=hcs.uncons
 obtain ⟨v0,us0',rfl,hv0,hv0s⟩:=hu0s.uncons
 obtain rfl:=hv0s.unnil
 obtain rfl:v0 = g 1:=hv0.unown.1.trans (own_gv hown)
 have hur:=row_cells l hdr
 subst hur
 have hd:=hrel.drew
 have fin:∀ {w':World} {I':Nat → Nat → Prop} {o0 o1:O},RelI I (Xof g (penU l)) ⟨w,g,(penU l).length,[]⟩ I' g ⟨[V.ptr 0 0],[o0,o1]⟩ { tmps:=[Value.pointer (some ⟨b,0,none⟩)].toArray,defers:=[] } w' →
   ∃ us res os2 I' g',Ending.returned (Value.string ⟨l.toArray⟩) = .returned (pkg us) ∧ (res = [vs ⟨l.toArray⟩] ∧ os2 = [O.dead,.dead]) ∧ RelI I (Xof g (penU l)) ⟨w,g,(penU l).length,[]⟩ I' g' ⟨res,os2⟩ { tmps:=us.toArray,defers:=[] } w':=fun {w'} {I'} {o0} {o1} h=>by
  have h2:=(h.dead 0).dead 1
  exact ⟨[.string ⟨l.toArray⟩],_,_,I',g,rfl,⟨rfl,rfl⟩,⟨h2.im,h2.lt,h2.fr,h2.kp,h2.lo,h2.st,h2.obj,h2.dis,h2.out,.cons (.d (.sc _ rfl)) (.nil _ _ _),rfl,h2.dfr.2⟩⟩
 by_cases hl:l = []
 ·subst hl
  rcases hown.2 with ⟨e0,_⟩ | ⟨gb,cap,cur,e0,_,hgc,_,_,_,_⟩
  ·refine (stN_w b t.1 _ w hb (by rw [e0];simp)).mono ?_
   rintro e w' ⟨rfl,rfl⟩
   exact fin hd
  ·by_cases hc0:cap = 0
   ·subst hc0
    refine (stZ_w b t.1 gb _ cur w hb (by rw [e0];simp) hgc).mono ?_
    rintro e w' ⟨rfl,rfl⟩
    exact fin (hd.grow (I':=I) ((Below.refl _ _).alloc (Nat.le_refl _) _) (fun _ _ h=>h) (fun _ _ h=>.inl h))
   ·refine (stR_w b t.1 gb cap hc0 _ w hb (by rw [e0];simp)).mono ?_
    rintro e w' ⟨rfl,rfl⟩
    exact fin hd
 ·rcases hown.2 with ⟨_,hz⟩ | ⟨gb,cap,cur,e0,_,hgc,hnc,hcm,hcs',htake⟩
  ·exact absurd (List.eq_nil_of_length_eq_zero hz) hl
  ·refine (stB_w b t.1 gb cap _ cur l hl w hb (by rw [e0];simp) hgc hnc hcm (by simpa using hcs') fun j x hx=>?_).mono ?_
   ·have h5:(cur.toList.take (l.length * 1))[j]? = some (Value.int .u8 x.toNat):=by
     rw [htake,List.getElem?_map,hx];rfl
    rw [List.getElem?_take] at h5
    split at h5
    ·simpa using h5
    ·cases h5
   rintro e w' ⟨rfl,rfl⟩
   obtain ⟨f1,f2,f3,f4⟩:=freeze_rest w.drew gb l.length
   have hgb:gbl (g 1) gb:=by rw [e0];rfl
   have h2:=hd.deadTo (k:=1) (o:=.row false 5 (rU l)) rfl (by simp) (w':=w.drew.freeze ⟨gb,0,none⟩ l.length) hgb f1 f2 f3 f4 (fun c hc=>freeze_other hc) fun i=>by
    have hgd:w.drew.heap[gb]? = some (.cells cur 5 (0,0)):=hgc
    have hn:l.length ≠ 0:=fun h=>hl (List.eq_nil_of_length_eq_zero h)
    have hfz:=freeze_heap hn hgd
    rw [cell_get hgd]
    unfold World.cell?
    rw [hfz]
    simp
   exact fin h2
end
end Go.Proofs.YtahpnackkmbmgaaGreatDoor.Vm
end
section
namespace Go.Proofs
open Go.Shelf
open Go.RowKit in
def Tryz.laysM171_ren:Go.Shelf.Ren:=⟨fun | 171=>47 | 243=>72 | 246=>93 | 283=>106 | 284=>107 | 285=>108 | 286=>109 | 129=>117 | 317=>116 | 318=>118 | 319=>119 | 320=>120 | 337=>124 | 338=>125 | n=>n,fun | 3=>3 | 9=>9 | 2=>2 | 4=>4 | 171=>141 | 0=>0 | 53=>142 | 37=>32 | 5=>5 | 173=>145 | 212=>154 | 51=>155 | 20=>20 | 213=>156 | 46=>149 | 232=>161 | 233=>162 | n=>n,fun | 17=>0 | 18=>2 | 19=>3 | n=>n⟩
theorem Tryz.laysM171:Go.Proofs.LaysM.n171 Tryz.prog Tryz.laysM171_ren:={
 mixed:=by kernel_rfl
 f129:=Tryz.func117.trans (congrArg some (by kernel_rfl))
 f171:=Tryz.func47.trans (congrArg some (by kernel_rfl))
 f243:=Tryz.func72.trans (congrArg some (by kernel_rfl))
 f246:=Tryz.func93.trans (congrArg some (by kernel_rfl))
 f283:=Tryz.func106.trans (congrArg some (by kernel_rfl))
 f284:=Tryz.func107.trans (congrArg some (by kernel_rfl))
 f285:=Tryz.func108.trans (congrArg some (by kernel_rfl))
 f286:=Tryz.func109.trans (congrArg some (by kernel_rfl))
 f317:=Tryz.func116.trans (congrArg some (by kernel_rfl))
 f318:=Tryz.func118.trans (congrArg some (by kernel_rfl))
 f319:=Tryz.func119.trans (congrArg some (by kernel_rfl))
 f320:=Tryz.func120.trans (congrArg some (by kernel_rfl))
 f337:=Tryz.func124.trans (congrArg some (by kernel_rfl))
 f338:=Tryz.func125.trans (congrArg some (by kernel_rfl))
 t0:=Tryz.underlying0
 a0:=Tryz.isAgg0
 z0:=Tryz.sizeOf0
 v0:=Tryz.zeroValue0
 t2:=Tryz.underlying2
 a2:=Tryz.isAgg2
 z2:=Tryz.sizeOf2
 v2:=Tryz.zeroValue2
 t3:=Tryz.underlying3
 a3:=Tryz.isAgg3
 z3:=Tryz.sizeOf3
 v3:=Tryz.zeroValue3
 t4:=Tryz.underlying4
 a4:=Tryz.isAgg4
 z4:=Tryz.sizeOf4
 v4:=Tryz.zeroValue4
 t5:=Tryz.underlying5
 a5:=Tryz.isAgg5
 z5:=Tryz.sizeOf5
 v5:=Tryz.zeroValue5
 t9:=Tryz.underlying9
 a9:=Tryz.isAgg9
 z9:=Tryz.sizeOf9
 v9:=Tryz.zeroValue9
 t20:=Tryz.underlying20
 a20:=Tryz.isAgg20
 z20:=Tryz.sizeOf20
 v20:=Tryz.zeroValue20
 t37:=Tryz.underlying32
 a37:=Tryz.isAgg32
 z37:=Tryz.sizeOf32
 v37:=Tryz.zeroValue32
 t46:=Tryz.underlying149
 a46:=Tryz.isAgg149
 z46:=Tryz.sizeOf149
 v46:=Tryz.zeroValue149
 t51:=Tryz.underlying155
 a51:=Tryz.isAgg155
 z51:=Tryz.sizeOf155
 v51:=Tryz.zeroValue155
 t53:=Tryz.underlying142
 a53:=Tryz.isAgg142
 z53:=Tryz.sizeOf142
 v53:=Tryz.zeroValue142
 t171:=Tryz.underlying141
 a171:=Tryz.isAgg141
 z171:=Tryz.sizeOf141
 v171:=Tryz.zeroValue141
 t173:=Tryz.underlying145
 a173:=Tryz.isAgg145
 z173:=Tryz.sizeOf145
 v173:=Tryz.zeroValue145
 t212:=Tryz.underlying154
 a212:=Tryz.isAgg154
 z212:=Tryz.sizeOf154
 v212:=Tryz.zeroValue154
 t213:=Tryz.underlying156
 a213:=Tryz.isAgg156
 z213:=Tryz.sizeOf156
 t232:=Tryz.underlying161
 a232:=Tryz.isAgg161
 z232:=Tryz.sizeOf161
 v232:=Tryz.zeroValue161
 t233:=Tryz.underlying162
 a233:=Tryz.isAgg162
 z233:=Tryz.sizeOf162
 v233:=Tryz.zeroValue162
 g17:=by kernel_rfl
 g18:=by kernel_rfl
 g19:=by kernel_rfl
 i0:=by kernel_rfl
 i2:=by kernel_rfl
 i3:=by kernel_rfl
 i4:=by kernel_rfl
 i5:=by kernel_rfl
 i9:=by kernel_rfl
 i20:=by kernel_rfl
 i37:=by kernel_rfl
 i46:=by kernel_rfl
 i51:=by kernel_rfl
 i53:=by kernel_rfl
 i171:=by kernel_rfl
 i173:=by kernel_rfl
 i212:=by kernel_rfl
 i232:=by kernel_rfl
 i233:=by kernel_rfl
 m17:=by kernel_rfl
 m18:=by kernel_rfl
 m19:=by kernel_rfl }
open Go.RowKit Go.Sort Go.Lib in
theorem Tryz.strconv_Itoa (n:Int) (h0:-9223372036854775808 ≤ n) (h1:n ≤ 9223372036854775807) (w:World) (htab:Lib.TabIs Tryz.prog w "internal/strconv.uint64pow10" .u64 Lib.pow10Tab) :
  Calls Tryz.prog 47 #[.int .i64 n] w fun e w'=>e = .returned (.string ⟨(Lib.itoa n).toArray⟩) ∧ ∃ k os,w' = grow (w.drewN k) os:=Any.strconv_Itoa Tryz.laysM171 n h0 h1 w htab
end Go.Proofs
end
section
namespace Go.Proofs.YtahpnackkmbmgaaGreatDoor.Vm
open Go.RowKit
theorem tab_pow10:("internal/strconv.uint64pow10",IntKind.u64,Lib.pow10Tab) ∈ tabsOf:=by
 rw [show Lib.pow10Tab = _ from (by decide:Lib.pow10Tab = [1,10,100,1000,10000,100000,1000000,10000000,100000000,1000000000,10000000000,100000000000,1000000000000,10000000000000,100000000000000,1000000000000000,10000000000000000,100000000000000000,1000000000000000000,10000000000000000000])]
 unfold tabsOf
 simp
theorem itoa_c (n:Int) (h0:-9223372036854775808 ≤ n) (h1:n ≤ 9223372036854775807):Spec 47 [.one (.sc (.int .i64 n))] [.one (.sc (.string ⟨(Lib.itoa n).toArray⟩))]:=by
 refine ⟨by kernel_rfl,fun I w args hI hat=>?_⟩
 match args,hat with
 | [v1],⟨h2,_⟩ =>
  have h2:AtD I w v1 (.sc (.int .i64 n)):=h2
  cases h2
  refine (Tryz.strconv_Itoa n h0 h1 w (hI.2 _ tab_pow10).1).mono ?_
  rintro e w' ⟨rfl,k,os,rfl⟩
  exact ⟨_,rfl,.sc _ rfl,⟨rfl,rfl,rfl,by simp [Sort.grow,World.drewN],fun k hk=>by simp [Sort.grow,World.drewN,Array.getElem?_append,hk]⟩⟩
end Go.Proofs.YtahpnackkmbmgaaGreatDoor.Vm
end
section
namespace Go.Proofs.YtahpnackkmbmgaaGreatDoor
section
section
variable {α:Type}
structure Swo (lt:α → α → Bool):Prop where
 irr:∀ x,lt x x = false
 tra:∀ x y z,lt x y = true → lt y z = true → lt x z = true
 neg:∀ x y z,lt x y = false → lt y z = false → lt x z = false
variable {lt:α → α → Bool}
def eqv (lt:α → α → Bool) (x y:α):Bool:=!lt x y && !lt y x
def Srt (lt:α → α → Bool) (l:List α):Prop:=l.Pairwise fun x y=>lt y x = false
def Sta (lt:α → α → Bool) (l m:List α):Prop:=∀ x,l.filter (eqv lt x) = m.filter (eqv lt x)
theorem Sta.refl (l:List α):Sta lt l l:=fun _=>rfl
theorem Sta.symm {l m:List α} (h:Sta lt l m):Sta lt m l:=fun x=>(h x).symm
theorem Sta.trans {l m n:List α} (h:Sta lt l m) (k:Sta lt m n):Sta lt l n:=fun x=>(h x).trans (k x)
theorem Sta.append {l m l' m':List α} (h:Sta lt l l') (k:Sta lt m m'):Sta lt (l ++ m) (l' ++ m'):=fun x=>by rw [List.filter_append,List.filter_append,h x,k x]
theorem eqv_self (h:Swo lt) (x:α):eqv lt x x = true:=by unfold eqv;rw [h.irr];rfl
theorem Sta.mem (h:Swo lt) {l m:List α} (s:Sta lt l m) {x:α} (hx:x ∈ l):x ∈ m:=by
 have:x ∈ l.filter (eqv lt x):=List.mem_filter.2 ⟨hx,eqv_self h x⟩
 rw [s x] at this
 exact (List.mem_filter.1 this).1
theorem Sta.swap (h:Swo lt) {u v:List α} (huv:∀ x ∈ u,∀ y ∈ v,lt y x = true):Sta lt (u ++ v) (v ++ u):=fun z=>by
 rw [List.filter_append,List.filter_append]
 by_cases hu:u.filter (eqv lt z) = []
 ·rw [hu];simp
 ·by_cases hv:v.filter (eqv lt z) = []
  ·rw [hv];simp
  ·exfalso
   obtain ⟨x,hx⟩:=List.exists_mem_of_ne_nil _ hu
   obtain ⟨y,hy⟩:=List.exists_mem_of_ne_nil _ hv
   obtain ⟨hx1,hx2⟩:=List.mem_filter.1 hx
   obtain ⟨hy1,hy2⟩:=List.mem_filter.1 hy
   have h1:=huv x hx1 y hy1
   unfold eqv at hx2 hy2
   simp only [Bool.and_eq_true,Bool.not_eq_true'] at hx2 hy2
   have:=h.neg y z x hy2.2 hx2.1
   rw [h1] at this
   cases this
theorem srt_unique (h:Swo lt):∀ {l m:List α},Srt lt l → Srt lt m → Sta lt l m → l = m
 | [],m,_,_,s=>by
  cases m with
  | nil=>rfl
  | cons y m=>exact absurd (s.symm.mem h (List.mem_cons_self ..)) (by simp)
 | x :: l,[],_,_,s=>absurd (s.mem h (List.mem_cons_self ..)) (by simp)
 | x :: l,y :: m,hl,hm,s=>by
  have hxm:=s.mem h (List.mem_cons_self (a:=x) (l:=l))
  have hyl:=s.symm.mem h (List.mem_cons_self (a:=y) (l:=m))
  have hlx:∀ z ∈ x :: l,lt z x = false:=fun z hz=>by
   rcases List.mem_cons.1 hz with rfl | hz
   ·exact h.irr _
   ·exact (List.pairwise_cons.1 hl).1 z hz
  have hmy:∀ z ∈ y :: m,lt z y = false:=fun z hz=>by
   rcases List.mem_cons.1 hz with rfl | hz
   ·exact h.irr _
   ·exact (List.pairwise_cons.1 hm).1 z hz
  have e1:eqv lt x y = true:=by unfold eqv;rw [hmy x hxm,hlx y hyl];rfl
  have s1:=s x
  rw [List.filter_cons,List.filter_cons,eqv_self h x,e1] at s1
  simp only [if_true] at s1
  injection s1 with s1 s2
  subst s1
  congr 1
  refine srt_unique h (List.pairwise_cons.1 hl).2 (List.pairwise_cons.1 hm).2 fun z=>?_
  have sz:=s z
  rw [List.filter_cons,List.filter_cons] at sz
  by_cases hz:eqv lt z x = true
  ·rw [if_pos hz,if_pos hz] at sz
   injection sz
  ·rw [if_neg hz,if_neg hz] at sz
   exact sz
def insS (lt:α → α → Bool) (x:α):List α → List α
 | []=>[x]
 | y :: l=>if lt x y = true then x :: y :: l else y :: insS lt x l
def sortS (lt:α → α → Bool) (l:List α):List α:=l.foldl (fun acc x=>insS lt x acc) []
theorem ins_sta (h:Swo lt) (x:α):∀ l:List α,Srt lt l → Sta lt (insS lt x l) (l ++ [x])
 | [],_=>.refl _
 | y :: l,hl=>by
  unfold insS
  by_cases hx:lt x y = true
  ·rw [if_pos hx]
   have:Sta lt ([x] ++ (y :: l)) ((y :: l) ++ [x]):=(Sta.swap h (u:=y :: l) (v:=[x]) fun z hz w hw=>by
    simp at hw
    subst hw
    rcases List.mem_cons.1 hz with rfl | hz
    ·exact hx
    ·have h1:=(List.pairwise_cons.1 hl).1 z hz
     cases hwz:lt w z
     ·have:=h.neg w z y hwz h1
      rw [hx] at this
      cases this
     ·rfl).symm
   exact this
  ·rw [if_neg hx]
   exact Sta.append (.refl [y]) (ins_sta h x l (List.pairwise_cons.1 hl).2)
theorem ins_mem (x:α):∀ (l:List α) (z:α),z ∈ insS lt x l → z = x ∨ z ∈ l
 | [],z,hz=>by simp [insS] at hz;exact .inl hz
 | y :: l,z,hz=>by
  unfold insS at hz
  split at hz
  ·rcases List.mem_cons.1 hz with h | h
   ·exact .inl h
   ·exact .inr h
  ·rcases List.mem_cons.1 hz with h | h
   ·exact .inr (by rw [h];exact List.mem_cons_self ..)
   ·rcases ins_mem x l z h with h | h
    ·exact .inl h
    ·exact .inr (List.mem_cons_of_mem _ h)
theorem ins_srt (h:Swo lt) (x:α):∀ l:List α,Srt lt l → Srt lt (insS lt x l)
 | [],_=>by unfold insS Srt;simp
 | y :: l,hl=>by
  obtain ⟨h1,h2⟩:=List.pairwise_cons.1 hl
  unfold insS
  by_cases hx:lt x y = true
  ·rw [if_pos hx]
   refine List.pairwise_cons.2 ⟨fun z hz=>?_,hl⟩
   have hyx:lt y x = false:=by
    cases hyx:lt y x
    ·rfl
    ·have:=h.tra x y x hx hyx
     rw [h.irr] at this
     cases this
   rcases List.mem_cons.1 hz with rfl | hz
   ·exact hyx
   ·exact h.neg z y x (h1 z hz) hyx
  ·rw [if_neg hx]
   refine List.pairwise_cons.2 ⟨fun z hz=>?_,ins_srt h x l h2⟩
   rcases ins_mem x l z hz with rfl | hz
   ·simpa using hx
   ·exact h1 z hz
theorem sort_go (h:Swo lt):∀ (l acc:List α),Srt lt acc → Srt lt (l.foldl (fun acc x=>insS lt x acc) acc) ∧ Sta lt (l.foldl (fun acc x=>insS lt x acc) acc) (acc ++ l)
 | [],acc,ha=>⟨ha,by rw [List.append_nil];exact .refl _⟩
 | x :: l,acc,ha=>by
  obtain ⟨h1,h2⟩:=sort_go h l (insS lt x acc) (ins_srt h x acc ha)
  refine ⟨h1,h2.trans ?_⟩
  have:=Sta.append (ins_sta h x acc ha) (.refl (lt:=lt) l)
  rwa [List.append_assoc] at this
theorem sort_srt (h:Swo lt) (l:List α):Srt lt (sortS lt l):=(sort_go h l [] List.Pairwise.nil).1
theorem sort_sta (h:Swo lt) (l:List α):Sta lt (sortS lt l) l:=(sort_go h l [] List.Pairwise.nil).2
theorem sort_is (h:Swo lt) {l m:List α} (hs:Srt lt m) (ht:Sta lt m l):m = sortS lt l:=srt_unique h hs (sort_srt h l) (ht.trans (sort_sta h l).symm)
theorem srt_append {l m:List α}:Srt lt (l ++ m) ↔ Srt lt l ∧ Srt lt m ∧ ∀ x ∈ l,∀ y ∈ m,lt y x = false:=List.pairwise_append
theorem lt_asymm (h:Swo lt) {x y:α} (hxy:lt x y = true):lt y x = false:=by
 cases hyx:lt y x
 ·rfl
 ·have:=h.tra x y x hxy hyx
  rw [h.irr] at this
  cases this
theorem lt_of_lt_le (h:Swo lt) {x y z:α} (hxy:lt x y = true) (hyz:lt z y = false):lt x z = true:=by
 cases hxz:lt x z
 ·have:=h.neg x z y hxz hyz
  rw [hxy] at this
  cases this
 ·rfl
theorem lt_of_le_lt (h:Swo lt) {x y z:α} (hxy:lt y x = false) (hyz:lt y z = true):lt x z = true:=by
 cases hxz:lt x z
 ·have:=h.neg y x z hxy hxz
  rw [hyz] at this
  cases this
 ·rfl
theorem put_one_left (h:Swo lt) {x:α} {v1 v2:List α} (hs:Srt lt (v1 ++ v2)) (h1:∀ y ∈ v1,lt y x = true) (h2:∀ y ∈ v2,lt y x = false) :
  Srt lt (v1 ++ (x :: v2)) ∧ Sta lt (v1 ++ (x :: v2)) (x :: (v1 ++ v2)):=by
 obtain ⟨s1,s2,s3⟩:=srt_append.1 hs
 refine ⟨srt_append.2 ⟨s1,List.pairwise_cons.2 ⟨h2,s2⟩,fun y hy z hz=>?_⟩,?_⟩
 ·rcases List.mem_cons.1 hz with rfl | hz
  ·exact lt_asymm h (h1 y hy)
  ·exact s3 y hy z hz
 ·have:=Sta.append (Sta.swap h (u:=[x]) (v:=v1) fun z hz y hy=>by simp at hz;subst hz;exact h1 y hy) (.refl (lt:=lt) v2)
  simpa using this.symm
theorem put_one_right (h:Swo lt) {x:α} {u1 u2:List α} (hs:Srt lt (u1 ++ u2)) (h1:∀ y ∈ u1,lt x y = false) (h2:∀ y ∈ u2,lt x y = true) :
  Srt lt (u1 ++ (x :: u2)) ∧ Sta lt (u1 ++ (x :: u2)) ((u1 ++ u2) ++ [x]):=by
 obtain ⟨s1,s2,s3⟩:=srt_append.1 hs
 refine ⟨srt_append.2 ⟨s1,List.pairwise_cons.2 ⟨fun y hy=>lt_asymm h (h2 y hy),s2⟩,fun y hy z hz=>?_⟩,?_⟩
 ·rcases List.mem_cons.1 hz with rfl | hz
  ·exact h1 y hy
  ·exact s3 y hy z hz
 ·have:=Sta.append (.refl (lt:=lt) u1) (Sta.swap h (u:=u2) (v:=[x]) fun z hz y hy=>by simp at hy;subst hy;exact h2 z hz)
  simpa using this.symm
theorem merge_halves (h:Swo lt) {L1 L2 u v P R:List α} (hl:Srt lt (L1 ++ u)) (hr:Srt lt (v ++ L2)) (huv:∀ x ∈ u,∀ y ∈ v,lt y x = true) (hL:∀ x ∈ L1,∀ y ∈ L2,lt y x = false)
  (hP:Srt lt P) (sP:Sta lt P (L1 ++ v)) (hR:Srt lt R) (sR:Sta lt R (u ++ L2)):Srt lt (P ++ R) ∧ Sta lt (P ++ R) ((L1 ++ u) ++ (v ++ L2)):=by
 obtain ⟨a1,a2,a3⟩:=srt_append.1 hl
 obtain ⟨b1,b2,b3⟩:=srt_append.1 hr
 refine ⟨srt_append.2 ⟨hP,hR,fun x hx y hy=>?_⟩,?_⟩
 ·have hx':=sP.mem h hx
  have hy':=sR.mem h hy
  rcases List.mem_append.1 hx' with hx' | hx' <;> rcases List.mem_append.1 hy' with hy' | hy'
  ·exact a3 x hx' y hy'
  ·exact hL x hx' y hy'
  ·exact lt_asymm h (huv y hy' x hx')
  ·exact b3 x hx' y hy'
 ·have s1:=(sP.append sR)
  have s2:Sta lt ((L1 ++ v) ++ (u ++ L2)) ((L1 ++ u) ++ (v ++ L2)):=by
   have:=Sta.append (Sta.append (.refl (lt:=lt) L1) (Sta.swap h huv).symm) (.refl (lt:=lt) L2)
   simpa using this
  exact s1.trans s2
end
end
end Go.Proofs.YtahpnackkmbmgaaGreatDoor
end
section
namespace Go.Proofs.YtahpnackkmbmgaaGreatDoor.Vm
open Go.RowKit
def rowS (fs:List (ByteArray × Ty)) (tail:Ty):Ty:=fs.foldr (fun f r=>.mk 11 f.1 0 [f.2,r]) tail
def Spine:Ty → Prop
 | .mk op _ _ [_,r]=>op = 11 → Spine r
 | .mk op _ _ _=>op ≠ 11
def fieldsS:Ty → List (ByteArray × Ty)
 | .mk op nm _ [x,r]=>if op = 11 then (nm,x) :: fieldsS r else []
 | _=>[]
def tailS:Ty → Ty
 | .mk op nm n [x,r]=>if op = 11 then tailS r else .mk op nm n [x,r]
 | t=>t
theorem fields_end:∀ {t:Ty},t.op ≠ 11 → fieldsS t = [] ∧ tailS t = t
 | .mk op nm n [],_=>⟨rfl,rfl⟩
 | .mk op nm n [x],_=>⟨rfl,rfl⟩
 | .mk op nm n [x,r],h=>by
  have h':op ≠ 11:=h
  unfold fieldsS tailS
  rw [if_neg h',if_neg h']
  exact ⟨rfl,rfl⟩
 | .mk op nm n (x :: y :: z :: l),_=>⟨rfl,rfl⟩
theorem fields_step:∀ {t:Ty},Spine t → t.op = 11 → ∃ a b,t.kids = [a,b] ∧ Spine b ∧ fieldsS t = (t.name,a) :: fieldsS b ∧ tailS t = tailS b
 | .mk op nm n [],h,h'=>absurd h' h
 | .mk op nm n [x],h,h'=>absurd h' h
 | .mk op nm n [x,r],h,h'=>by
  have e:op = 11:=h'
  subst e
  refine ⟨x,r,rfl,h rfl,?_,?_⟩
  ·conv=>lhs;unfold fieldsS
   rw [if_pos rfl];rfl
  ·conv=>lhs;unfold tailS
   rw [if_pos rfl]
 | .mk op nm n (x :: y :: z :: l),h,h'=>absurd h' h
def ltF (a b:ByteArray × Ty):Bool:=Op.bytesLess a.1.toList b.1.toList
theorem sort_snoc (ds:List (ByteArray × Ty)) (d:ByteArray × Ty):sortS ltF (ds ++ [d]) = insS ltF d (sortS ltF ds):=by
 unfold sortS
 rw [List.foldl_append]
 rfl
theorem ins_len {α:Type} {lt:α → α → Bool} (x:α):∀ l:List α,(insS lt x l).length = l.length + 1
 | []=>rfl
 | y :: l=>by
  unfold insS
  split
  ·rfl
  ·simp [ins_len x l]
def atS:List Int → Int → Nat → Int
 | [],_,_=>-1
 | y :: l,x,k=>if y = x then k else atS l x (k + 1)
theorem atS_none:∀ (l:List Int) (x:Int) (k:Nat),x ∉ l → atS l x k = -1
 | [],_,_,_=>rfl
 | y :: l,x,k,h=>by
  rw [atS,if_neg (fun e=>h (by rw [e];exact List.mem_cons_self ..)),atS_none l x (k + 1) (fun hm=>h (List.mem_cons_of_mem _ hm))]
theorem atS_mem:∀ (l:List Int) (x:Int) (k:Nat),x ∈ l → 0 ≤ atS l x k
 | [],_,_,h=>by simp at h
 | y :: l,x,k,h=>by
  rw [atS]
  split
  ·omega
  ·rename_i hne
   rcases List.mem_cons.1 h with rfl | h
   ·exact absurd rfl hne
   ·exact atS_mem l x (k + 1) h
def canonF:Nat → Ty → Ty
 | 0,t=>t
 | m + 1,t=>if t.op = 11 then rowS ((sortS ltF (fieldsS t)).map fun f=>(f.1,canonF m f.2)) (tailS t) else .mk t.op t.name t.n (t.kids.map (canonF m))
def canonS (t:Ty):Ty:=canonF t.parts.length t
theorem fields_less:∀ (n:Nat) (t:Ty),t.parts.length ≤ n → ∀ f ∈ fieldsS t,f.2.parts.length < t.parts.length:=by
 intro n
 induction n with
 | zero=>intro t h;have:=parts_pos t;omega
 | succ n ih =>
  intro t h f hf
  obtain ⟨op,nm,k,ks⟩:=t
  match ks,hf with
  | [],hf=>simp [fieldsS] at hf
  | [x],hf=>simp [fieldsS] at hf
  | x :: y :: z :: l,hf=>simp [fieldsS] at hf
  | [x,r],hf =>
   have hk:=kids_le (.mk op nm k [x,r])
   have hx:=hk.2 x (by simp [Ty.kids])
   have hr:=hk.2 r (by simp [Ty.kids])
   unfold fieldsS at hf
   by_cases h11:op = 11
   ·rw [if_pos h11] at hf
    rcases List.mem_cons.1 hf with rfl | hf
    ·exact hx
    ·have:=ih r (by omega) f hf
     omega
   ·rw [if_neg h11] at hf;simp at hf
theorem sort_mem {α:Type} {lt:α → α → Bool}:∀ (l acc:List α) (z:α),z ∈ l.foldl (fun acc x=>insS lt x acc) acc → z ∈ acc ∨ z ∈ l
 | [],acc,z,h=>.inl h
 | x :: l,acc,z,h=>by
  rcases sort_mem l (insS lt x acc) z h with h | h
  ·rcases ins_mem x acc z h with rfl | h
   ·exact .inr (List.mem_cons_self ..)
   ·exact .inl h
  ·exact .inr (List.mem_cons_of_mem _ h)
theorem sortS_mem {α:Type} {lt:α → α → Bool} {l:List α} {z:α} (h:z ∈ sortS lt l):z ∈ l:=by
 rcases sort_mem l [] z h with h | h
 ·simp at h
 ·exact h
theorem canon_fuel:∀ (n m:Nat) (t:Ty),t.parts.length ≤ n → t.parts.length ≤ m → canonF n t = canonF m t:=by
 intro n
 induction n with
 | zero=>intro m t h;have:=parts_pos t;omega
 | succ n ih =>
  intro m t h h'
  obtain ⟨m,rfl⟩:∃ k,m = k + 1:=⟨m - 1,by have:=parts_pos t;omega⟩
  unfold canonF
  by_cases h11:t.op = 11
  ·rw [if_pos h11,if_pos h11]
   congr 1
   apply List.map_congr_left
   intro f hf
   have:=fields_less _ t (Nat.le_refl _) f (sortS_mem hf)
   rw [ih m f.2 (by omega) (by omega)]
  ·rw [if_neg h11,if_neg h11]
   congr 1
   apply List.map_congr_left
   intro x hx
   have:=(kids_le t).2 x hx
   exact ih m x (by omega) (by omega)
theorem canon_row {t:Ty} (h:t.op = 11):canonS t = rowS ((sortS ltF (fieldsS t)).map fun f=>(f.1,canonS f.2)) (tailS t):=by
 unfold canonS
 obtain ⟨m,hm⟩:∃ m,t.parts.length = m + 1:=⟨t.parts.length - 1,by have:=parts_pos t;omega⟩
 rw [hm]
 conv=>lhs;unfold canonF
 rw [if_pos h]
 congr 1
 apply List.map_congr_left
 intro f hf
 have:=fields_less _ t (Nat.le_refl _) f (sortS_mem hf)
 rw [canon_fuel m f.2.parts.length f.2 (by omega) (Nat.le_refl _)]
theorem canon_node {t:Ty} (h:t.op ≠ 11):canonS t = .mk t.op t.name t.n (t.kids.map canonS):=by
 unfold canonS
 obtain ⟨m,hm⟩:∃ m,t.parts.length = m + 1:=⟨t.parts.length - 1,by have:=parts_pos t;omega⟩
 rw [hm]
 conv=>lhs;unfold canonF
 rw [if_neg h]
 congr 1
 apply List.map_congr_left
 intro x hx
 have:=(kids_le t).2 x hx
 exact canon_fuel m x.parts.length x (by omega) (Nat.le_refl _)
theorem fields_mem:∀ (n:Nat) (t:Ty),t.parts.length ≤ n → ∀ f ∈ fieldsS t,f.2 ∈ t.parts:=by
 intro n
 induction n with
 | zero=>intro t h;have:=parts_pos t;omega
 | succ n ih =>
  intro t h f hf
  obtain ⟨op,nm,k,ks⟩:=t
  match ks,hf with
  | [],hf=>simp [fieldsS] at hf
  | [x],hf=>simp [fieldsS] at hf
  | x :: y :: z :: l,hf=>simp [fieldsS] at hf
  | [x,r],hf =>
   have hk:=kids_le (.mk op nm k [x,r])
   have hr:=hk.2 r (by simp [Ty.kids])
   unfold fieldsS at hf
   by_cases h11:op = 11
   ·rw [if_pos h11] at hf
    rw [parts_kids]
    simp only [Ty.kids,List.flatMap_cons,List.flatMap_nil,List.append_nil]
    rcases List.mem_cons.1 hf with rfl | hf
    ·refine List.mem_cons_of_mem _ (List.mem_append_left _ ?_)
     rw [parts_eq];exact List.mem_cons_self ..
    ·exact List.mem_cons_of_mem _ (List.mem_append_right _ (ih r (by omega) f hf))
   ·rw [if_neg h11] at hf;simp at hf
theorem parts_trans {t x y:Ty}:y ∈ x.parts → x ∈ t.parts → y ∈ t.parts:=by
 intro hy
 induction t using Ty.ind with
 | h t ih =>
  intro hx
  rw [parts_kids] at hx ⊢
  rcases List.mem_cons.1 hx with rfl | hx
  ·rwa [parts_kids] at hy
  ·obtain ⟨k,hk,hx⟩:=List.mem_flatMap.1 hx
   exact List.mem_cons_of_mem _ (List.mem_flatMap.2 ⟨k,hk,ih k hk hx⟩)
theorem sort_len {α:Type} {lt:α → α → Bool}:∀ (l acc:List α),(l.foldl (fun acc x=>insS lt x acc) acc).length = acc.length + l.length
 | [],acc=>rfl
 | x :: l,acc=>by
  rw [List.foldl_cons,sort_len l]
  simp only [ins_len,List.length_cons]
  omega
theorem sortS_len {α:Type} {lt:α → α → Bool} (l:List α):(sortS lt l).length = l.length:=by
 unfold sortS
 rw [sort_len]
 simp
def c4B (op n:Int):Bool:=decide (0 ≤ n) && (decide (op = 7 ∨ op = 10) || decide (n = 0))
theorem shape_none {iw:ByteArray → Bool} {t:Ty} {s:Int} (h:kidsS t.op = none):shapeB iw t s = false:=by
 rw [shape_eq];unfold headB;rw [h];rfl
def c3B (iw:ByteArray → Bool) (op:Int) (nm:ByteArray):Bool:=if op = 11 then iw nm else decide (nm.toList = [])
theorem shape_some {iw:ByteArray → Bool} {op:Int} {nm:ByteArray} {n:Int} {kids:List Ty} {s:Int} {k:List Int} (h:kidsS op = some k) :
  shapeB iw (.mk op nm n kids) s = (((decide (8 ≤ op) == (s == 114)) && (decide (kids.length = k.length) && (c3B iw op nm && c4B op n))) && shapesB iw kids k):=by
 rw [shape_eq];unfold headB c4B c3B;simp only [Ty.op,Ty.name,Ty.n,Ty.kids];rw [h];rfl
theorem ins_perm {α:Type} {lt:α → α → Bool} (x:α):∀ l:List α,(insS lt x l).Perm (x :: l)
 | []=>.refl _
 | y :: l=>by
  unfold insS
  split
  ·exact .refl _
  ·exact ((ins_perm x l).cons y).trans (.swap x y l)
theorem sort_perm {α:Type} {lt:α → α → Bool}:∀ (l acc:List α),(l.foldl (fun acc x=>insS lt x acc) acc).Perm (acc ++ l)
 | [],acc=>by simp
 | x :: l,acc=>by
  rw [List.foldl_cons]
  refine (sort_perm l _).trans ?_
  have h1:(insS lt x acc ++ l).Perm ((x :: acc) ++ l):=(ins_perm x acc).append_right l
  exact h1.trans List.perm_middle.symm
theorem sortS_perm {α:Type} (lt:α → α → Bool) (l:List α):(sortS lt l).Perm l:=by
 have:=sort_perm (lt:=lt) l []
 simpa [sortS] using this
def fldParts (fs:List (ByteArray × Ty)):Nat:=(fs.map fun f=>1 + f.2.parts.length).sum
theorem fldParts_perm {a b:List (ByteArray × Ty)} (h:a.Perm b):fldParts a = fldParts b:=(h.map _).sum_nat
theorem rowS_parts (tl:Ty):∀ fs:List (ByteArray × Ty),(rowS fs tl).parts.length = fldParts fs + tl.parts.length
 | []=>by simp [rowS,fldParts]
 | f :: fs=>by
  have ih:=rowS_parts tl fs
  unfold rowS at ih ⊢
  rw [List.foldr_cons,parts_kids]
  simp only [Ty.kids,List.length_cons,List.flatMap_cons,List.flatMap_nil,List.append_nil,List.length_append,ih,fldParts,List.map_cons,List.sum_cons]
  omega
theorem spine_parts:∀ (n:Nat) (t:Ty),t.parts.length ≤ n → Spine t → t.parts.length = fldParts (fieldsS t) + (tailS t).parts.length:=by
 intro n
 induction n with
 | zero=>intro t h;have:=parts_pos t;omega
 | succ n ih =>
  intro t hn hsp
  by_cases h11:t.op = 11
  ·obtain ⟨a,b,hk,hsb,hf,ht⟩:=fields_step hsp h11
   have hb:=(kids_le t).2 b (by rw [hk];simp)
   have:=ih b (by omega) hsb
   rw [hf,ht,parts_kids,hk]
   simp only [List.length_cons,List.flatMap_cons,List.flatMap_nil,List.append_nil,List.length_append,this,fldParts,List.map_cons,List.sum_cons]
   omega
  ·obtain ⟨h1,h2⟩:=fields_end h11
   rw [h1,h2]
   simp [fldParts]
theorem tail_not:∀ {t:Ty},Spine t → (tailS t).op ≠ 11:=by
 intro t
 induction t using Ty.ind with
 | h t ih =>
  intro hsp
  by_cases h11:t.op = 11
  ·obtain ⟨a,b,hk,hsb,hf,ht⟩:=fields_step hsp h11
   rw [ht]
   exact ih b (by rw [hk];simp) hsb
  ·rw [(fields_end h11).2];exact h11
theorem tail_mem:∀ {t:Ty},Spine t → tailS t ∈ t.parts:=by
 intro t
 induction t using Ty.ind with
 | h t ih =>
  intro hsp
  by_cases h11:t.op = 11
  ·obtain ⟨a,b,hk,hsb,hf,ht⟩:=fields_step hsp h11
   rw [ht,parts_kids]
   exact List.mem_cons_of_mem _ (List.mem_flatMap.2 ⟨b,by rw [hk];simp,ih b (by rw [hk];simp) hsb⟩)
  ·rw [(fields_end h11).2,parts_eq];exact List.mem_cons_self ..
theorem sum_map_congr {α:Type} {f g:α → Nat}:∀ {l:List α},(∀ x ∈ l,f x = g x) → (l.map f).sum = (l.map g).sum
 | [],_=>rfl
 | x :: l,h=>by
  rw [List.map_cons,List.map_cons,List.sum_cons,List.sum_cons,h x (List.mem_cons_self ..),sum_map_congr fun y hy=>h y (List.mem_cons_of_mem _ hy)]
theorem canon_len:∀ (n:Nat) (t:Ty),t.parts.length ≤ n → (∀ x ∈ t.parts,Spine x) → (canonS t).parts.length = t.parts.length:=by
 intro n
 induction n with
 | zero=>intro t h;have:=parts_pos t;omega
 | succ n ih =>
  intro t hn hsp
  have ht:Spine t:=hsp t (by rw [parts_eq];exact List.mem_cons_self ..)
  by_cases h11:t.op = 11
  ·rw [canon_row h11,rowS_parts,spine_parts _ t (Nat.le_refl _) ht]
   congr 1
   rw [← fldParts_perm (sortS_perm ltF (fieldsS t))]
   unfold fldParts
   rw [List.map_map]
   refine sum_map_congr fun f hf=>?_
   have h1:=fields_less _ t (Nat.le_refl _) f (sortS_mem hf)
   have h2:=fields_mem _ t (Nat.le_refl _) f (sortS_mem hf)
   simp only [Function.comp]
   rw [ih f.2 (by omega) fun x hx=>hsp x (parts_trans hx h2)]
  ·rw [canon_node h11,parts_kids,parts_kids t]
   simp only [Ty.kids,List.length_cons,List.length_flatMap,List.map_map]
   congr 1
   refine sum_map_congr fun x hx=>?_
   have h1:=(kids_le t).2 x hx
   simp only [Function.comp]
   exact ih x (by omega) fun y hy=>hsp y (by rw [parts_kids];exact List.mem_cons_of_mem _ (List.mem_flatMap.2 ⟨x,hx,hy⟩))
def SpineAll (t:Ty):Prop:=∀ x ∈ t.parts,Spine x
theorem SpineAll.self {t:Ty} (h:SpineAll t):Spine t:=h t (by rw [parts_eq];exact List.mem_cons_self ..)
theorem SpineAll.mk {t:Ty} (h:Spine t) (hk:∀ x ∈ t.kids,SpineAll x):SpineAll t:=fun y hy=>by
 rw [parts_kids] at hy
 rcases List.mem_cons.1 hy with rfl | hy
 ·exact h
 ·obtain ⟨x,hx,hy⟩:=List.mem_flatMap.1 hy
  exact hk x hx y hy
theorem rowS_op_ne (f:ByteArray × Ty) (fs:List (ByteArray × Ty)) (tl:Ty):rowS (f :: fs) tl = .mk 11 f.1 0 [f.2,rowS fs tl]:=rfl
theorem rowS_spine {tl:Ty} (ht:SpineAll tl):∀ {fs:List (ByteArray × Ty)},(∀ f ∈ fs,SpineAll f.2) → SpineAll (rowS fs tl)
 | [],_=>ht
 | f :: fs,h=>by
  have ih:=rowS_spine ht (fs:=fs) fun g hg=>h g (List.mem_cons_of_mem _ hg)
  rw [rowS_op_ne]
  refine .mk (fun _=>ih.self) fun x hx=>?_
  simp only [Ty.kids,List.mem_cons,List.not_mem_nil,or_false] at hx
  rcases hx with rfl | rfl
  ·exact h f (List.mem_cons_self ..)
  ·exact ih
theorem spine_end {t:Ty} (h:t.op ≠ 11):Spine t:=by
 obtain ⟨op,nm,n,ks⟩:=t
 match ks with
 | []=>exact h
 | [a]=>exact h
 | [a,b]=>exact fun e=>absurd e h
 | a :: b :: c :: l=>exact h
theorem rowS_fields {tl:Ty} (ht:tl.op ≠ 11):∀ fs:List (ByteArray × Ty),fieldsS (rowS fs tl) = fs ∧ tailS (rowS fs tl) = tl
 | []=>by have:=fields_end ht;exact ⟨this.1,this.2⟩
 | f :: fs=>by
  have ih:=rowS_fields ht fs
  rw [rowS_op_ne]
  constructor
  ·conv=>lhs;unfold fieldsS
   rw [if_pos rfl,ih.1]
  ·conv=>lhs;unfold tailS
   rw [if_pos rfl,ih.2]
theorem rowS_len_op {tl:Ty} {fs:List (ByteArray × Ty)} (h:fs ≠ []):(rowS fs tl).op = 11:=by
 cases fs with
 | nil=>exact absurd rfl h
 | cons f fs=>rfl
theorem shapes_mem (iw:ByteArray → Bool):∀ (ts:List Ty) (ks:List Int),shapesB iw ts ks = true → ∀ x ∈ ts,∃ c,shapeB iw x c = true
 | [],_,_,x,hx=>by simp at hx
 | t :: ts,[],h,x,hx=>by rw [shapesB] at h;cases h
 | t :: ts,k :: ks,h,x,hx=>by
  rw [shapesB,Bool.and_eq_true] at h
  rcases List.mem_cons.1 hx with rfl | hx
  ·exact ⟨k,h.1⟩
  ·exact shapes_mem iw ts ks h.2 x hx
theorem shape_spine (iw:ByteArray → Bool) (t:Ty):∀ s,shapeB iw t s = true → ∀ x ∈ t.parts,Spine x:=by
 induction t using Ty.ind with
 | h t ih =>
  intro s hs x hx
  cases hko:kidsS t.op with
  | none=>rw [shape_none hko] at hs;cases hs
  | some k =>
   obtain ⟨op,nm,n,kids⟩:=t
   rw [shape_some (k:=k) (by exact hko)] at hs
   simp only [Bool.and_eq_true,decide_eq_true_eq] at hs
   obtain ⟨⟨_,hlen,_⟩,hss⟩:=hs
   rw [parts_kids] at hx
   rcases List.mem_cons.1 hx with rfl | hx
   ·simp only [Ty.op] at hko
    by_cases h11:op = 11
    ·subst h11
     have hk:k.length = 2:=by
      have:kidsS 11 = some [116,114]:=by decide
      rw [this] at hko
      injection hko with hko
      rw [← hko];rfl
     rw [hk] at hlen
     match kids,hlen,ih,hss with
     | [a,b],_,ih,hss =>
      obtain ⟨c,hc⟩:=shapes_mem iw _ _ hss b (by simp)
      exact fun _=>ih b (by simp [Ty.kids]) c hc b (by rw [parts_eq];exact List.mem_cons_self ..)
    ·match kids with
     | []=>exact h11
     | [a]=>exact h11
     | [a,b]=>exact fun h=>absurd h h11
     | a :: b :: c :: l=>exact h11
   ·obtain ⟨y,hy,hx⟩:=List.mem_flatMap.1 hx
    obtain ⟨c,hc⟩:=shapes_mem iw _ _ hss y hy
    exact ih y hy c hc x hx
def isVar (t:Ty):Bool:=(t.op == 7) || (t.op == 10)
def varsL:List Ty → List Int → List Int
 | [],acc=>acc
 | t :: ts,acc=>varsL ts (if isVar t = true ∧ t.n ∉ acc then acc ++ [t.n] else acc)
def varsS (t:Ty):List Int:=varsL (canonS t).parts []
theorem varsL_snoc:∀ (ts:List Ty) (acc:List Int) (t:Ty),varsL (ts ++ [t]) acc = (if isVar t = true ∧ t.n ∉ varsL ts acc then varsL ts acc ++ [t.n] else varsL ts acc)
 | [],_,_=>rfl
 | u :: us,acc,t=>varsL_snoc us (if isVar u = true ∧ u.n ∉ acc then acc ++ [u.n] else acc) t
theorem varsL_len:∀ (ts:List Ty) (acc:List Int),(varsL ts acc).length ≤ acc.length + ts.length
 | [],acc=>by simp [varsL]
 | u :: us,acc=>by
  rw [varsL]
  have:=varsL_len us (if isVar u = true ∧ u.n ∉ acc then acc ++ [u.n] else acc)
  have h2:(if isVar u = true ∧ u.n ∉ acc then acc ++ [u.n] else acc).length ≤ acc.length + 1:=by split <;> simp
  simp only [List.length_cons]
  omega
theorem shape_in {W:ByteArray → Bool} {t:Ty} {s:Int} (h:shapeB W t s = true):∃ k,kidsS t.op = some k ∧ (decide (8 ≤ t.op) == (s == 114)) = true ∧ t.kids.length = k.length ∧ 0 ≤ t.n ∧ shapesB W t.kids k = true:=by
 rw [shape_eq] at h
 cases hk:kidsS t.op with
 | none=>unfold headB at h;rw [hk] at h;simp at h
 | some k =>
  unfold headB at h
  rw [hk] at h
  simp only [Bool.and_eq_true,decide_eq_true_eq,Option.getD_some] at h
  exact ⟨k,rfl,h.1.1,h.1.2.1,h.1.2.2.2.1,h.2⟩
theorem shape_ty {W:ByteArray → Bool} {t:Ty} (h:shapeB W t 116 = true):0 ≤ t.n ∧ (((t.op = 1 ∨ t.op = 2 ∨ t.op = 3 ∨ t.op = 7) ∧ t.kids = []) ∨ (t.op = 4 ∧ ∃ a b,t.kids = [a,b] ∧ shapeB W a 116 = true ∧ shapeB W b 116 = true) ∨ ((t.op = 5 ∨ t.op = 6) ∧ ∃ a,t.kids = [a] ∧ shapeB W a 114 = true)):=by
 obtain ⟨k,hk,h1,h2,h3,h4⟩:=shape_in h
 refine ⟨h3,?_⟩
 have h1:¬ 8 ≤ t.op:=fun h8=>by rw [decide_eq_true h8] at h1;exact absurd h1 (by decide)
 unfold kidsS at hk
 split at hk
 ·rename_i ho
  injection hk with hk;subst hk
  exact .inl ⟨by omega,List.eq_nil_of_length_eq_zero h2⟩
 ·split at hk
  ·rename_i ho
   injection hk with hk;subst hk
   match t.kids,h2,h4 with
   | [a,b],_,h4=>simp only [shapesB,Bool.and_eq_true] at h4;exact .inr (.inl ⟨ho,a,b,rfl,h4.1,h4.2.1⟩)
  ·split at hk
   ·rename_i ho
    injection hk with hk;subst hk
    match t.kids,h2,h4 with
    | [a],_,h4=>simp only [shapesB,Bool.and_eq_true] at h4;exact .inr (.inr ⟨ho,a,rfl,h4.1⟩)
   ·split at hk
    ·omega
    ·cases hk
theorem shape_rw {W:ByteArray → Bool} {t:Ty} (h:shapeB W t 114 = true):0 ≤ t.n ∧ (((t.op = 8 ∨ t.op = 9 ∨ t.op = 10) ∧ t.kids = []) ∨ (t.op = 11 ∧ ∃ a b,t.kids = [a,b] ∧ shapeB W a 116 = true ∧ shapeB W b 114 = true)):=by
 obtain ⟨k,hk,h1,h2,h3,h4⟩:=shape_in h
 refine ⟨h3,?_⟩
 have h1:8 ≤ t.op:=by
  by_cases h8:8 ≤ t.op
  ·exact h8
  ·rw [decide_eq_false h8] at h1;exact absurd h1 (by decide)
 unfold kidsS at hk
 split at hk
 ·rename_i ho
  injection hk with hk;subst hk
  exact .inl ⟨by omega,List.eq_nil_of_length_eq_zero h2⟩
 ·split at hk
  ·omega
  ·split at hk
   ·omega
   ·split at hk
    ·rename_i ho
     injection hk with hk;subst hk
     match t.kids,h2,h4 with
     | [a,b],_,h4=>simp only [shapesB,Bool.and_eq_true] at h4;exact .inr ⟨ho,a,b,rfl,h4.1,h4.2.1⟩
    ·cases hk
def rowW (g:Ty → List UInt8):Bool → List (ByteArray × Ty) → List UInt8
 | _,[]=>[]
 | first,f :: fs=>(if first = true then [] else [44]) ++ (f.1.data.toList ++ (58 :: (g f.2 ++ rowW g false fs)))
def tailW (t:Ty):List UInt8:=if t.op = 9 then [124,63] else if t.op = 10 then 124 :: 39 :: Lib.itoa t.n else []
def rowT (g:Ty → List UInt8) (t:Ty):List UInt8:=rowW g true (fieldsS t) ++ tailW (tailS t)
def fromW (g:Ty → List UInt8) (t:Ty):List UInt8:=if t.op = 4 then 40 :: (g t ++ [41]) else g t
def nodeW (g:Ty → List UInt8) (t:Ty):List UInt8 :=
 if t.op = 1 then [73,110,116] else if t.op = 2 then [66,111,111,108] else if t.op = 3 then [63] else if t.op = 7 then 39 :: Lib.itoa t.n else
 if t.op = 5 then (match t.kids with | [a]=>123 :: (rowT g a ++ [125]) | _=>[]) else if t.op = 6 then (match t.kids with | [a]=>60 :: (rowT g a ++ [62]) | _=>[]) else
 if t.op = 4 then (match t.kids with | [a,b]=>fromW g a ++ (45 :: 62 :: g b) | _=>[]) else []
def txtF:Nat → Ty → List UInt8
 | 0,_=>[]
 | m + 1,t=>nodeW (txtF m) t
def txtS (t:Ty):List UInt8:=txtF t.parts.length t
theorem rowW_congr {g g':Ty → List UInt8}:∀ (fs:List (ByteArray × Ty)) (b:Bool),(∀ f ∈ fs,g f.2 = g' f.2) → rowW g b fs = rowW g' b fs
 | [],_,_=>rfl
 | f :: fs,b,h=>by rw [rowW,rowW,h f (List.mem_cons_self ..),rowW_congr fs false fun x hx=>h x (List.mem_cons_of_mem _ hx)]
theorem rowT_congr {g g':Ty → List UInt8} (t:Ty) (h:∀ x:Ty,x.parts.length < t.parts.length → g x = g' x):rowT g t = rowT g' t:=by
 unfold rowT
 rw [rowW_congr _ true fun f hf=>h f.2 (fields_less _ t (Nat.le_refl _) f hf)]
theorem nodeW_congr {g g':Ty → List UInt8} (t:Ty) (h:∀ x:Ty,x.parts.length < t.parts.length → g x = g' x):nodeW g t = nodeW g' t:=by
 have hkl:=kids_le t
 unfold nodeW
 match hk:t.kids with
 | []=>rfl
 | [a] =>
  have h1:=hkl.2 a (by rw [hk];simp)
  dsimp only
  rw [rowT_congr a fun x hx=>h x (by omega)]
 | [a,b] =>
  have h1:=hkl.2 a (by rw [hk];simp)
  have h2:=hkl.2 b (by rw [hk];simp)
  dsimp only
  unfold fromW
  rw [h a (by omega),h b (by omega)]
 | a :: b :: c :: l=>rfl
theorem txt_fuel:∀ (n m:Nat) (t:Ty),t.parts.length ≤ n → t.parts.length ≤ m → txtF n t = txtF m t
 | 0,_,t,h,_=>by have:=parts_pos t;omega
 | _ + 1,0,t,_,h=>by have:=parts_pos t;omega
 | n + 1,m + 1,t,h1,h2=>by rw [txtF,txtF];exact nodeW_congr t fun x hx=>txt_fuel n m x (by omega) (by omega)
theorem txt_eq (t:Ty):txtS t = nodeW txtS t:=by
 unfold txtS
 have:=parts_pos t
 obtain ⟨m,hm⟩:∃ m,t.parts.length = m + 1:=⟨t.parts.length - 1,by omega⟩
 rw [hm,txtF]
 exact nodeW_congr t fun x hx=>txt_fuel m _ x (by omega) (Nat.le_refl _)
theorem rowT_at {g:Ty → List UInt8} (b:Bool) {t x y:Ty} (ho:t.op = 11) (hk:t.kids = [x,y]):rowW g b (fieldsS t) ++ tailW (tailS t) = (if b = true then [] else [44]) ++ (t.name.data.toList ++ (58 :: (g x ++ (rowW g false (fieldsS y) ++ tailW (tailS y))))):=by
 obtain ⟨op,nm,n,ks⟩:=t
 have ho:op = 11:=ho
 have hk:ks = [x,y]:=hk
 subst ho;subst hk
 rw [fieldsS,if_pos rfl,tailS,if_pos rfl,rowW]
 simp [Ty.name]
section
def plainO:List O → Bool
 | []=>true
 | .box _ :: l=>plainO l
 | .row _ _ _ :: l=>plainO l
 | .mp _ _ :: l=>plainO l
 | _=>false
theorem plainO_at:∀ {l:List O},plainO l = true → ∀ {i:Nat} {o:O},l[i]? = some o → (∃ cs,o = .box cs) ∨ (∃ z e r,o = .row z e r) ∨ ∃ k es,o = .mp k es
 | [],_,i,o,h=>by simp at h
 | x :: l,hp,i,o,h=>by
  cases x with
  | box cs=>cases i with
   | zero=>simp at h;exact .inl ⟨cs,h.symm⟩
   | succ i=>exact plainO_at (l:=l) hp (i:=i) (by simpa using h)
  | row z e r=>cases i with
   | zero=>simp at h;exact .inr (.inl ⟨z,e,r,h.symm⟩)
   | succ i=>exact plainO_at (l:=l) hp (i:=i) (by simpa using h)
  | mp k es=>cases i with
   | zero=>simp at h;exact .inr (.inr ⟨k,es,h.symm⟩)
   | succ i=>exact plainO_at (l:=l) hp (i:=i) (by simpa using h)
  | _=>cases hp
def selfK (k:Nat):Option O → V
 | some (.row _ _ _)=>.own k
 | _=>.jk
def selfV (os:List O):List V:=(List.range os.length).map fun k=>selfK k os[k]?
theorem specs_of_sound {f:Nat} {vs:List V} {os:List O} {Q:List V → Prop} (hos:plainO os = true) (h:SoundO f vs os fun x o' ks=>ks = [] ∧ o' = os ∧ ∃ res,x = pkgV res ∧ Q res):SpecS f vs os (fun res o2=>Q res ∧ o2 = os):=by
 refine ⟨h.1,fun I w g args hrel=>?_⟩
 have hargs:AtVs I w g args vs:=hrel.tmp
 have hself:AtVs I w g ((List.range os.length).map fun k=>gv (g k)) (selfV os):=by
  refine ⟨by unfold selfV;simp,fun i u c hu hc=>?_⟩
  unfold selfV at hc
  rw [List.getElem?_map] at hu hc
  cases hr:(List.range os.length)[i]? with
  | none=>rw [hr] at hu;cases hu
  | some k =>
   rw [hr] at hu hc
   simp only [Option.map_some,Option.some.injEq] at hu hc
   subst hu
   subst hc
   have hk:k < os.length:=by
    have:=List.mem_of_getElem? hr
    simpa using this
   cases ho:os[k]? with
   | none=>exact AtV.jk _
   | some o =>
    cases o with
    | row z e rows =>
     obtain ⟨us,hw,_⟩:=hrel.obj k _ ho
     have e:=own_gv hw
     obtain ⟨A,cap,hs⟩:=own_slice hw
     show AtV I w g (gv (g k)) (.own k)
     rw [e,hs]
     exact .own _ _ _ _ (by rw [e,hs])
    | box cs=>exact AtV.jk _
    | mp kt es=>exact AtV.jk _
    | kl js=>exact AtV.jk _
    | it P=>exact AtV.jk _
    | ob T vs=>exact AtV.jk _
    | dead=>exact AtV.jk _
 have hrel':RelI I (Xof g os) ⟨w,g,os.length,[]⟩ I g ⟨vs ++ selfV os,os⟩ { tmps:=(args ++ (List.range os.length).map fun k=>gv (g k)).toArray,defers:=[] } w :=
  ⟨hrel.im,hrel.lt,hrel.fr,hrel.kp,hrel.lo,hrel.st,hrel.obj,hrel.dis,hrel.out,hargs.append hself,rfl,hrel.dfr.2⟩
 refine (h.2 I (Xof g os) ⟨w,g,os.length,[]⟩ I g _ _ w args hrel' hargs).mono ?_
 rintro e w' ⟨v,x,o',ks,I',g',rfl,h',hv,rfl,rfl,res,rfl,hQ⟩
 obtain ⟨us,rfl,hus⟩:=unpkg hv
 refine ⟨us,res,_,I',g',rfl,⟨⟨hQ,rfl⟩,fun i hi=>?_⟩,⟨h'.im,h'.lt,h'.fr,h'.kp,h'.lo,h'.st,h'.obj,h'.dis,h'.out,hus,rfl,h'.dfr.2⟩⟩
 have ho:o'[i]? = some o'[i]:=List.getElem?_eq_getElem hi
 rcases plainO_at hos ho with ⟨cs,e⟩ | ⟨z,et,r,e⟩ | ⟨k,es,e⟩
 ·rw [e] at ho
  obtain ⟨b,us,t,h1,_⟩:=hrel.obj i _ ho
  exact h'.st i hi (by show isRef (g i) = true;rw [h1];rfl)
 ·rw [e] at ho
  obtain ⟨us1,hw1,_⟩:=hrel.obj i _ ho
  obtain ⟨us2,hw2,_⟩:=h'.obj i _ ho
  have e2:AtVs I' w' g' (args ++ (List.range o'.length).map fun k=>gv (g k)) (vs ++ selfV o'):=h'.tmp
  have e3:=e2.2 (args.length + i) (gv (g i)) (.own i) (by rw [List.getElem?_append_right (by omega)];simp [hi]) (by
   rw [hargs.1,List.getElem?_append_right (by omega)]
   unfold selfV
   simp [hi,e,selfK])
  rw [← own_gv hw1,← own_gv hw2]
  exact e3.unown.1.symm
 ·rw [e] at ho
  obtain ⟨b,us,t,h1,_⟩:=hrel.obj i _ ho
  exact h'.st i hi (by show isRef (g i) = true;rw [h1];rfl)
def coerV (os:List O) (x:V):V:=match toR os x with | some r=>resR r | none=>x
def coerL (os:List O):List V → List V
 | []=>[]
 | x :: l=>coerV os x :: coerL os l
theorem coer_at {I0:Nat → Nat → Prop} {X:Nat → Prop} {w0:W0} {I:Nat → Nat → Prop} {g:Nat → Value} {s:S} {a:Act} {w:World} (h:RelI I0 X w0 I g s a w):∀ {us:List Value} {vs:List V},AtVs I w g us vs → AtVs I w g us (coerL s.o vs)
 | us,[],hv=>hv
 | us,x :: vs,hv=>by
  obtain ⟨u,us',rfl,h1,h2⟩:=hv.uncons
  refine .cons ?_ (coer_at h h2)
  unfold coerV
  split
  ·rename_i r hr
   exact resR_at g (toR_at h h1 hr)
  ·exact h1
def doneR (n:Nat) (K:List V → List O → Prop) (res:List V) (s:S):Prop:=match getO (trimK 0 s.o) n with
 | .kl []=>match low3 n (pkgV (coerL s.o res)) with | true=>K (coerL s.o res) (takeO n (trimK 0 s.o)) | false=>False
 | _=>False
def retR (a:Ar) (n:Nat) (K:List V → List O → Prop) (l:List ResultVar):Vm.X → S → Prop
 | .exit _,_=>False
 | .normal,s=>resO a s l (fun vs=>doneR n K vs s)
 | .ret,s=>resO a s l (fun vs=>doneR n K vs s)
theorem rin_ok {f:Nat} {fn:Func} {c:Code} {vs:List V} {o:List O} {Q:List V → Prop} (ho:plainO o = true) (hf:Tryz.prog.funcs[f]? = some fn) (hb:fn.body = some c) (hn:(fn.name != "runtime.NumGoroutine") = true) (hc:okCode Tryz.prog c = true) (hr:okRes fn.results.toList = true)
  (h:exec real c (startI vs o (fn.ntmps - lenL vs)) (fun x s=>retR real (lenO o) (fun res o'=>o' = o ∧ Q res) fn.results.toList x s)):SoundO f vs o fun x o' ks=>ks = [] ∧ o' = o ∧ ∃ res,x = pkgV res ∧ Q res:=by
 refine ⟨by unfold fnOk;rw [hf];simp only [hn,hb];rfl,?_⟩
 intro I0 X w0 I g t a w us hrel hv
 refine calls_of_wp hf hb ?_
 have hsz:us.toArray.size = lenL vs:=by rw [lenL_is];simp [hv.1]
 rw [hsz]
 obtain ⟨g',hg,hgn,h1⟩:=hrel.rebase hv
 have hstart:RelI I (Xof g' (snocO o (.kl []))) ⟨w,g',o.length + 1,[]⟩ I g' (startI vs o (fn.ntmps - lenL vs)) { tmps:=us.toArray ++ Array.replicate (fn.ntmps - lenL vs) undef,defers:=[] } w:=by
  refine ⟨h1.im,h1.lt,h1.fr,h1.kp,h1.lo,h1.st,h1.obj,h1.dis,h1.out,?_,rfl,h1.dfr.2⟩
  show AtVs I w _ (us.toArray ++ Array.replicate (fn.ntmps - lenL vs) undef).toList (appV vs (uns (fn.ntmps - lenL vs)))
  rw [appV_is,Array.toList_append,uns_is]
  refine AtVs.append h1.tmp ?_
  rw [Array.toList_replicate]
  refine ⟨by simp,fun i u c hu hc=>?_⟩
  rw [List.getElem?_replicate] at hu hc
  split at hu
  ·rename_i hi
   rw [if_pos hi] at hc
   injection hu with hu
   injection hc with hc
   subst hu;subst hc
   exact .tu [] [] rfl fun i u c hu _=>by simp at hu
  ·cases hu
 refine exec_ok c _ _ _ _ _ hc ⟨I,_,hstart⟩ h fun e s' a' w' hrel2 hk=>?_
 have key:resO real s' fn.results.toList (fun res=>doneR (lenO o) (fun res o'=>o' = o ∧ Q res) res s') → a'.defers = [] ∧ ∃ v,(results fn a'.tmps).run Tryz.prog w' = .ok v w' ∧ ∃ v' x o' ks I' g',Ending.returned v = .returned v' ∧ RelI I0 X w0 I' g' ⟨killTs ks t,o'⟩ a w' ∧ AtV I' w' g' v' x ∧ ks = [] ∧ o' = o ∧ ∃ res,x = pkgV res ∧ Q res:=fun hk=>by
  obtain ⟨I2,g2,h2⟩:=hrel2
  obtain ⟨us2,res,r1,r2,r3⟩:=resultsO_at h2 hr hk
  unfold doneR at r3
  split at r3 <;> try exact r3.elim
  rename_i hks
  split at r3 <;> try exact r3.elim
  rename_i hlow
  obtain ⟨r4,hQ⟩:=r3
  have hks':=getO_some hks (by simp)
  rw [lenO_is] at hks' r4 hlow
  rw [takeO_is] at r4
  have h2':=h2.trimKl
  obtain ⟨hcut,h3⟩:=hrel.unbase hg hgn h2' hks'
  have e:((trimK 0 s'.o).set o.length .dead).take o.length = o:=by
   rw [List.take_set_of_le (Nat.le_refl _),r4]
  have h4:=h3.trim (n:=o.length) hrel.lo (by show o.length ≤ ((trimK 0 s'.o).set _ _).length;rw [List.length_set,trimK_len];have:=h2.lo;show o.length ≤ s'.o.length;have h5:o.length + 1 ≤ s'.o.length:=h2.lo;omega) hcut (by show lowO _ (((trimK 0 s'.o).set _ _).take _) = true;rw [e];have:=hrel.low;exact this)
  have h5:(⟨killTs [] t,((trimK 0 s'.o).set o.length .dead).take o.length⟩:S) = ⟨t,o⟩:=by rw [e];rfl
  refine ⟨h2.dfr.1,_,r1,pkg us2,pkgV (coerL s'.o res),o,[],I2,cutG o.length g2,rfl,?_,low3_at (fun k hk=>if_pos hk) (pkg_at' (coer_at h2 r2)) hlow,rfl,rfl,_,rfl,hQ⟩
  show RelI I0 X w0 I2 _ ⟨t,o⟩ a w'
  rw [← h5]
  exact h4
 cases e with
 | normal=>exact key hk
 | exit i=>exact hk.elim
 | ret=>exact key hk
theorem specr_of {f:Nat} {fn:Func} {c:Code} {vs:List V} {os:List O} {Q:List V → Prop} (hf:Tryz.prog.funcs[f]? = some fn) (hb:fn.body = some c) (hn:(fn.name != "runtime.NumGoroutine") = true) (hc:okCode Tryz.prog c = true) (hr:okRes fn.results.toList = true) (hos:plainO os = true)
  (h:∀ qa qb qc qd qe qg qh qi qj qk ql qm qo qp qq qt qu qv qw qx qy qz va vc vd ve vf vg vh vj vk vl vm vn vo vp vq vr vt vu vv vw vx,Ar.mk qa qb qc qd qe qg qh qi qj qk ql qm qo qp qq qt qu qv qw qx qy qz va vc vd ve vf vg vh vj vk vl vm vn vo vp vq vr vt vu vv vw vx = real → ∀ K:List V → List O → Prop,(∀ res,Q res → K res os) → exec (Ar.mk qa qb qc qd qe qg qh qi qj qk ql qm qo qp qq qt qu qv qw qx qy qz va vc vd ve vf vg vh vj vk vl vm vn vo vp vq vr vt vu vv vw vx) c (startI vs os (fn.ntmps - lenL vs)) (fun x s=>retR (Ar.mk qa qb qc qd qe qg qh qi qj qk ql qm qo qp qq qt qu qv qw qx qy qz va vc vd ve vf vg vh vj vk vl vm vn vo vp vq vr vt vu vv vw vx) (lenO os) K fn.results.toList x s)):SpecS f vs os (fun res o2=>Q res ∧ o2 = os) :=
 specs_of_sound hos (rin_ok hos hf hb hn hc hr (h _ _ _ _ _ _ _ _ _ _ _ _ _ _ _ _ _ _ _ _ _ _ _ _ _ _ _ _ _ _ _ _ _ _ _ _ _ _ _ _ _ _ _ (show Ar.mk real.wrap real.add real.sub real.mul real.quo real.rem real.bits real.lt real.le real.eq real.nz real.seq real.slt real.bytes real.cat real.fits real.slen real.sget real.ssub real.txt real.byt real.nat real.len real.get real.sub2 real.app real.set real.room real.mlook real.mput real.deq real.rep real.call real.calld real.callo real.callx real.new real.lit real.keep real.next real.ext real.reg real.loop = real from rfl) _ fun res hq=>⟨rfl,hq⟩))
section
variable {qa:IntKind → Int → Int} {qb:Int → Int → Int} {qc:Int → Int → Int} {qd:Int → Int → Int} {qe:Int → Int → Int} {qg:Int → Int → Int} {qh:BinOp → IntKind → Int → IntKind → Int → Option Int} {qi:Int → Int → Bool} {qj:Int → Int → Bool} {qk:Int → Int → Bool} {ql:Int → Prop → Prop} {qm:List UInt8 → List UInt8 → Bool} {qo:List UInt8 → List UInt8 → Bool} {qp:ByteArray → List UInt8} {qq:ByteArray → ByteArray → ByteArray} {qt:ByteArray → ByteArray → Prop → Prop} {qu:ByteArray → Int} {qv:ByteArray → Int → Option Int} {qw:ByteArray → Int → Int → Option ByteArray} {qx:List (List D) → Option ByteArray} {qy:ByteArray → List (List D)} {qz:Int → Nat → Option Nat} {va:List (List D) → Int} {vc:List (List D) → Int → Option (List D)} {vd:List (List D) → Int → Int → Option (List (List D))} {ve:List (List D) → List (List D) → List (List D)} {vf:List (List D) → Int → List D → List (List D)} {vg:List (List D) → List (List D) → Prop → Prop} {vh:List (R × R) → R → Option R} {vj:List (R × R) → R → R → List (R × R)} {vk:List D → List D → Bool} {vl:Int → List D → (List (List D) → Prop) → Prop} {vm:Nat → List R → (List R → Prop) → Prop} {vn:Nat → List V → List O → (V → Prop) → Prop} {vo:Nat → List V → S → (V → S → Prop) → Prop} {vp:Nat → List V → List Nat → S → (V → S → Prop) → Prop} {vq:Nat → (Bool → Prop) → Prop} {vr:Nat → (Bool → Prop) → Prop} {vt:Nat → (List V → List O → Prop) → List V → S → Prop} {vu:(S → Prop) → S → Prop} {vv:Op → Option Nat → S → (S → Prop) → Prop} {vw:Array Oper → S → (S → Prop) → Prop} {vx:Code → (S → (X → S → Prop) → Prop) → S → (X → S → Prop) → Prop}
theorem rd_at (hA:Ar.mk qa qb qc qd qe qg qh qi qj qk ql qm qo qp qq qt qu qv qw qx qy qz va vc vd ve vf vg vh vj vk vl vm vn vo vp vq vr vt vu vv vw vx = real) {f:Nat} {vs:List V} {s:S} {K:V → S → Prop} (ks:List Nat) {vs':List V} {os':List O} {Q:List V → Prop} (h:SpecS f vs' os' (fun res o2=>Q res ∧ o2 = os')) (hs:SubOk ks vs' os' vs s) (hb:backO ks (upOs ks (lenO s.o) os') s.o = s.o) (hK:∀ res,Q res → K (pkgV (upT ks (lenO s.o) res)) s):vo f vs s K :=
 calls_at hA ks h hs fun res os2 ⟨hq,e⟩=>by subst e;rw [hb];exact hK res hq
end
end
def dd:List Nat → List Nat
 | []=>[]
 | x :: l=>match l.any (Nat.beq x) with | true=>dd l | false=>x :: dd l
section
section
variable {I0:Nat → Nat → Prop} {X:Nat → Prop} {w0:W0}
end
section
variable {qa:IntKind → Int → Int} {qb:Int → Int → Int} {qc:Int → Int → Int} {qd:Int → Int → Int} {qe:Int → Int → Int} {qg:Int → Int → Int} {qh:BinOp → IntKind → Int → IntKind → Int → Option Int} {qi:Int → Int → Bool} {qj:Int → Int → Bool} {qk:Int → Int → Bool} {ql:Int → Prop → Prop} {qm:List UInt8 → List UInt8 → Bool} {qo:List UInt8 → List UInt8 → Bool} {qp:ByteArray → List UInt8} {qq:ByteArray → ByteArray → ByteArray} {qt:ByteArray → ByteArray → Prop → Prop} {qu:ByteArray → Int} {qv:ByteArray → Int → Option Int} {qw:ByteArray → Int → Int → Option ByteArray} {qx:List (List D) → Option ByteArray} {qy:ByteArray → List (List D)} {qz:Int → Nat → Option Nat} {va:List (List D) → Int} {vc:List (List D) → Int → Option (List D)} {vd:List (List D) → Int → Int → Option (List (List D))} {ve:List (List D) → List (List D) → List (List D)} {vf:List (List D) → Int → List D → List (List D)} {vg:List (List D) → List (List D) → Prop → Prop} {vh:List (R × R) → R → Option R} {vj:List (R × R) → R → R → List (R × R)} {vk:List D → List D → Bool} {vl:Int → List D → (List (List D) → Prop) → Prop} {vm:Nat → List R → (List R → Prop) → Prop} {vn:Nat → List V → List O → (V → Prop) → Prop} {vo:Nat → List V → S → (V → S → Prop) → Prop} {vp:Nat → List V → List Nat → S → (V → S → Prop) → Prop} {vq:Nat → (Bool → Prop) → Prop} {vr:Nat → (Bool → Prop) → Prop} {vt:Nat → (List V → List O → Prop) → List V → S → Prop} {vu:(S → Prop) → S → Prop} {vv:Op → Option Nat → S → (S → Prop) → Prop} {vw:Array Oper → S → (S → Prop) → Prop} {vx:Code → (S → (X → S → Prop) → Prop) → S → (X → S → Prop) → Prop}
end
end
end Go.Proofs.YtahpnackkmbmgaaGreatDoor.Vm
end
section
namespace Go.Proofs.YtahpnackkmbmgaaGreatDoor.Vm
open Go.RowKit
set_option maxRecDepth 100000
set_option maxHeartbeats 4000000
def WrU (f:Nat) (t:Ty) (out:List UInt8):Prop:=∀ l:List UInt8,l.length + out.length ≤ 137438953472 → SpecO f [.ptr 0 0,.ag (ofD (cT t))] (penU l) (fun res os=>res = [] ∧ os = penU (l ++ out))
theorem penU_eq (l:List UInt8):penU l = [.box [.ptr 0 0,.own 1],.row false 5 (rU l)]:=rfl
theorem write_leaf (t:Ty) (hop:t.op = 1 ∨ t.op = 2 ∨ t.op = 3):WrU 25 t (txtS t):=by
 intro l hl
 rw [txt_eq] at hl ⊢
 unfold nodeW at hl ⊢
 have c1:=wsU_s l ⟨#[73,110,116]⟩
 have c2:=wsU_s l ⟨#[66,111,111,108]⟩
 have c3:=wbU_s l 63
 obtain ⟨op,nm,n,ks⟩:=t
 simp only [Ty.op] at hop hl ⊢
 rw [cT]
 generalize rT ks = K
 rcases hop with rfl | rfl | rfl
 ·replace c1:=c1 (by rw [show (⟨#[73,110,116]⟩:ByteArray).size = 3 from rfl];simpa using hl)
  show SpecO _ _ _ (fun res os=>res = [] ∧ os = penU (l ++ btl ⟨#[73,110,116]⟩))
  clear c2 c3
  rw [penU_eq] at *
  rw [penU_eq] at *
  generalize rU (l ++ btl ⟨#[73,110,116]⟩) = R1 at *
  generalize rU l = R0 at *
  clear hl
  refine speco_of Tryz.func25 rfl (by kernel_rfl) (by kernel_rfl) (by kernel_rfl) fun qa qb qc qd qe qg qh qi qj qk ql qm qo qp qq qt qu qv qw qx qy qz va vc vd ve vf vg vh vj vk vl vm vn vo vp vq vr vt vu vv vw vx hA=>?_
  obtain ⟨e1,e2,e3,e4,e5,e6,e7,e8,e9⟩:=ar_at hA
  have h1:qk 1 1 = true:=e9 _ _
  iterate 2 (try cbv;repeat ((first | with_reducible apply next_at hA | rw [h1]);cbv))
  try simp (maxSteps:=4000000) only [nc] at *
  refine callo_at hA [0,1] c1 ⟨rfl,rfl,rfl,rfl,rfl,rfl,rfl⟩ ?_
  rintro _ _ ⟨rfl,rfl⟩
  iterate 2 (try cbv;repeat ((first | with_reducible apply next_at hA);cbv))
  try simp (maxSteps:=4000000) only [nc] at *
  exact keep_is hA [0,1] ⟨rfl,rfl,rfl,rfl,rfl,rfl,rfl,rfl⟩ ⟨rfl,rfl⟩
 ·replace c2:=c2 (by rw [show (⟨#[66,111,111,108]⟩:ByteArray).size = 4 from rfl];simpa using hl)
  show SpecO _ _ _ (fun res os=>res = [] ∧ os = penU (l ++ btl ⟨#[66,111,111,108]⟩))
  clear c1 c3
  rw [penU_eq] at *
  rw [penU_eq] at *
  generalize rU (l ++ btl ⟨#[66,111,111,108]⟩) = R1 at *
  generalize rU l = R0 at *
  clear hl
  refine speco_of Tryz.func25 rfl (by kernel_rfl) (by kernel_rfl) (by kernel_rfl) fun qa qb qc qd qe qg qh qi qj qk ql qm qo qp qq qt qu qv qw qx qy qz va vc vd ve vf vg vh vj vk vl vm vn vo vp vq vr vt vu vv vw vx hA=>?_
  obtain ⟨e1,e2,e3,e4,e5,e6,e7,e8,e9⟩:=ar_at hA
  have h1:qk 2 1 = false:=e9 _ _
  have h2:qk 2 2 = true:=e9 _ _
  iterate 2 (try cbv;repeat ((first | with_reducible apply next_at hA | rw [h1] | rw [h2]);cbv))
  try simp (maxSteps:=4000000) only [nc] at *
  refine callo_at hA [0,1] c2 ⟨rfl,rfl,rfl,rfl,rfl,rfl,rfl⟩ ?_
  rintro _ _ ⟨rfl,rfl⟩
  iterate 2 (try cbv;repeat ((first | with_reducible apply next_at hA);cbv))
  try simp (maxSteps:=4000000) only [nc] at *
  exact keep_is hA [0,1] ⟨rfl,rfl,rfl,rfl,rfl,rfl,rfl,rfl⟩ ⟨rfl,rfl⟩
 ·replace c3:=c3 (by simpa using hl)
  show SpecO _ _ _ (fun res os=>res = [] ∧ os = penU (l ++ [63]))
  replace c3:SpecO 46 [.ptr 0 0,vi .u8 63] _ _:=c3
  clear c1 c2
  rw [penU_eq] at *
  rw [penU_eq] at *
  generalize rU (l ++ [63]) = R1 at *
  generalize rU l = R0 at *
  clear hl
  refine speco_of Tryz.func25 rfl (by kernel_rfl) (by kernel_rfl) (by kernel_rfl) fun qa qb qc qd qe qg qh qi qj qk ql qm qo qp qq qt qu qv qw qx qy qz va vc vd ve vf vg vh vj vk vl vm vn vo vp vq vr vt vu vv vw vx hA=>?_
  obtain ⟨e1,e2,e3,e4,e5,e6,e7,e8,e9⟩:=ar_at hA
  have h1:qk 3 1 = false:=e9 _ _
  have h2:qk 3 2 = false:=e9 _ _
  have h3:qk 3 3 = true:=e9 _ _
  iterate 2 (try cbv;repeat ((first | with_reducible apply next_at hA | rw [h1] | rw [h2] | rw [h3]);cbv))
  try simp (maxSteps:=4000000) only [nc] at *
  refine callo_at hA [0,1] c3 ⟨rfl,rfl,rfl,rfl,rfl,rfl,rfl⟩ ?_
  rintro _ _ ⟨rfl,rfl⟩
  iterate 2 (try cbv;repeat ((first | with_reducible apply next_at hA);cbv))
  try simp (maxSteps:=4000000) only [nc] at *
  exact keep_is hA [0,1] ⟨rfl,rfl,rfl,rfl,rfl,rfl,rfl,rfl⟩ ⟨rfl,rfl⟩
theorem write_var (nm:ByteArray) (n:Int) (ks:List Ty) (h0:0 ≤ n) (h1:n ≤ 9223372036854775807):WrU 25 (.mk 7 nm n ks) (39 :: Lib.itoa n):=by
 intro l hl
 have c1:=wsU_s l (⟨#[39]⟩ ++ ⟨(Lib.itoa n).toArray⟩)
 have hi:=itoa_c n (by omega) h1
 have hb:btl (⟨#[39]⟩ ++ ⟨(Lib.itoa n).toArray⟩:ByteArray) = 39 :: Lib.itoa n:=by unfold btl;simp
 have hz:(⟨#[39]⟩ ++ ⟨(Lib.itoa n).toArray⟩:ByteArray).size = (39 :: Lib.itoa n).length:=by rw [← hb,btl_size]
 replace c1:=c1 (by rw [hz];exact hl)
 rw [hb] at c1
 have hfit:(⟨#[39]⟩:ByteArray).size + (⟨(Lib.itoa n).toArray⟩:ByteArray).size ≤ 4611686018427387904:=by
  have h2:(⟨#[39]⟩ ++ ⟨(Lib.itoa n).toArray⟩:ByteArray).size = (⟨#[39]⟩:ByteArray).size + (⟨(Lib.itoa n).toArray⟩:ByteArray).size:=by simp
  rw [← h2,hz];omega
 rw [cT]
 generalize rT ks = K
 clear hz hb
 rw [penU_eq] at *
 rw [penU_eq] at *
 generalize rU (l ++ 39 :: Lib.itoa n) = R1 at *
 generalize rU l = R0 at *
 clear hl
 generalize (⟨(Lib.itoa n).toArray⟩:ByteArray) = D at *
 obtain ⟨S,hS⟩:∃ S,S = (⟨#[39]⟩ ++ D:ByteArray):=⟨_,rfl⟩
 rw [← hS] at c1
 refine speco_of Tryz.func25 rfl (by kernel_rfl) (by kernel_rfl) (by kernel_rfl) fun qa qb qc qd qe qg qh qi qj qk ql qm qo qp qq qt qu qv qw qx qy qz va vc vd ve vf vg vh vj vk vl vm vn vo vp vq vr vt vu vv vw vx hA=>?_
 obtain ⟨e1,e2,e3,e4,e5,e6,e7,e8,e9⟩:=ar_at hA
 obtain ⟨s1,s2,s3,s4,s5,s6,s7⟩:=str_at hA
 have h1:qk 7 1 = false:=e9 _ _
 have h2:qk 7 2 = false:=e9 _ _
 have h3:qk 7 3 = false:=e9 _ _
 have h7:qk 7 7 = true:=e9 _ _
 have hc:qq ⟨#[39]⟩ D = S:=by rw [s4,hS]
 iterate 2 (try cbv;repeat ((first | with_reducible apply next_at hA | rw [h1] | rw [h2] | rw [h3] | rw [h7] | refine call_at hA _ hi rfl ?_ | refine calm_at hA _ hi ?_);cbv))
 try simp (maxSteps:=4000000) only [nc] at *
 refine fits_at hA hfit ?_
 cbv
 rw [hc]
 iterate 2 (try cbv;repeat ((first | with_reducible apply next_at hA);cbv))
 try simp (maxSteps:=4000000) only [nc] at *
 refine callo_at hA [0,1] c1 ⟨rfl,rfl,rfl,rfl,rfl,rfl,rfl⟩ ?_
 rintro _ _ ⟨rfl,rfl⟩
 iterate 2 (try cbv;repeat ((first | with_reducible apply next_at hA);cbv))
 try simp (maxSteps:=4000000) only [nc] at *
 exact keep_is hA [0,1] ⟨rfl,rfl,rfl,rfl,rfl,rfl,rfl,rfl⟩ ⟨rfl,rfl⟩
end Go.Proofs.YtahpnackkmbmgaaGreatDoor.Vm
end
section
namespace Go.Proofs.YtahpnackkmbmgaaGreatDoor.Vm
open Go.RowKit
def Mod (t:Ty):Prop:=∀ x ∈ t.parts,x.name.size ≤ 32 ∧ 0 ≤ x.n ∧ x.n ≤ 9223372036854775807
theorem Mod.kid {t x:Ty} (h:Mod t) (hx:x ∈ t.kids):Mod x:=fun y hy=>h y (by rw [parts_kids];exact List.mem_cons_of_mem _ (List.mem_flatMap.2 ⟨x,hx,hy⟩))
theorem Mod.self {t:Ty} (h:Mod t):t.name.size ≤ 32 ∧ 0 ≤ t.n ∧ t.n ≤ 9223372036854775807:=h t (by rw [parts_eq];exact List.mem_cons_self ..)
theorem parts_one {t a:Ty} (h:t.kids = [a]):t.parts.length = 1 + a.parts.length:=by rw [parts_kids,h];simp;omega
theorem parts_two {t a b:Ty} (h:t.kids = [a,b]):t.parts.length = 1 + a.parts.length + b.parts.length:=by rw [parts_kids,h];simp;omega
theorem row_end {t:Ty} (h:¬ (t.op = 11 ∧ ∃ a b,t.kids = [a,b])):fieldsS t = [] ∧ tailS t = t:=by
 obtain ⟨op,nm,n,ks⟩:=t
 match ks,h with
 | [],_=>exact ⟨rfl,rfl⟩
 | [a],_=>exact ⟨rfl,rfl⟩
 | a :: b :: c :: l,_=>exact ⟨rfl,rfl⟩
 | [a,b],h =>
  have h:op ≠ 11:=fun e=>h ⟨e,a,b,rfl⟩
  unfold fieldsS tailS
  rw [if_neg h,if_neg h]
  exact ⟨rfl,rfl⟩
theorem tailW_len (t:Ty) (h:0 ≤ t.n ∧ t.n ≤ 9223372036854775807):(tailW t).length ≤ 23:=by
 have h1:=Lib.itoa_length_le t.n (by omega) h.2
 unfold tailW
 split
 ·simp
 ·split
  ·simp;omega
  ·simp
theorem txt_len:∀ (m:Nat) (t:Ty),t.parts.length ≤ m → Mod t → (txtS t).length ≤ 64 * t.parts.length ∧ ∀ b,(rowW txtS b (fieldsS t) ++ tailW (tailS t)).length ≤ 64 * t.parts.length:=by
 intro m
 induction m with
 | zero=>intro t h;have:=parts_pos t;omega
 | succ m ih =>
  intro t hm hM
  have hkl:=kids_le t
  have hp:=parts_pos t
  have hs:=hM.self
  constructor
  ·rw [txt_eq]
   unfold nodeW
   split
   ·simp;omega
   split
   ·simp;omega
   split
   ·simp;omega
   split
   ·have h1:=Lib.itoa_length_le t.n (by omega) hs.2.2
    simp;omega
   split
   ·split
    ·rename_i a hk
     have h1:=(ih a (by have:=hkl.2 a (by rw [hk];simp);omega) (hM.kid (by rw [hk];simp))).2 true
     have h2:=parts_one hk
     unfold rowT
     simp only [List.length_cons,List.length_append,List.length_nil] at h1 ⊢
     omega
    ·simp
   split
   ·split
    ·rename_i a hk
     have h1:=(ih a (by have:=hkl.2 a (by rw [hk];simp);omega) (hM.kid (by rw [hk];simp))).2 true
     have h2:=parts_one hk
     unfold rowT
     simp only [List.length_cons,List.length_append,List.length_nil] at h1 ⊢
     omega
    ·simp
   split
   ·split
    ·rename_i a b hk
     have h1:=(ih a (by have:=hkl.2 a (by rw [hk];simp);omega) (hM.kid (by rw [hk];simp))).1
     have h2:=(ih b (by have:=hkl.2 b (by rw [hk];simp);omega) (hM.kid (by rw [hk];simp))).1
     have h3:=parts_two hk
     unfold fromW
     split <;> simp only [List.length_cons,List.length_append,List.length_nil] <;> omega
    ·simp
   ·simp
  ·intro b
   by_cases h:t.op = 11 ∧ ∃ a b,t.kids = [a,b]
   ·obtain ⟨h11,x,y,hk⟩:=h
    have h1:=(ih x (by have:=hkl.2 x (by rw [hk];simp);omega) (hM.kid (by rw [hk];simp))).1
    have h2:=(ih y (by have:=hkl.2 y (by rw [hk];simp);omega) (hM.kid (by rw [hk];simp))).2 false
    have h3:=parts_two hk
    have h4:t.name.data.toList.length ≤ 32:=hs.1
    rw [rowT_at b h11 hk]
    simp only [List.length_append,List.length_cons] at h2 ⊢
    have h5:(if b = true then ([]:List UInt8) else [44]).length ≤ 1:=by split <;> simp
    omega
   ·obtain ⟨h1,h2⟩:=row_end h
    rw [h1,h2]
    have h3:=tailW_len t hs.2
    simp only [rowW,List.nil_append]
    omega
theorem txt_le {t:Ty} (h:Mod t):(txtS t).length ≤ 64 * t.parts.length:=(txt_len _ t (Nat.le_refl _) h).1
def rF (fs:List (ByteArray × Ty)):List (List D):=fs.map fun f=>.sc (.string f.1) :: cT f.2
theorem rF_len (fs:List (ByteArray × Ty)):(rF fs).length = fs.length:=by rw [rF,List.length_map]
theorem rF_get {fs:List (ByteArray × Ty)} {k:Nat} {x:ByteArray × Ty} (h:fs[k]? = some x):(rF fs)[k]? = some (.sc (.string x.1) :: cT x.2):=by rw [rF,List.getElem?_map,h];rfl
theorem cT_four (t:Ty):∃ c0 c1 c2 c3,cT t = [c0,c1,c2,c3]:=by obtain ⟨op,nm,n,ks⟩:=t;exact ⟨_,_,_,_,by rw [cT]⟩
end Go.Proofs.YtahpnackkmbmgaaGreatDoor.Vm
end
section
namespace Go.Proofs.YtahpnackkmbmgaaGreatDoor.Vm
open Go.RowKit
set_option maxRecDepth 100000
set_option maxHeartbeats 4000000
theorem cT_of (t:Ty):cT t = [.sc (.int .u8 t.op),.sc (.string t.name),.sc (.int .i64 t.n),.sl 4 (rT t.kids)]:=by cases t;rw [cT];rfl
theorem row_u (W:ByteArray → Bool) (t:Ty) (hs:shapeB W t 114 = true) (hn:∀ x ∈ t.parts,x.n ≤ 9223372036854775807) (hW:∀ x:Ty,x.parts.length < t.parts.length → x ∈ t.parts → shapeB W x 116 = true → WrU 25 x (txtS x)):WrU 48 t (rowT txtS t):=by
 intro l hl
 rw [cT_of]
 obtain ⟨op0,hop0⟩:∃ o,o = t.op:=⟨_,rfl⟩
 obtain ⟨nm0,hnm0⟩:∃ o,o = t.name:=⟨_,rfl⟩
 obtain ⟨n0,hn0⟩:∃ o,o = t.n:=⟨_,rfl⟩
 obtain ⟨K0,hK0⟩:∃ o,o = rT t.kids:=⟨_,rfl⟩
 obtain ⟨R0,hR0⟩:∃ o,o = rU l:=⟨_,rfl⟩
 obtain ⟨RE,hRE⟩:∃ o,o = rU (l ++ rowT txtS t):=⟨_,rfl⟩
 rw [penU_eq,penU_eq,← hop0,← hnm0,← hn0,← hK0,← hR0,← hRE]
 refine speco_of Tryz.func48 rfl (by kernel_rfl) (by kernel_rfl) (by kernel_rfl) fun qa qb qc qd qe qg qh qi qj qk ql qm qo qp qq qt qu qv qw qx qy qz va vc vd ve vf vg vh vj vk vl vm vn vo vp vq vr vt vu vv vw vx hA=>?_
 obtain ⟨e1,e2,e3,e4,e5,e6,e7,e8,e9⟩:=ar_at hA
 obtain ⟨r1,r2,r3,r4⟩:=row_at hA
 obtain ⟨s1,s2,s3,s4,s5,s6,s7⟩:=str_at hA
 iterate 2 (try cbv;repeat ((first | with_reducible apply next_at hA);cbv))
 try simp (maxSteps:=4000000) only [nc] at *
 refine loop_at hA (γ:=Bool × Int × ByteArray × Int × List (List D) × List (List D) × Nat) (fun x=>[(4,.d (.sc (.bool x.1)))]) (fun x=>[(1,.row false 5 x.2.2.2.2.2.1),(2,.box [.d (.sc (.int .u8 x.2.1)),.d (.sc (.string x.2.2.1)),.d (.sc (.int .i64 x.2.2.2.1)),.d (.sl 4 x.2.2.2.2.1)])])
  (fun x=>∃ (y:Ty) (pre:List UInt8),x.2 = (y.op,y.name,y.n,rT y.kids,rU pre,y.parts.length) ∧ shapeB W y 114 = true ∧ y ∈ t.parts ∧ y.parts.length ≤ t.parts.length ∧ pre ++ (rowW txtS x.1 (fieldsS y) ++ tailW (tailS y)) = l ++ rowT txtS t)
  (fun x=>x.2.2.2.2.2.2) (true,op0,nm0,n0,K0,R0,t.parts.length) ?_ ?_ ?_
 ·exact ⟨t,l,by rw [hop0,hnm0,hn0,hK0,hR0],hs,by rw [parts_eq];exact List.mem_cons_self ..,Nat.le_refl _,rfl⟩
 ·cbv
 ·intro x hinv
  obtain ⟨b,op,nm,n,K,R,N⟩:=x
  cbv
  repeat ((with_reducible apply next_at hA);cbv)
  obtain ⟨y,pre,heq,hsy,hym,hle,hby⟩:=hinv
  simp only [Prod.mk.injEq] at heq
  obtain ⟨hop,hnm,hnn,hK,hR,hN⟩:=heq
  replace hby:pre ++ (rowW txtS b (fieldsS y) ++ tailW (tailS y)) = l ++ rowT txtS t:=hby
  obtain ⟨hy0,hys⟩:=shape_rw hsy
  have hyn:=hn y hym
  have hlen:pre.length + (rowW txtS b (fieldsS y) ++ tailW (tailS y)).length ≤ 137438953472:=by
   have:=congrArg List.length hby
   simp only [List.length_append] at this ⊢
   omega
  have h11:qk op 11 = decide (op = 11):=e9 _ _
  by_cases hc:y.op = 11
  ·rw [hop,decide_eq_true hc,← hop] at h11
   obtain ⟨-,a,c,hk,hsa,hsc⟩:y.op = 11 ∧ ∃ a b,y.kids = [a,b] ∧ shapeB W a 116 = true ∧ shapeB W b 114 = true:=by
    rcases hys with ⟨h,_⟩ | h
    ·omega
    ·exact h
   have hkl:=kids_le y
   have hpa:=hkl.2 a (by rw [hk];simp)
   have hpc:=hkl.2 c (by rw [hk];simp)
   have hma:a ∈ t.parts:=parts_trans (by rw [parts_kids];exact List.mem_cons_of_mem _ (List.mem_flatMap.2 ⟨a,by rw [hk];simp,by rw [parts_eq];exact List.mem_cons_self ..⟩)) hym
   have hmc:c ∈ t.parts:=parts_trans (by rw [parts_kids];exact List.mem_cons_of_mem _ (List.mem_flatMap.2 ⟨c,by rw [hk];simp,by rw [parts_eq];exact List.mem_cons_self ..⟩)) hym
   have hwa:=hW a (by omega) hma hsa
   have hat:=rowT_at (g:=txtS) b hc hk
   rw [hat] at hby hlen
   have hlc:(cT c) = [.sc (.int .u8 c.op),.sc (.string c.name),.sc (.int .i64 c.n),.sl 4 (rT c.kids)]:=cT_of c
   have hnml:y.name.data.toList.length = y.name.size:=rfl
   simp only [List.length_append,List.length_cons] at hlen
   obtain ⟨a0,a1,a2,a3,ha⟩:=cT_four a
   obtain ⟨P1,hP1⟩:∃ P,P = pre ++ (if b = true then [] else [44]):=⟨_,rfl⟩
   have hl1:P1.length = pre.length + (if b = true then ([]:List UInt8) else [44]).length:=by rw [hP1,List.length_append]
   have c1:=wbU_s pre 44
   have c2:=wsU_s P1 nm (by rw [hnm,← hnml];omega)
   have c3:=wbU_s (P1 ++ btl nm) 58 (by rw [List.length_append,btl_size,hnm,← hnml];omega)
   have c4:=hwa (P1 ++ btl nm ++ [58]) (by rw [List.length_append,List.length_append,btl_size,hnm,← hnml];simp only [List.length_cons,List.length_nil];omega)
   have hnew:(P1 ++ btl nm ++ [58] ++ txtS a) ++ (rowW txtS false (fieldsS c) ++ tailW (tailS c)) = l ++ rowT txtS t:=by
    rw [← hby,hP1,hnm]
    show _ = pre ++ ((if b = true then [] else [44]) ++ (btl y.name ++ 58 :: (txtS a ++ (rowW txtS false (fieldsS c) ++ tailW (tailS c)))))
    simp
   rw [ha] at c4
   rw [penU_eq] at c1 c2 c3 c4
   rw [penU_eq] at c1 c2 c3 c4
   have g0:vc K 0 = some [a0,a1,a2,a3]:=by rw [r2,if_pos (by omega),hK,hk,rT,ha];rfl
   obtain ⟨cop,hcop⟩:∃ o,o = c.op:=⟨_,rfl⟩
   obtain ⟨cnm,hcnm⟩:∃ o,o = c.name:=⟨_,rfl⟩
   obtain ⟨cn,hcn⟩:∃ o,o = c.n:=⟨_,rfl⟩
   obtain ⟨cK,hcK⟩:∃ o,o = rT c.kids:=⟨_,rfl⟩
   have g1:vc K 1 = some [.sc (.int .u8 cop),.sc (.string cnm),.sc (.int .i64 cn),.sl 4 cK]:=by rw [r2,if_pos (by omega),hK,hk,rT,rT,hlc,hcop,hcnm,hcn,hcK];rfl
   obtain ⟨cN,hcN⟩:∃ o,o = c.parts.length:=⟨_,rfl⟩
   have hmu:cN < N:=by rw [hcN,hN];exact hpc
   obtain ⟨R4,hR4⟩:∃ o,o = rU (P1 ++ btl nm ++ [58] ++ txtS a):=⟨_,rfl⟩
   have fin:∃ (y:Ty) (pre:List UInt8),(cop,cnm,cn,cK,R4,cN) = (y.op,y.name,y.n,rT y.kids,rU pre,y.parts.length) ∧ shapeB W y 114 = true ∧ y ∈ t.parts ∧ y.parts.length ≤ t.parts.length ∧ pre ++ (rowW txtS false (fieldsS y) ++ tailW (tailS y)) = l ++ rowT txtS t :=
    ⟨c,P1 ++ btl nm ++ [58] ++ txtS a,by rw [hcop,hcnm,hcn,hcK,hR4,hcN],hsc,hmc,by omega,hnew⟩
   rw [← hR4] at c4
   rw [← hR] at c1
   rw [h11]
   cases b with
   | true =>
    have hP:P1 = pre:=by rw [hP1];simp
    rw [hP,← hR] at c2
    rw [hP] at c3 c4
    clear c1
    generalize rU (pre ++ btl nm) = R2 at *
    generalize rU (pre ++ btl nm ++ [58]) = R3 at *
    clear hR4 hwa hW hn hl hs hnew hP hP1 hat hby hl1 hlen
    iterate 2 (try cbv;repeat ((first | with_reducible apply next_at hA | rw [g0] | rw [g1] | (refine callo_at hA [0,1] c2 ⟨rfl,rfl,rfl,rfl,rfl,rfl,rfl⟩ ?_;rintro _ _ ⟨rfl,rfl⟩) | (refine callo_at hA [0,1] c3 ⟨rfl,rfl,rfl,rfl,rfl,rfl,rfl⟩ ?_;rintro _ _ ⟨rfl,rfl⟩) | (refine callo_at hA [0,1] c4 ⟨rfl,rfl,rfl,rfl,rfl,rfl,rfl⟩ ?_;rintro _ _ ⟨rfl,rfl⟩));cbv))
    try simp (maxSteps:=4000000) only [nc] at *
    refine ⟨(false,cop,cnm,cn,cK,R4,cN),fin,hmu,?_⟩
    cbv
   | false =>
    have hP:P1 = pre ++ [44]:=by rw [hP1];simp
    rw [hP] at c2 c3 c4
    replace c1:SpecO 46 [.ptr 0 0,vi .u8 44] _ _:=c1 (by simp at hlen;omega)
    generalize rU (pre ++ [44]) = R1 at *
    generalize rU (pre ++ [44] ++ btl nm) = R2 at *
    generalize rU (pre ++ [44] ++ btl nm ++ [58]) = R3 at *
    clear hR4 hwa hW hn hl hs hnew hP hP1 hat hby hl1 hlen
    iterate 2 (try cbv;repeat ((first | with_reducible apply next_at hA | rw [g0] | rw [g1] | (refine callo_at hA [0,1] c1 ⟨rfl,rfl,rfl,rfl,rfl,rfl,rfl⟩ ?_;rintro _ _ ⟨rfl,rfl⟩) | (refine callo_at hA [0,1] c2 ⟨rfl,rfl,rfl,rfl,rfl,rfl,rfl⟩ ?_;rintro _ _ ⟨rfl,rfl⟩) | (refine callo_at hA [0,1] c3 ⟨rfl,rfl,rfl,rfl,rfl,rfl,rfl⟩ ?_;rintro _ _ ⟨rfl,rfl⟩) | (refine callo_at hA [0,1] c4 ⟨rfl,rfl,rfl,rfl,rfl,rfl,rfl⟩ ?_;rintro _ _ ⟨rfl,rfl⟩));cbv))
    try simp (maxSteps:=4000000) only [nc] at *
    refine ⟨(false,cop,cnm,cn,cK,R4,cN),fin,hmu,?_⟩
    cbv
  ·rw [hop,decide_eq_false hc,← hop] at h11
   have hy8:y.op = 8 ∨ y.op = 9 ∨ y.op = 10:=by
    rcases hys with ⟨h,_⟩ | ⟨h,_⟩
    ·exact h
    ·exact absurd h hc
   obtain ⟨hf0,ht0⟩:=fields_end hc
   rw [hf0,ht0] at hby hlen
   simp only [rowW,List.nil_append] at hby hlen
   rw [← hby] at hRE
   rw [h11]
   unfold tailW at hRE hlen
   rcases hy8 with ho | ho | ho
   ·have h9:qk op 9 = false:=by rw [e9,hop,ho];rfl
    have h10:qk op 10 = false:=by rw [e9,hop,ho];rfl
    rw [if_neg (by omega),if_neg (by omega),List.append_nil,← hR] at hRE
    iterate 2 (try cbv;repeat ((first | with_reducible apply next_at hA | rw [h9] | rw [h10]);cbv))
    try simp (maxSteps:=4000000) only [nc] at *
    exact keep_is hA [0,1] ⟨rfl,rfl,rfl,rfl,rfl,rfl,rfl,rfl⟩ ⟨rfl,by rw [hRE]⟩
   ·have h9:qk op 9 = true:=by rw [e9,hop,ho];rfl
    rw [if_pos ho] at hRE hlen
    have c1:=wsU_s pre ⟨#[124,63]⟩ (by rw [show (⟨#[124,63]⟩:ByteArray).size = 2 from rfl];simpa using hlen)
    rw [show btl ⟨#[124,63]⟩ = [124,63] from rfl] at c1
    rw [penU_eq] at c1
    rw [penU_eq,← hR,← hRE] at c1
    iterate 2 (try cbv;repeat ((first | with_reducible apply next_at hA | rw [h9]);cbv))
    try simp (maxSteps:=4000000) only [nc] at *
    refine callo_at hA [0,1] c1 ⟨rfl,rfl,rfl,rfl,rfl,rfl,rfl⟩ ?_
    rintro _ _ ⟨rfl,rfl⟩
    iterate 2 (try cbv;repeat ((first | with_reducible apply next_at hA);cbv))
    try simp (maxSteps:=4000000) only [nc] at *
    exact keep_is hA [0,1] ⟨rfl,rfl,rfl,rfl,rfl,rfl,rfl,rfl⟩ ⟨rfl,rfl⟩
   ·have h9:qk op 9 = false:=by rw [e9,hop,ho];rfl
    have h10:qk op 10 = true:=by rw [e9,hop,ho];rfl
    rw [if_neg (by omega),if_pos ho] at hRE hlen
    rw [← hnn] at hRE hlen hy0 hyn
    have hi:=itoa_c n (by omega) hyn
    have hb:btl (⟨#[124,39]⟩ ++ ⟨(Lib.itoa n).toArray⟩:ByteArray) = 124 :: 39 :: Lib.itoa n:=by unfold btl;simp
    have hz:(⟨#[124,39]⟩ ++ ⟨(Lib.itoa n).toArray⟩:ByteArray).size = (124 :: 39 :: Lib.itoa n).length:=by rw [← hb,btl_size]
    have c1:=wsU_s pre (⟨#[124,39]⟩ ++ ⟨(Lib.itoa n).toArray⟩) (by rw [hz];exact hlen)
    rw [hb] at c1
    have hfit:(⟨#[124,39]⟩:ByteArray).size + (⟨(Lib.itoa n).toArray⟩:ByteArray).size ≤ 4611686018427387904:=by
     have h2:(⟨#[124,39]⟩ ++ ⟨(Lib.itoa n).toArray⟩:ByteArray).size = (⟨#[124,39]⟩:ByteArray).size + (⟨(Lib.itoa n).toArray⟩:ByteArray).size:=by simp
     rw [← h2,hz];omega
    rw [penU_eq] at c1
    rw [penU_eq,← hR,← hRE] at c1
    clear hz hb hlen
    generalize (⟨(Lib.itoa n).toArray⟩:ByteArray) = D at *
    obtain ⟨S,hS⟩:∃ S,S = (⟨#[124,39]⟩ ++ D:ByteArray):=⟨_,rfl⟩
    rw [← hS] at c1
    have hc2:qq ⟨#[124,39]⟩ D = S:=by rw [s4,hS]
    iterate 2 (try cbv;repeat ((first | with_reducible apply next_at hA | rw [h9] | rw [h10] | refine call_at hA _ hi rfl ?_ | refine calm_at hA _ hi ?_);cbv))
    try simp (maxSteps:=4000000) only [nc] at *
    refine fits_at hA hfit ?_
    cbv
    rw [hc2]
    iterate 2 (try cbv;repeat ((first | with_reducible apply next_at hA);cbv))
    try simp (maxSteps:=4000000) only [nc] at *
    refine callo_at hA [0,1] c1 ⟨rfl,rfl,rfl,rfl,rfl,rfl,rfl⟩ ?_
    rintro _ _ ⟨rfl,rfl⟩
    iterate 2 (try cbv;repeat ((first | with_reducible apply next_at hA);cbv))
    try simp (maxSteps:=4000000) only [nc] at *
    exact keep_is hA [0,1] ⟨rfl,rfl,rfl,rfl,rfl,rfl,rfl,rfl⟩ ⟨rfl,rfl⟩
theorem lies_pen:Lies 58:=by unfold Lies;kernel_rfl
def WrF (f:Nat) (t:Ty) (out:List UInt8):Prop:=out.length ≤ 137438953472 → SpecO f [.ptr 0 0,.ag (ofD (cT t))] [penO 58] (fun res os=>res = [] ∧ os = penU out)
theorem penO_eq (T:Nat):[penO T] = [.ob T [.pointer none,.slice none 0 0]]:=rfl
theorem from_noU (t:Ty) (hop:t.op ≠ 4) (hw:WrU 25 t (txtS t)):WrU 49 t (fromW txtS t):=by
 intro l hl
 unfold fromW at hl ⊢
 rw [if_neg hop] at hl ⊢
 have c1:=hw l hl
 rw [cT_of] at c1 ⊢
 obtain ⟨op,hop0⟩:∃ o,o = t.op:=⟨_,rfl⟩
 rw [← hop0] at c1 hop ⊢
 generalize t.name = nm at *
 generalize t.n = n at *
 generalize rT t.kids = K at *
 try rw [penU_eq] at c1
 try rw [penU_eq] at c1
 try rw [penO_eq] at c1
 try rw [penU_eq] at ⊢
 try rw [penU_eq] at ⊢
 try rw [penO_eq] at ⊢
 generalize rU (l ++ txtS t) = R1 at *
 generalize rU l = R0 at *
 clear hl hw hop0
 refine speco_of Tryz.func49 rfl (by kernel_rfl) (by kernel_rfl) (by kernel_rfl) fun qa qb qc qd qe qg qh qi qj qk ql qm qo qp qq qt qu qv qw qx qy qz va vc vd ve vf vg vh vj vk vl vm vn vo vp vq vr vt vu vv vw vx hA=>?_
 obtain ⟨e1,e2,e3,e4,e5,e6,e7,e8,e9⟩:=ar_at hA
 obtain ⟨r1,r2,r3,r4⟩:=row_at hA
 obtain ⟨s1,s2,s3,s4,s5,s6,s7⟩:=str_at hA
 have h4:qk op 4 = false:=by rw [e9];simpa using hop
 iterate 2 (try cbv;repeat ((first | with_reducible apply next_at hA | rw [h4] | (refine callo_at hA [0,1] c1 ⟨rfl,rfl,rfl,rfl,rfl,rfl,rfl⟩ ?_;rintro _ _ ⟨rfl,rfl⟩));cbv))
 try simp (maxSteps:=4000000) only [nc] at *
 exact keep_is hA [0,1] ⟨rfl,rfl,rfl,rfl,rfl,rfl,rfl,rfl⟩ ⟨rfl,rfl⟩
theorem from_fnU (t:Ty) (hop:t.op = 4) (hw:WrU 25 t (txtS t)):WrU 49 t (fromW txtS t):=by
 intro l hl
 unfold fromW at hl ⊢
 rw [if_pos hop] at hl ⊢
 simp only [List.length_cons,List.length_append,List.length_nil] at hl
 have c1:=wbU_s (l) 40 (by omega)
 have c2:=hw (l ++ [40]) (by simp only [List.length_cons,List.length_append,List.length_nil];omega)
 have c3:=wbU_s (l ++ [40] ++ txtS t) 41 (by simp only [List.length_cons,List.length_append,List.length_nil];omega)
 rw [show l ++ (40 :: (txtS t ++ [41])) = l ++ [40] ++ txtS t ++ [41] by simp]
 rw [cT_of] at c2 ⊢
 obtain ⟨op,hop0⟩:∃ o,o = t.op:=⟨_,rfl⟩
 rw [← hop0] at c2 hop ⊢
 generalize t.name = nm at *
 generalize t.n = n at *
 generalize rT t.kids = K at *
 try rw [penU_eq] at c1
 try rw [penU_eq] at c1
 try rw [penO_eq] at c1
 try rw [penU_eq] at c2
 try rw [penU_eq] at c2
 try rw [penO_eq] at c2
 try rw [penU_eq] at c3
 try rw [penU_eq] at c3
 try rw [penO_eq] at c3
 try rw [penU_eq] at ⊢
 try rw [penU_eq] at ⊢
 try rw [penO_eq] at ⊢
 replace c1:SpecO 46 [.ptr 0 0,vi .u8 40] _ _:=c1
 replace c3:SpecO 46 [.ptr 0 0,vi .u8 41] _ _:=c3
 generalize rU (l ++ [40] ++ txtS t ++ [41]) = R3 at *
 generalize rU (l ++ [40] ++ txtS t) = R2 at *
 generalize rU (l ++ [40]) = R1 at *
 generalize rU l = R0 at *
 clear hl hw hop0
 refine speco_of Tryz.func49 rfl (by kernel_rfl) (by kernel_rfl) (by kernel_rfl) fun qa qb qc qd qe qg qh qi qj qk ql qm qo qp qq qt qu qv qw qx qy qz va vc vd ve vf vg vh vj vk vl vm vn vo vp vq vr vt vu vv vw vx hA=>?_
 obtain ⟨e1,e2,e3,e4,e5,e6,e7,e8,e9⟩:=ar_at hA
 obtain ⟨r1,r2,r3,r4⟩:=row_at hA
 obtain ⟨s1,s2,s3,s4,s5,s6,s7⟩:=str_at hA
 have h4:qk op 4 = true:=by rw [e9,hop];rfl
 iterate 2 (try cbv;repeat ((first | with_reducible apply next_at hA | rw [h4] | (refine callo_at hA [0,1] c1 ⟨rfl,rfl,rfl,rfl,rfl,rfl,rfl⟩ ?_;rintro _ _ ⟨rfl,rfl⟩) | (refine callo_at hA [0,1] c2 ⟨rfl,rfl,rfl,rfl,rfl,rfl,rfl⟩ ?_;rintro _ _ ⟨rfl,rfl⟩) | (refine callo_at hA [0,1] c3 ⟨rfl,rfl,rfl,rfl,rfl,rfl,rfl⟩ ?_;rintro _ _ ⟨rfl,rfl⟩));cbv))
 try simp (maxSteps:=4000000) only [nc] at *
 exact keep_is hA [0,1] ⟨rfl,rfl,rfl,rfl,rfl,rfl,rfl,rfl⟩ ⟨rfl,rfl⟩
theorem write_recU (nm:ByteArray) (n:Int) (a:Ty) (hw:WrU 48 a (rowT txtS a)):WrU 25 (.mk 5 nm n [a]) (txtS (.mk 5 nm n [a])):=by
 intro l hl
 have ht:txtS (.mk 5 nm n [a]) = 123 :: (rowT txtS a ++ [125]):=by rw [txt_eq];rfl
 rw [ht] at hl ⊢
 simp only [List.length_cons,List.length_append,List.length_nil] at hl
 have c1:=wbU_s (l) 123 (by omega)
 have c2:=hw (l ++ [123]) (by simp only [List.length_cons,List.length_append,List.length_nil];omega)
 have c3:=wbU_s (l ++ [123] ++ rowT txtS a) 125 (by simp only [List.length_cons,List.length_append,List.length_nil];omega)
 rw [show l ++ (123 :: (rowT txtS a ++ [125])) = l ++ [123] ++ rowT txtS a ++ [125] by simp]
 rw [cT,rT,rT]
 obtain ⟨a0,a1,a2,a3,ha⟩:=cT_four a
 rw [ha] at c2 ⊢
 try rw [penU_eq] at c1
 try rw [penU_eq] at c1
 try rw [penO_eq] at c1
 try rw [penU_eq] at c2
 try rw [penU_eq] at c2
 try rw [penO_eq] at c2
 try rw [penU_eq] at c3
 try rw [penU_eq] at c3
 try rw [penO_eq] at c3
 try rw [penU_eq] at ⊢
 try rw [penU_eq] at ⊢
 try rw [penO_eq] at ⊢
 replace c1:SpecO 46 [.ptr 0 0,vi .u8 123] _ _:=c1
 replace c3:SpecO 46 [.ptr 0 0,vi .u8 125] _ _:=c3
 generalize rU (l ++ [123] ++ rowT txtS a ++ [125]) = R3 at *
 generalize rU (l ++ [123] ++ rowT txtS a) = R2 at *
 generalize rU (l ++ [123]) = R1 at *
 generalize rU l = R0 at *
 clear hl hw ht
 obtain ⟨K,hK⟩:∃ K,K = [[a0,a1,a2,a3]]:=⟨_,rfl⟩
 rw [← hK]
 refine speco_of Tryz.func25 rfl (by kernel_rfl) (by kernel_rfl) (by kernel_rfl) fun qa qb qc qd qe qg qh qi qj qk ql qm qo qp qq qt qu qv qw qx qy qz va vc vd ve vf vg vh vj vk vl vm vn vo vp vq vr vt vu vv vw vx hA=>?_
 obtain ⟨e1,e2,e3,e4,e5,e6,e7,e8,e9⟩:=ar_at hA
 obtain ⟨r1,r2,r3,r4⟩:=row_at hA
 obtain ⟨s1,s2,s3,s4,s5,s6,s7⟩:=str_at hA
 have h1:qk 5 1 = false:=e9 _ _
 have h2:qk 5 2 = false:=e9 _ _
 have h3:qk 5 3 = false:=e9 _ _
 have h7:qk 5 7 = false:=e9 _ _
 have h5:qk 5 5 = true:=e9 _ _
 have g0:vc K 0 = some [a0,a1,a2,a3]:=by rw [r2,hK];rfl
 iterate 2 (try cbv;repeat ((first | with_reducible apply next_at hA | rw [h1] | rw [h2] | rw [h3] | rw [h7] | rw [h5] | rw [g0] | (refine callo_at hA [0,1] c1 ⟨rfl,rfl,rfl,rfl,rfl,rfl,rfl⟩ ?_;rintro _ _ ⟨rfl,rfl⟩) | (refine callo_at hA [0,1] c2 ⟨rfl,rfl,rfl,rfl,rfl,rfl,rfl⟩ ?_;rintro _ _ ⟨rfl,rfl⟩) | (refine callo_at hA [0,1] c3 ⟨rfl,rfl,rfl,rfl,rfl,rfl,rfl⟩ ?_;rintro _ _ ⟨rfl,rfl⟩));cbv))
 try simp (maxSteps:=4000000) only [nc] at *
 exact keep_is hA [0,1] ⟨rfl,rfl,rfl,rfl,rfl,rfl,rfl,rfl⟩ ⟨rfl,rfl⟩
theorem write_vntU (nm:ByteArray) (n:Int) (a:Ty) (hw:WrU 48 a (rowT txtS a)):WrU 25 (.mk 6 nm n [a]) (txtS (.mk 6 nm n [a])):=by
 intro l hl
 have ht:txtS (.mk 6 nm n [a]) = 60 :: (rowT txtS a ++ [62]):=by rw [txt_eq];rfl
 rw [ht] at hl ⊢
 simp only [List.length_cons,List.length_append,List.length_nil] at hl
 have c1:=wbU_s (l) 60 (by omega)
 have c2:=hw (l ++ [60]) (by simp only [List.length_cons,List.length_append,List.length_nil];omega)
 have c3:=wbU_s (l ++ [60] ++ rowT txtS a) 62 (by simp only [List.length_cons,List.length_append,List.length_nil];omega)
 rw [show l ++ (60 :: (rowT txtS a ++ [62])) = l ++ [60] ++ rowT txtS a ++ [62] by simp]
 rw [cT,rT,rT]
 obtain ⟨a0,a1,a2,a3,ha⟩:=cT_four a
 rw [ha] at c2 ⊢
 try rw [penU_eq] at c1
 try rw [penU_eq] at c1
 try rw [penO_eq] at c1
 try rw [penU_eq] at c2
 try rw [penU_eq] at c2
 try rw [penO_eq] at c2
 try rw [penU_eq] at c3
 try rw [penU_eq] at c3
 try rw [penO_eq] at c3
 try rw [penU_eq] at ⊢
 try rw [penU_eq] at ⊢
 try rw [penO_eq] at ⊢
 replace c1:SpecO 46 [.ptr 0 0,vi .u8 60] _ _:=c1
 replace c3:SpecO 46 [.ptr 0 0,vi .u8 62] _ _:=c3
 generalize rU (l ++ [60] ++ rowT txtS a ++ [62]) = R3 at *
 generalize rU (l ++ [60] ++ rowT txtS a) = R2 at *
 generalize rU (l ++ [60]) = R1 at *
 generalize rU l = R0 at *
 clear hl hw ht
 obtain ⟨K,hK⟩:∃ K,K = [[a0,a1,a2,a3]]:=⟨_,rfl⟩
 rw [← hK]
 refine speco_of Tryz.func25 rfl (by kernel_rfl) (by kernel_rfl) (by kernel_rfl) fun qa qb qc qd qe qg qh qi qj qk ql qm qo qp qq qt qu qv qw qx qy qz va vc vd ve vf vg vh vj vk vl vm vn vo vp vq vr vt vu vv vw vx hA=>?_
 obtain ⟨e1,e2,e3,e4,e5,e6,e7,e8,e9⟩:=ar_at hA
 obtain ⟨r1,r2,r3,r4⟩:=row_at hA
 obtain ⟨s1,s2,s3,s4,s5,s6,s7⟩:=str_at hA
 have h1:qk 6 1 = false:=e9 _ _
 have h2:qk 6 2 = false:=e9 _ _
 have h3:qk 6 3 = false:=e9 _ _
 have h7:qk 6 7 = false:=e9 _ _
 have h5:qk 6 5 = false:=e9 _ _
 have h6:qk 6 6 = true:=e9 _ _
 have g0:vc K 0 = some [a0,a1,a2,a3]:=by rw [r2,hK];rfl
 iterate 2 (try cbv;repeat ((first | with_reducible apply next_at hA | rw [h1] | rw [h2] | rw [h3] | rw [h7] | rw [h5] | rw [h6] | rw [g0] | (refine callo_at hA [0,1] c1 ⟨rfl,rfl,rfl,rfl,rfl,rfl,rfl⟩ ?_;rintro _ _ ⟨rfl,rfl⟩) | (refine callo_at hA [0,1] c2 ⟨rfl,rfl,rfl,rfl,rfl,rfl,rfl⟩ ?_;rintro _ _ ⟨rfl,rfl⟩) | (refine callo_at hA [0,1] c3 ⟨rfl,rfl,rfl,rfl,rfl,rfl,rfl⟩ ?_;rintro _ _ ⟨rfl,rfl⟩));cbv))
 try simp (maxSteps:=4000000) only [nc] at *
 exact keep_is hA [0,1] ⟨rfl,rfl,rfl,rfl,rfl,rfl,rfl,rfl⟩ ⟨rfl,rfl⟩
theorem write_funU (nm:ByteArray) (n:Int) (a b:Ty) (hf:WrU 49 a (fromW txtS a)) (hw:WrU 25 b (txtS b)):WrU 25 (.mk 4 nm n [a,b]) (txtS (.mk 4 nm n [a,b])):=by
 intro l hl
 have ht:txtS (.mk 4 nm n [a,b]) = fromW txtS a ++ (45 :: 62 :: txtS b):=by rw [txt_eq];rfl
 rw [ht] at hl ⊢
 simp only [List.length_cons,List.length_append,List.length_nil] at hl
 have c1:=hf l (by omega)
 have c2:=wsU_s (l ++ fromW txtS a) ⟨#[45,62]⟩ (by rw [show (⟨#[45,62]⟩:ByteArray).size = 2 from rfl];first | omega | (simp only [List.length_cons,List.length_append,List.length_nil];omega))
 rw [show btl ⟨#[45,62]⟩ = [45,62] from rfl] at c2
 have c3:=hw (l ++ fromW txtS a ++ [45,62]) (by simp only [List.length_cons,List.length_append,List.length_nil];omega)
 rw [show l ++ (fromW txtS a ++ (45 :: 62 :: txtS b)) = l ++ fromW txtS a ++ [45,62] ++ txtS b by simp]
 rw [cT,rT,rT,rT]
 obtain ⟨a0,a1,a2,a3,ha⟩:=cT_four a
 obtain ⟨b0,b1,b2,b3,hb⟩:=cT_four b
 rw [ha] at c1 ⊢
 rw [hb] at c3 ⊢
 try rw [penU_eq] at c1
 try rw [penU_eq] at c1
 try rw [penO_eq] at c1
 try rw [penU_eq] at c2
 try rw [penU_eq] at c2
 try rw [penO_eq] at c2
 try rw [penU_eq] at c3
 try rw [penU_eq] at c3
 try rw [penO_eq] at c3
 try rw [penU_eq] at ⊢
 try rw [penU_eq] at ⊢
 try rw [penO_eq] at ⊢
 generalize rU (l ++ fromW txtS a ++ [45,62] ++ txtS b) = R3 at *
 generalize rU (l ++ fromW txtS a ++ [45,62]) = R2 at *
 generalize rU (l ++ fromW txtS a) = R1 at *
 generalize rU l = R0 at *
 clear hl hf hw ht
 obtain ⟨K,hK⟩:∃ K,K = [[a0,a1,a2,a3],[b0,b1,b2,b3]]:=⟨_,rfl⟩
 rw [← hK]
 refine speco_of Tryz.func25 rfl (by kernel_rfl) (by kernel_rfl) (by kernel_rfl) fun qa qb qc qd qe qg qh qi qj qk ql qm qo qp qq qt qu qv qw qx qy qz va vc vd ve vf vg vh vj vk vl vm vn vo vp vq vr vt vu vv vw vx hA=>?_
 obtain ⟨e1,e2,e3,e4,e5,e6,e7,e8,e9⟩:=ar_at hA
 obtain ⟨r1,r2,r3,r4⟩:=row_at hA
 obtain ⟨s1,s2,s3,s4,s5,s6,s7⟩:=str_at hA
 have h1:qk 4 1 = false:=e9 _ _
 have h2:qk 4 2 = false:=e9 _ _
 have h3:qk 4 3 = false:=e9 _ _
 have h7:qk 4 7 = false:=e9 _ _
 have h5:qk 4 5 = false:=e9 _ _
 have h6:qk 4 6 = false:=e9 _ _
 have h4:qk 4 4 = true:=e9 _ _
 have g0:vc K 0 = some [a0,a1,a2,a3]:=by rw [r2,hK];rfl
 have g1:vc K 1 = some [b0,b1,b2,b3]:=by rw [r2,hK];rfl
 iterate 2 (try cbv;repeat ((first | with_reducible apply next_at hA | rw [h1] | rw [h2] | rw [h3] | rw [h7] | rw [h5] | rw [h6] | rw [h4] | rw [g0] | rw [g1] | (refine callo_at hA [0,1] c1 ⟨rfl,rfl,rfl,rfl,rfl,rfl,rfl⟩ ?_;rintro _ _ ⟨rfl,rfl⟩) | (refine callo_at hA [0,1] c2 ⟨rfl,rfl,rfl,rfl,rfl,rfl,rfl⟩ ?_;rintro _ _ ⟨rfl,rfl⟩) | (refine callo_at hA [0,1] c3 ⟨rfl,rfl,rfl,rfl,rfl,rfl,rfl⟩ ?_;rintro _ _ ⟨rfl,rfl⟩));cbv))
 try simp (maxSteps:=4000000) only [nc] at *
 exact keep_is hA [0,1] ⟨rfl,rfl,rfl,rfl,rfl,rfl,rfl,rfl⟩ ⟨rfl,rfl⟩
theorem from_noF (t:Ty) (hop:t.op ≠ 4) (hw:WrF 25 t (txtS t)):WrF 49 t (fromW txtS t):=by
 intro hl
 unfold fromW at hl ⊢
 rw [if_neg hop] at hl ⊢
 have c1:=hw hl
 rw [cT_of] at c1 ⊢
 obtain ⟨op,hop0⟩:∃ o,o = t.op:=⟨_,rfl⟩
 rw [← hop0] at c1 hop ⊢
 generalize t.name = nm at *
 generalize t.n = n at *
 generalize rT t.kids = K at *
 try rw [penU_eq] at c1
 try rw [penU_eq] at c1
 try rw [penO_eq] at c1
 try rw [penU_eq] at ⊢
 try rw [penU_eq] at ⊢
 try rw [penO_eq] at ⊢
 generalize rU (txtS t) = R1 at *
 skip
 clear hl hw hop0
 refine speco_of Tryz.func49 rfl (by kernel_rfl) (by kernel_rfl) (by kernel_rfl) fun qa qb qc qd qe qg qh qi qj qk ql qm qo qp qq qt qu qv qw qx qy qz va vc vd ve vf vg vh vj vk vl vm vn vo vp vq vr vt vu vv vw vx hA=>?_
 obtain ⟨e1,e2,e3,e4,e5,e6,e7,e8,e9⟩:=ar_at hA
 obtain ⟨r1,r2,r3,r4⟩:=row_at hA
 obtain ⟨s1,s2,s3,s4,s5,s6,s7⟩:=str_at hA
 have h4:qk op 4 = false:=by rw [e9];simpa using hop
 iterate 2 (try cbv;repeat ((first | with_reducible apply next_at hA | rw [h4] | (refine callo_at hA [0] c1 ⟨rfl,rfl,rfl,rfl,rfl,rfl,rfl⟩ ?_;rintro _ _ ⟨rfl,rfl⟩));cbv))
 try simp (maxSteps:=4000000) only [nc] at *
 exact keep_is hA [0,2] ⟨rfl,rfl,rfl,rfl,rfl,rfl,rfl,rfl⟩ ⟨rfl,rfl⟩
theorem from_fnF (t:Ty) (hop:t.op = 4) (hw:WrU 25 t (txtS t)):WrF 49 t (fromW txtS t):=by
 intro hl
 unfold fromW at hl ⊢
 rw [if_pos hop] at hl ⊢
 simp only [List.length_cons,List.length_append,List.length_nil] at hl
 have c1:=wbF_s _ lies_pen 40
 have c2:=hw ([40]) (by simp only [List.length_cons,List.length_append,List.length_nil];omega)
 have c3:=wbU_s ([40] ++ txtS t) 41 (by simp only [List.length_cons,List.length_append,List.length_nil];omega)
 rw [show (40 :: (txtS t ++ [41])) = [40] ++ txtS t ++ [41] by simp]
 rw [cT_of] at c2 ⊢
 obtain ⟨op,hop0⟩:∃ o,o = t.op:=⟨_,rfl⟩
 rw [← hop0] at c2 hop ⊢
 generalize t.name = nm at *
 generalize t.n = n at *
 generalize rT t.kids = K at *
 try rw [penU_eq] at c1
 try rw [penU_eq] at c1
 try rw [penO_eq] at c1
 try rw [penU_eq] at c2
 try rw [penU_eq] at c2
 try rw [penO_eq] at c2
 try rw [penU_eq] at c3
 try rw [penU_eq] at c3
 try rw [penO_eq] at c3
 try rw [penU_eq] at ⊢
 try rw [penU_eq] at ⊢
 try rw [penO_eq] at ⊢
 replace c1:SpecO 46 [.ptr 0 0,vi .u8 40] _ _:=c1
 replace c3:SpecO 46 [.ptr 0 0,vi .u8 41] _ _:=c3
 generalize rU ([40] ++ txtS t ++ [41]) = R3 at *
 generalize rU ([40] ++ txtS t) = R2 at *
 generalize rU ([40]) = R1 at *
 skip
 clear hl hw hop0
 refine speco_of Tryz.func49 rfl (by kernel_rfl) (by kernel_rfl) (by kernel_rfl) fun qa qb qc qd qe qg qh qi qj qk ql qm qo qp qq qt qu qv qw qx qy qz va vc vd ve vf vg vh vj vk vl vm vn vo vp vq vr vt vu vv vw vx hA=>?_
 obtain ⟨e1,e2,e3,e4,e5,e6,e7,e8,e9⟩:=ar_at hA
 obtain ⟨r1,r2,r3,r4⟩:=row_at hA
 obtain ⟨s1,s2,s3,s4,s5,s6,s7⟩:=str_at hA
 have h4:qk op 4 = true:=by rw [e9,hop];rfl
 iterate 2 (try cbv;repeat ((first | with_reducible apply next_at hA | rw [h4] | (refine callo_at hA [0] c1 ⟨rfl,rfl,rfl,rfl,rfl,rfl,rfl⟩ ?_;rintro _ _ ⟨rfl,rfl⟩) | (refine callo_at hA [0,2] c2 ⟨rfl,rfl,rfl,rfl,rfl,rfl,rfl⟩ ?_;rintro _ _ ⟨rfl,rfl⟩) | (refine callo_at hA [0,2] c3 ⟨rfl,rfl,rfl,rfl,rfl,rfl,rfl⟩ ?_;rintro _ _ ⟨rfl,rfl⟩));cbv))
 try simp (maxSteps:=4000000) only [nc] at *
 exact keep_is hA [0,2] ⟨rfl,rfl,rfl,rfl,rfl,rfl,rfl,rfl⟩ ⟨rfl,rfl⟩
theorem write_recF (nm:ByteArray) (n:Int) (a:Ty) (hw:WrU 48 a (rowT txtS a)):WrF 25 (.mk 5 nm n [a]) (txtS (.mk 5 nm n [a])):=by
 intro hl
 have ht:txtS (.mk 5 nm n [a]) = 123 :: (rowT txtS a ++ [125]):=by rw [txt_eq];rfl
 rw [ht] at hl ⊢
 simp only [List.length_cons,List.length_append,List.length_nil] at hl
 have c1:=wbF_s _ lies_pen 123
 have c2:=hw ([123]) (by simp only [List.length_cons,List.length_append,List.length_nil];omega)
 have c3:=wbU_s ([123] ++ rowT txtS a) 125 (by simp only [List.length_cons,List.length_append,List.length_nil];omega)
 rw [show (123 :: (rowT txtS a ++ [125])) = [123] ++ rowT txtS a ++ [125] by simp]
 rw [cT,rT,rT]
 obtain ⟨a0,a1,a2,a3,ha⟩:=cT_four a
 rw [ha] at c2 ⊢
 try rw [penU_eq] at c1
 try rw [penU_eq] at c1
 try rw [penO_eq] at c1
 try rw [penU_eq] at c2
 try rw [penU_eq] at c2
 try rw [penO_eq] at c2
 try rw [penU_eq] at c3
 try rw [penU_eq] at c3
 try rw [penO_eq] at c3
 try rw [penU_eq] at ⊢
 try rw [penU_eq] at ⊢
 try rw [penO_eq] at ⊢
 replace c1:SpecO 46 [.ptr 0 0,vi .u8 123] _ _:=c1
 replace c3:SpecO 46 [.ptr 0 0,vi .u8 125] _ _:=c3
 generalize rU ([123] ++ rowT txtS a ++ [125]) = R3 at *
 generalize rU ([123] ++ rowT txtS a) = R2 at *
 generalize rU ([123]) = R1 at *
 skip
 clear hl hw ht
 obtain ⟨K,hK⟩:∃ K,K = [[a0,a1,a2,a3]]:=⟨_,rfl⟩
 rw [← hK]
 refine speco_of Tryz.func25 rfl (by kernel_rfl) (by kernel_rfl) (by kernel_rfl) fun qa qb qc qd qe qg qh qi qj qk ql qm qo qp qq qt qu qv qw qx qy qz va vc vd ve vf vg vh vj vk vl vm vn vo vp vq vr vt vu vv vw vx hA=>?_
 obtain ⟨e1,e2,e3,e4,e5,e6,e7,e8,e9⟩:=ar_at hA
 obtain ⟨r1,r2,r3,r4⟩:=row_at hA
 obtain ⟨s1,s2,s3,s4,s5,s6,s7⟩:=str_at hA
 have h1:qk 5 1 = false:=e9 _ _
 have h2:qk 5 2 = false:=e9 _ _
 have h3:qk 5 3 = false:=e9 _ _
 have h7:qk 5 7 = false:=e9 _ _
 have h5:qk 5 5 = true:=e9 _ _
 have g0:vc K 0 = some [a0,a1,a2,a3]:=by rw [r2,hK];rfl
 iterate 2 (try cbv;repeat ((first | with_reducible apply next_at hA | rw [h1] | rw [h2] | rw [h3] | rw [h7] | rw [h5] | rw [g0] | (refine callo_at hA [0] c1 ⟨rfl,rfl,rfl,rfl,rfl,rfl,rfl⟩ ?_;rintro _ _ ⟨rfl,rfl⟩) | (refine callo_at hA [0,2] c2 ⟨rfl,rfl,rfl,rfl,rfl,rfl,rfl⟩ ?_;rintro _ _ ⟨rfl,rfl⟩) | (refine callo_at hA [0,2] c3 ⟨rfl,rfl,rfl,rfl,rfl,rfl,rfl⟩ ?_;rintro _ _ ⟨rfl,rfl⟩));cbv))
 try simp (maxSteps:=4000000) only [nc] at *
 exact keep_is hA [0,2] ⟨rfl,rfl,rfl,rfl,rfl,rfl,rfl,rfl⟩ ⟨rfl,rfl⟩
theorem write_vntF (nm:ByteArray) (n:Int) (a:Ty) (hw:WrU 48 a (rowT txtS a)):WrF 25 (.mk 6 nm n [a]) (txtS (.mk 6 nm n [a])):=by
 intro hl
 have ht:txtS (.mk 6 nm n [a]) = 60 :: (rowT txtS a ++ [62]):=by rw [txt_eq];rfl
 rw [ht] at hl ⊢
 simp only [List.length_cons,List.length_append,List.length_nil] at hl
 have c1:=wbF_s _ lies_pen 60
 have c2:=hw ([60]) (by simp only [List.length_cons,List.length_append,List.length_nil];omega)
 have c3:=wbU_s ([60] ++ rowT txtS a) 62 (by simp only [List.length_cons,List.length_append,List.length_nil];omega)
 rw [show (60 :: (rowT txtS a ++ [62])) = [60] ++ rowT txtS a ++ [62] by simp]
 rw [cT,rT,rT]
 obtain ⟨a0,a1,a2,a3,ha⟩:=cT_four a
 rw [ha] at c2 ⊢
 try rw [penU_eq] at c1
 try rw [penU_eq] at c1
 try rw [penO_eq] at c1
 try rw [penU_eq] at c2
 try rw [penU_eq] at c2
 try rw [penO_eq] at c2
 try rw [penU_eq] at c3
 try rw [penU_eq] at c3
 try rw [penO_eq] at c3
 try rw [penU_eq] at ⊢
 try rw [penU_eq] at ⊢
 try rw [penO_eq] at ⊢
 replace c1:SpecO 46 [.ptr 0 0,vi .u8 60] _ _:=c1
 replace c3:SpecO 46 [.ptr 0 0,vi .u8 62] _ _:=c3
 generalize rU ([60] ++ rowT txtS a ++ [62]) = R3 at *
 generalize rU ([60] ++ rowT txtS a) = R2 at *
 generalize rU ([60]) = R1 at *
 skip
 clear hl hw ht
 obtain ⟨K,hK⟩:∃ K,K = [[a0,a1,a2,a3]]:=⟨_,rfl⟩
 rw [← hK]
 refine speco_of Tryz.func25 rfl (by kernel_rfl) (by kernel_rfl) (by kernel_rfl) fun qa qb qc qd qe qg qh qi qj qk ql qm qo qp qq qt qu qv qw qx qy qz va vc vd ve vf vg vh vj vk vl vm vn vo vp vq vr vt vu vv vw vx hA=>?_
 obtain ⟨e1,e2,e3,e4,e5,e6,e7,e8,e9⟩:=ar_at hA
 obtain ⟨r1,r2,r3,r4⟩:=row_at hA
 obtain ⟨s1,s2,s3,s4,s5,s6,s7⟩:=str_at hA
 have h1:qk 6 1 = false:=e9 _ _
 have h2:qk 6 2 = false:=e9 _ _
 have h3:qk 6 3 = false:=e9 _ _
 have h7:qk 6 7 = false:=e9 _ _
 have h5:qk 6 5 = false:=e9 _ _
 have h6:qk 6 6 = true:=e9 _ _
 have g0:vc K 0 = some [a0,a1,a2,a3]:=by rw [r2,hK];rfl
 iterate 2 (try cbv;repeat ((first | with_reducible apply next_at hA | rw [h1] | rw [h2] | rw [h3] | rw [h7] | rw [h5] | rw [h6] | rw [g0] | (refine callo_at hA [0] c1 ⟨rfl,rfl,rfl,rfl,rfl,rfl,rfl⟩ ?_;rintro _ _ ⟨rfl,rfl⟩) | (refine callo_at hA [0,2] c2 ⟨rfl,rfl,rfl,rfl,rfl,rfl,rfl⟩ ?_;rintro _ _ ⟨rfl,rfl⟩) | (refine callo_at hA [0,2] c3 ⟨rfl,rfl,rfl,rfl,rfl,rfl,rfl⟩ ?_;rintro _ _ ⟨rfl,rfl⟩));cbv))
 try simp (maxSteps:=4000000) only [nc] at *
 exact keep_is hA [0,2] ⟨rfl,rfl,rfl,rfl,rfl,rfl,rfl,rfl⟩ ⟨rfl,rfl⟩
theorem write_funF (nm:ByteArray) (n:Int) (a b:Ty) (hf:WrF 49 a (fromW txtS a)) (hw:WrU 25 b (txtS b)):WrF 25 (.mk 4 nm n [a,b]) (txtS (.mk 4 nm n [a,b])):=by
 intro hl
 have ht:txtS (.mk 4 nm n [a,b]) = fromW txtS a ++ (45 :: 62 :: txtS b):=by rw [txt_eq];rfl
 rw [ht] at hl ⊢
 simp only [List.length_cons,List.length_append,List.length_nil] at hl
 have c1:=hf (by omega)
 have c2:=wsU_s (fromW txtS a) ⟨#[45,62]⟩ (by rw [show (⟨#[45,62]⟩:ByteArray).size = 2 from rfl];first | omega | (simp only [List.length_cons,List.length_append,List.length_nil];omega))
 rw [show btl ⟨#[45,62]⟩ = [45,62] from rfl] at c2
 have c3:=hw (fromW txtS a ++ [45,62]) (by simp only [List.length_cons,List.length_append,List.length_nil];omega)
 rw [show (fromW txtS a ++ (45 :: 62 :: txtS b)) = fromW txtS a ++ [45,62] ++ txtS b by simp]
 rw [cT,rT,rT,rT]
 obtain ⟨a0,a1,a2,a3,ha⟩:=cT_four a
 obtain ⟨b0,b1,b2,b3,hb⟩:=cT_four b
 rw [ha] at c1 ⊢
 rw [hb] at c3 ⊢
 try rw [penU_eq] at c1
 try rw [penU_eq] at c1
 try rw [penO_eq] at c1
 try rw [penU_eq] at c2
 try rw [penU_eq] at c2
 try rw [penO_eq] at c2
 try rw [penU_eq] at c3
 try rw [penU_eq] at c3
 try rw [penO_eq] at c3
 try rw [penU_eq] at ⊢
 try rw [penU_eq] at ⊢
 try rw [penO_eq] at ⊢
 generalize rU (fromW txtS a ++ [45,62] ++ txtS b) = R3 at *
 generalize rU (fromW txtS a ++ [45,62]) = R2 at *
 generalize rU (fromW txtS a) = R1 at *
 skip
 clear hl hf hw ht
 obtain ⟨K,hK⟩:∃ K,K = [[a0,a1,a2,a3],[b0,b1,b2,b3]]:=⟨_,rfl⟩
 rw [← hK]
 refine speco_of Tryz.func25 rfl (by kernel_rfl) (by kernel_rfl) (by kernel_rfl) fun qa qb qc qd qe qg qh qi qj qk ql qm qo qp qq qt qu qv qw qx qy qz va vc vd ve vf vg vh vj vk vl vm vn vo vp vq vr vt vu vv vw vx hA=>?_
 obtain ⟨e1,e2,e3,e4,e5,e6,e7,e8,e9⟩:=ar_at hA
 obtain ⟨r1,r2,r3,r4⟩:=row_at hA
 obtain ⟨s1,s2,s3,s4,s5,s6,s7⟩:=str_at hA
 have h1:qk 4 1 = false:=e9 _ _
 have h2:qk 4 2 = false:=e9 _ _
 have h3:qk 4 3 = false:=e9 _ _
 have h7:qk 4 7 = false:=e9 _ _
 have h5:qk 4 5 = false:=e9 _ _
 have h6:qk 4 6 = false:=e9 _ _
 have h4:qk 4 4 = true:=e9 _ _
 have g0:vc K 0 = some [a0,a1,a2,a3]:=by rw [r2,hK];rfl
 have g1:vc K 1 = some [b0,b1,b2,b3]:=by rw [r2,hK];rfl
 iterate 2 (try cbv;repeat ((first | with_reducible apply next_at hA | rw [h1] | rw [h2] | rw [h3] | rw [h7] | rw [h5] | rw [h6] | rw [h4] | rw [g0] | rw [g1] | (refine callo_at hA [0] c1 ⟨rfl,rfl,rfl,rfl,rfl,rfl,rfl⟩ ?_;rintro _ _ ⟨rfl,rfl⟩) | (refine callo_at hA [0,2] c2 ⟨rfl,rfl,rfl,rfl,rfl,rfl,rfl⟩ ?_;rintro _ _ ⟨rfl,rfl⟩) | (refine callo_at hA [0,2] c3 ⟨rfl,rfl,rfl,rfl,rfl,rfl,rfl⟩ ?_;rintro _ _ ⟨rfl,rfl⟩));cbv))
 try simp (maxSteps:=4000000) only [nc] at *
 exact keep_is hA [0,2] ⟨rfl,rfl,rfl,rfl,rfl,rfl,rfl,rfl⟩ ⟨rfl,rfl⟩
theorem write_leaf1F (nm:ByteArray) (n:Int) (ks:List Ty):WrF 25 (.mk 1 nm n ks) (txtS (.mk 1 nm n ks)):=by
 intro hl
 have ht:txtS (.mk 1 nm n ks) = [73,110,116]:=by rw [txt_eq];rfl
 rw [ht]
 have c1:=wsF_s _ lies_pen ⟨#[73,110,116]⟩ (by show ([73,110,116]:List UInt8).length ≤ _;simp)
 rw [show btl ⟨#[73,110,116]⟩ = [73,110,116] from rfl] at c1
 rw [cT]
 generalize rT ks = K
 rw [penU_eq,penO_eq] at c1 ⊢
 generalize rU [73,110,116] = R1 at *
 refine speco_of Tryz.func25 rfl (by kernel_rfl) (by kernel_rfl) (by kernel_rfl) fun qa qb qc qd qe qg qh qi qj qk ql qm qo qp qq qt qu qv qw qx qy qz va vc vd ve vf vg vh vj vk vl vm vn vo vp vq vr vt vu vv vw vx hA=>?_
 obtain ⟨e1,e2,e3,e4,e5,e6,e7,e8,e9⟩:=ar_at hA
 obtain ⟨r1,r2,r3,r4⟩:=row_at hA
 obtain ⟨s1,s2,s3,s4,s5,s6,s7⟩:=str_at hA
 have h1:qk 1 1 = true:=e9 _ _
 iterate 2 (try cbv;repeat ((first | with_reducible apply next_at hA | rw [h1] | (refine callo_at hA [0] c1 ⟨rfl,rfl,rfl,rfl,rfl,rfl,rfl⟩ ?_;rintro _ _ ⟨rfl,rfl⟩));cbv))
 try simp (maxSteps:=4000000) only [nc] at *
 exact keep_is hA [0,2] ⟨rfl,rfl,rfl,rfl,rfl,rfl,rfl,rfl⟩ ⟨rfl,rfl⟩
theorem write_leaf2F (nm:ByteArray) (n:Int) (ks:List Ty):WrF 25 (.mk 2 nm n ks) (txtS (.mk 2 nm n ks)):=by
 intro hl
 have ht:txtS (.mk 2 nm n ks) = [66,111,111,108]:=by rw [txt_eq];rfl
 rw [ht]
 have c1:=wsF_s _ lies_pen ⟨#[66,111,111,108]⟩ (by show ([66,111,111,108]:List UInt8).length ≤ _;simp)
 rw [show btl ⟨#[66,111,111,108]⟩ = [66,111,111,108] from rfl] at c1
 rw [cT]
 generalize rT ks = K
 rw [penU_eq,penO_eq] at c1 ⊢
 generalize rU [66,111,111,108] = R1 at *
 refine speco_of Tryz.func25 rfl (by kernel_rfl) (by kernel_rfl) (by kernel_rfl) fun qa qb qc qd qe qg qh qi qj qk ql qm qo qp qq qt qu qv qw qx qy qz va vc vd ve vf vg vh vj vk vl vm vn vo vp vq vr vt vu vv vw vx hA=>?_
 obtain ⟨e1,e2,e3,e4,e5,e6,e7,e8,e9⟩:=ar_at hA
 obtain ⟨r1,r2,r3,r4⟩:=row_at hA
 obtain ⟨s1,s2,s3,s4,s5,s6,s7⟩:=str_at hA
 have h1:qk 2 1 = false:=e9 _ _
 have h2:qk 2 2 = true:=e9 _ _
 iterate 2 (try cbv;repeat ((first | with_reducible apply next_at hA | rw [h1] | rw [h2] | (refine callo_at hA [0] c1 ⟨rfl,rfl,rfl,rfl,rfl,rfl,rfl⟩ ?_;rintro _ _ ⟨rfl,rfl⟩));cbv))
 try simp (maxSteps:=4000000) only [nc] at *
 exact keep_is hA [0,2] ⟨rfl,rfl,rfl,rfl,rfl,rfl,rfl,rfl⟩ ⟨rfl,rfl⟩
theorem write_leaf3F (nm:ByteArray) (n:Int) (ks:List Ty):WrF 25 (.mk 3 nm n ks) (txtS (.mk 3 nm n ks)):=by
 intro hl
 have ht:txtS (.mk 3 nm n ks) = [63]:=by rw [txt_eq];rfl
 rw [ht]
 have c1:=wbF_s _ lies_pen 63
 replace c1:SpecO 46 [.ptr 0 0,vi .u8 63] _ _:=c1
 rw [cT]
 generalize rT ks = K
 rw [penU_eq,penO_eq] at c1 ⊢
 generalize rU [63] = R1 at *
 refine speco_of Tryz.func25 rfl (by kernel_rfl) (by kernel_rfl) (by kernel_rfl) fun qa qb qc qd qe qg qh qi qj qk ql qm qo qp qq qt qu qv qw qx qy qz va vc vd ve vf vg vh vj vk vl vm vn vo vp vq vr vt vu vv vw vx hA=>?_
 obtain ⟨e1,e2,e3,e4,e5,e6,e7,e8,e9⟩:=ar_at hA
 obtain ⟨r1,r2,r3,r4⟩:=row_at hA
 obtain ⟨s1,s2,s3,s4,s5,s6,s7⟩:=str_at hA
 have h1:qk 3 1 = false:=e9 _ _
 have h2:qk 3 2 = false:=e9 _ _
 have h3:qk 3 3 = true:=e9 _ _
 iterate 2 (try cbv;repeat ((first | with_reducible apply next_at hA | rw [h1] | rw [h2] | rw [h3] | (refine callo_at hA [0] c1 ⟨rfl,rfl,rfl,rfl,rfl,rfl,rfl⟩ ?_;rintro _ _ ⟨rfl,rfl⟩));cbv))
 try simp (maxSteps:=4000000) only [nc] at *
 exact keep_is hA [0,2] ⟨rfl,rfl,rfl,rfl,rfl,rfl,rfl,rfl⟩ ⟨rfl,rfl⟩
theorem write_varF (nm:ByteArray) (n:Int) (ks:List Ty) (h0:0 ≤ n) (h1:n ≤ 9223372036854775807):WrF 25 (.mk 7 nm n ks) (txtS (.mk 7 nm n ks)):=by
 intro hl
 have ht:txtS (.mk 7 nm n ks) = 39 :: Lib.itoa n:=by rw [txt_eq];rfl
 rw [ht] at hl ⊢
 have hi:=itoa_c n (by omega) h1
 have hb:btl (⟨#[39]⟩ ++ ⟨(Lib.itoa n).toArray⟩:ByteArray) = 39 :: Lib.itoa n:=by unfold btl;simp
 have hz:(⟨#[39]⟩ ++ ⟨(Lib.itoa n).toArray⟩:ByteArray).size = (39 :: Lib.itoa n).length:=by rw [← hb,btl_size]
 have c1:=wsF_s _ lies_pen (⟨#[39]⟩ ++ ⟨(Lib.itoa n).toArray⟩) (by rw [hz];exact hl)
 rw [hb] at c1
 have hfit:(⟨#[39]⟩:ByteArray).size + (⟨(Lib.itoa n).toArray⟩:ByteArray).size ≤ 4611686018427387904:=by
  have h2:(⟨#[39]⟩ ++ ⟨(Lib.itoa n).toArray⟩:ByteArray).size = (⟨#[39]⟩:ByteArray).size + (⟨(Lib.itoa n).toArray⟩:ByteArray).size:=by simp
  rw [← h2,hz];omega
 rw [cT]
 generalize rT ks = K
 rw [penU_eq,penO_eq] at c1 ⊢
 generalize rU (39 :: Lib.itoa n) = R1 at *
 clear hl hz hb ht
 generalize (⟨(Lib.itoa n).toArray⟩:ByteArray) = D at *
 obtain ⟨S,hS⟩:∃ S,S = (⟨#[39]⟩ ++ D:ByteArray):=⟨_,rfl⟩
 rw [← hS] at c1
 refine speco_of Tryz.func25 rfl (by kernel_rfl) (by kernel_rfl) (by kernel_rfl) fun qa qb qc qd qe qg qh qi qj qk ql qm qo qp qq qt qu qv qw qx qy qz va vc vd ve vf vg vh vj vk vl vm vn vo vp vq vr vt vu vv vw vx hA=>?_
 obtain ⟨e1,e2,e3,e4,e5,e6,e7,e8,e9⟩:=ar_at hA
 obtain ⟨r1,r2,r3,r4⟩:=row_at hA
 obtain ⟨s1,s2,s3,s4,s5,s6,s7⟩:=str_at hA
 have h1:qk 7 1 = false:=e9 _ _
 have h2:qk 7 2 = false:=e9 _ _
 have h3:qk 7 3 = false:=e9 _ _
 have h7:qk 7 7 = true:=e9 _ _
 have hc:qq ⟨#[39]⟩ D = S:=by rw [s4,hS]
 iterate 2 (try cbv;repeat ((first | with_reducible apply next_at hA | rw [h1] | rw [h2] | rw [h3] | rw [h7] | refine call_at hA _ hi rfl ?_ | refine calm_at hA _ hi ?_);cbv))
 try simp (maxSteps:=4000000) only [nc] at *
 refine fits_at hA hfit ?_
 cbv
 rw [hc]
 iterate 2 (try cbv;repeat ((first | with_reducible apply next_at hA | (refine callo_at hA [0] c1 ⟨rfl,rfl,rfl,rfl,rfl,rfl,rfl⟩ ?_;rintro _ _ ⟨rfl,rfl⟩));cbv))
 try simp (maxSteps:=4000000) only [nc] at *
 exact keep_is hA [0,2] ⟨rfl,rfl,rfl,rfl,rfl,rfl,rfl,rfl⟩ ⟨rfl,rfl⟩
theorem Mod.part {t x:Ty} (h:Mod t) (hx:x ∈ t.parts):Mod x:=fun y hy=>h y (parts_trans hy hx)
theorem write_all (W:ByteArray → Bool):∀ (m:Nat) (t:Ty),t.parts.length ≤ m → shapeB W t 116 = true → Mod t → WrU 25 t (txtS t) ∧ WrF 25 t (txtS t):=by
 intro m
 induction m with
 | zero=>intro t h;have:=parts_pos t;omega
 | succ m ih =>
  intro t hm hs hM
  have hkl:=kids_le t
  have hself:=hM.self
  obtain ⟨h0,hc⟩:=shape_ty hs
  have hfrom:∀ a:Ty,WrU 25 a (txtS a) ∧ WrF 25 a (txtS a) → WrU 49 a (fromW txtS a) ∧ WrF 49 a (fromW txtS a):=fun a ha=>by
   by_cases h4:a.op = 4
   ·exact ⟨from_fnU a h4 ha.1,from_fnF a h4 ha.1⟩
   ·exact ⟨from_noU a h4 ha.1,from_noF a h4 ha.2⟩
  have hrow:∀ a:Ty,a ∈ t.kids → shapeB W a 114 = true → WrU 48 a (rowT txtS a):=fun a ha hsa=>by
   have h1:=hkl.2 a ha
   exact row_u W a hsa (fun x hx=>((hM.kid ha) x hx).2.2) fun x hx hxm hxs=>(ih x (by omega) hxs ((hM.kid ha).part hxm)).1
  rw [Ty.eta t] at hm hs hM ⊢
  rcases hc with ⟨hop,hk⟩ | ⟨hop,a,b,hk,hsa,hsb⟩ | ⟨hop,a,hk,hsa⟩
  ·rcases hop with h | h | h | h
   ·exact ⟨write_leaf _ (.inl h),by rw [h];exact write_leaf1F _ _ _⟩
   ·exact ⟨write_leaf _ (.inr (.inl h)),by rw [h];exact write_leaf2F _ _ _⟩
   ·exact ⟨write_leaf _ (.inr (.inr h)),by rw [h];exact write_leaf3F _ _ _⟩
   ·rw [h]
    refine ⟨?_,write_varF _ _ _ h0 hself.2.2⟩
    have h1:=write_var t.name t.n t.kids h0 hself.2.2
    rw [show txtS (.mk 7 t.name t.n t.kids) = 39 :: Lib.itoa t.n by rw [txt_eq];rfl]
    exact h1
  ·have ha:=ih a (by have:=hkl.2 a (by rw [hk];simp);rw [← Ty.eta t] at hm;omega) hsa (by rw [← Ty.eta t] at hM;exact hM.kid (by rw [hk];simp))
   have hb:=ih b (by have:=hkl.2 b (by rw [hk];simp);rw [← Ty.eta t] at hm;omega) hsb (by rw [← Ty.eta t] at hM;exact hM.kid (by rw [hk];simp))
   rw [hop,hk]
   exact ⟨write_funU _ _ a b (hfrom a ha).1 hb.1,write_funF _ _ a b (hfrom a ha).2 hb.1⟩
  ·have hr:=hrow a (by rw [hk];simp) hsa
   rw [hk]
   rcases hop with h | h
   ·rw [h];exact ⟨write_recU _ _ a hr,write_recF _ _ a hr⟩
   ·rw [h];exact ⟨write_vntU _ _ a hr,write_vntF _ _ a hr⟩
def putS (d:ByteArray × Ty) (p:Bool × List (ByteArray × Ty)) (y:ByteArray × Ty):Bool × List (ByteArray × Ty) :=
 match p.1 with
 | true=>(true,p.2 ++ [y])
 | false=>match ltF d y with | true=>(true,p.2 ++ [d] ++ [y]) | false=>(false,p.2 ++ [y])
theorem put_true (d:ByteArray × Ty):∀ (l acc:List (ByteArray × Ty)),l.foldl (putS d) (true,acc) = (true,acc ++ l)
 | [],acc=>by simp
 | y :: l,acc=>by rw [List.foldl_cons,show putS d (true,acc) y = (true,acc ++ [y]) from rfl,put_true d l];simp
theorem put_false (d:ByteArray × Ty):∀ (l acc:List (ByteArray × Ty)),(l.foldl (putS d) (false,acc)).2 ++ (if (l.foldl (putS d) (false,acc)).1 = true then [] else [d]) = acc ++ insS ltF d l
 | [],acc=>by simp [insS]
 | y :: l,acc=>by
  rw [List.foldl_cons,insS]
  cases h:ltF d y with
  | true =>
   rw [show putS d (false,acc) y = (true,acc ++ [d] ++ [y]) by unfold putS;rw [h],put_true]
   simp
  | false =>
   rw [show putS d (false,acc) y = (false,acc ++ [y]) by unfold putS;rw [h],put_false d l]
   simp
theorem put_len (d:ByteArray × Ty) (l:List (ByteArray × Ty)):∀ (p:Bool × List (ByteArray × Ty)),(l.foldl (putS d) p).2.length ≤ p.2.length + l.length + 1:=by
 have h1:∀ (l:List (ByteArray × Ty)) (acc:List (ByteArray × Ty)),(l.foldl (putS d) (true,acc)).2.length = acc.length + l.length:=fun l acc=>by rw [put_true];simp
 induction l with
 | nil=>intro p;simp
 | cons y l ih =>
  intro p
  obtain ⟨b,acc⟩:=p
  rw [List.foldl_cons]
  cases b with
  | true=>rw [show putS d (true,acc) y = (true,acc ++ [y]) from rfl,h1];simp;omega
  | false =>
   cases h:ltF d y with
   | true=>rw [show putS d (false,acc) y = (true,acc ++ [d] ++ [y]) by unfold putS;rw [h],h1];simp;omega
   | false =>
    rw [show putS d (false,acc) y = (false,acc ++ [y]) by unfold putS;rw [h]]
    have:=ih (false,acc ++ [y])
    simp at this ⊢
    omega
theorem put_take (d:ByteArray × Ty) (l:List (ByteArray × Ty)) {k:Nat} {y:ByteArray × Ty} (h:l[k]? = some y) (p:Bool × List (ByteArray × Ty)):(l.take (k + 1)).foldl (putS d) p = putS d ((l.take k).foldl (putS d) p) y:=by
 rw [List.take_add_one,h,List.foldl_append]
 rfl
theorem rF_app (a b:List (ByteArray × Ty)):rF (a ++ b) = rF a ++ rF b:=by unfold rF;rw [List.map_append]
theorem rF_one (x:ByteArray × Ty):rF [x] = [.sc (.string x.1) :: cT x.2]:=rfl
theorem FieldsO_s (t:Ty) (hs:Spine t) (hN:t.parts.length ≤ 1048576):SpecO 41 [.ag (ofD (cT t))] [] (fun res os'=>res = [.own 0,.ag (ofD (cT (tailS t)))] ∧ os' = [.row false 85 (rF (sortS ltF (fieldsS t)))]):=by
 obtain ⟨Q,hQ⟩:∃ Q,Q = rF (sortS ltF (fieldsS t)):=⟨_,rfl⟩
 rw [← hQ]
 obtain ⟨q0,q1,q2,q3,hq⟩:=cT_four (tailS t)
 rw [hq]
 obtain ⟨op,nm,n,ks⟩:=t
 generalize ht:Ty.mk op nm n ks = t at *
 have hc:cT t = [.sc (.int .u8 op),.sc (.string nm),.sc (.int .i64 n),.sl 4 (rT ks)]:=by rw [← ht,cT]
 obtain ⟨K0,hK0⟩:∃ K,K = rT ks:=⟨_,rfl⟩
 rw [hc,← hK0]
 refine speco_of Tryz.func41 rfl (by kernel_rfl) (by kernel_rfl) (by kernel_rfl) fun qa qb qc qd qe qg qh qi qj qk ql qm qo qp qq qt qu qv qw qx qy qz va vc vd ve vf vg vh vj vk vl vm vn vo vp vq vr vt vu vv vw vx hA=>?_
 cbv
 repeat (with_reducible apply next_at hA;cbv)
 obtain ⟨e1,e2,e3,e4,e5,e6,e7,e8,e9⟩:=ar_at hA
 obtain ⟨s1,s2,s3,s4,s5,s6,-⟩:=str_at hA
 obtain ⟨r1,r2,r3,r4⟩:=row_at hA
 refine loopn_at hA (γ:=Ty × Int × ByteArray × Int × List (List D) × List (List D)) (fun x=>[(4,.own 2)]) (fun x=>[(0,.box [.d (.sc (.int .u8 x.2.1)),.d (.sc (.string x.2.2.1)),.d (.sc (.int .i64 x.2.2.2.1)),.d (.sl 4 x.2.2.2.2.1)])]) (fun x=>[.row false 85 x.2.2.2.2.2])
  (fun x=>∃ ks fs,x.1 = .mk x.2.1 x.2.2.1 x.2.2.2.1 ks ∧ x.2.2.2.2.1 = rT ks ∧ Spine x.1 ∧ x.2.2.2.2.2 = rF (sortS ltF fs) ∧ fs ++ fieldsS x.1 = fieldsS t ∧ tailS x.1 = tailS t ∧ fs.length + x.1.parts.length ≤ 1048576) (fun x=>x.1.parts.length) (t,op,nm,n,K0,[]) ?_ ?_ ?_
 ·exact ⟨ks,[],ht.symm,hK0,hs,rfl,rfl,rfl,by simpa using hN⟩
 ·refine GhostN.of (Ghost.own _ 4 85 false rfl) ?_ (by exact Nat.le_of_ble_eq_true rfl)
  cbv
 ·intro x hinv
  obtain ⟨r,op,nm,n,K,L⟩:=x
  cbv
  repeat ((with_reducible apply next_at hA);cbv)
  obtain ⟨ks,fs,hr,hK,hsr,hL,hfs,htl,hlen⟩:=hinv
  replace hr:r = .mk op nm n ks:=hr
  replace hK:K = rT ks:=hK
  replace hsr:Spine r:=hsr
  replace hL:L = rF (sortS ltF fs):=hL
  replace hfs:fs ++ fieldsS r = fieldsS t:=hfs
  replace htl:tailS r = tailS t:=htl
  replace hlen:fs.length + r.parts.length ≤ 1048576:=hlen
  have h11:qk op 11 = decide (op = 11):=e9 _ _
  by_cases hop:op = 11
  ·rw [decide_eq_true hop] at h11
   obtain ⟨a,b,hk,hsb,hfb,htb⟩:=fields_step hsr (by rw [hr];exact hop)
   have hnmr:r.name = nm:=by rw [hr];rfl
   rw [hnmr] at hfb
   have hks:ks = [a,b]:=by rw [← hk,hr];rfl
   obtain ⟨a0,a1,a2,a3,ha⟩:=cT_four a
   obtain ⟨op',nm',n',ks'⟩:=b
   generalize hb:Ty.mk op' nm' n' ks' = b at *
   have hcb:cT b = [.sc (.int .u8 op'),.sc (.string nm'),.sc (.int .i64 n'),.sl 4 (rT ks')]:=by rw [← hb,cT]
   obtain ⟨K',hK'⟩:∃ K,K = rT ks':=⟨_,rfl⟩
   rw [← hK'] at hcb
   have g0:vc K 0 = some [a0,a1,a2,a3]:=by rw [r2,if_pos (by omega),hK,hks];exact congrArg some ha
   have g1:vc K 1 = some [.sc (.int .u8 op'),.sc (.string nm'),.sc (.int .i64 n'),.sl 4 K']:=by rw [r2,if_pos (by omega),hK,hks];exact congrArg some hcb
   rw [h11]
   cbv
   repeat ((with_reducible apply next_at hA);cbv)
   rw [g0]
   cbv
   repeat (first | (refine own_at hA 6 85 false rfl ?_;cbv) | (with_reducible apply next_at hA;cbv))
   refine loop_at hA (γ:=Int × Bool × List (List D)) (fun x=>[(8,vi .i64 x.1),(7,vb x.2.1),(6,.own 4)]) (fun x=>[(4,.row false 85 x.2.2)])
    (fun x=>∃ k:Nat,x.1 = (k:Int) ∧ k ≤ (sortS ltF fs).length ∧ x.2.1 = (((sortS ltF fs).take k).foldl (putS (nm,a)) (false,[])).1 ∧ x.2.2 = rF (((sortS ltF fs).take k).foldl (putS (nm,a)) (false,[])).2) (fun x=>(sortS ltF fs).length - x.1.toNat) (0,false,[]) ?_ ?_ ?_
   ·exact ⟨0,rfl,Nat.zero_le _,rfl,rfl⟩
   ·cbv
   ·intro x hinv
    obtain ⟨z,inn,M⟩:=x
    cbv
    repeat ((with_reducible apply next_at hA);cbv)
    obtain ⟨k,hz,hk2,hin,hM⟩:=hinv
    replace hz:z = (k:Int):=hz
    replace hin:inn = (((sortS ltF fs).take k).foldl (putS (nm,a)) (false,[])).1:=hin
    replace hM:M = rF (((sortS ltF fs).take k).foldl (putS (nm,a)) (false,[])).2:=hM
    have hsn:(sortS ltF fs).length = fs.length:=sortS_len fs
    have hll:va L = (((sortS ltF fs).length:Nat):Int):=by rw [r1,hL,rF_len]
    have hlt:qi z (va L) = decide (k < (sortS ltF fs).length):=by rw [e7,hll,hz];exact decide_eq_decide.2 (by omega)
    by_cases h9:k < (sortS ltF fs).length
    ·rw [decide_eq_true h9] at hlt
     obtain ⟨x,hx⟩:∃ x,(sortS ltF fs)[k]? = some x:=⟨_,List.getElem?_eq_getElem h9⟩
     have hpt:=put_take (nm,a) (sortS ltF fs) hx (false,[])
     generalize hPk:((sortS ltF fs).take k).foldl (putS (nm,a)) (false,[]) = P at *
     obtain ⟨xn,xt⟩:=x
     obtain ⟨x0,x1,x2,x3,hxx⟩:=cT_four xt
     have gx:vc L z = some [.sc (.string xn),x0,x1,x2,x3]:=by rw [r2,hz,if_pos (by omega),hL,show ((k:Int)).toNat = k by omega,rF_get hx,hxx]
     have hsl:qo (qp nm) (qp xn) = ltF (nm,a) (xn,xt):=by rw [s2,s3,s3];rfl
     rw [hlt]
     obtain ⟨Pb,Pl⟩:=P
     simp only at hin hM
     subst hin
     have hz1:qa .i64 (qb z 1) = ((k + 1:Nat):Int):=by rw [e1,e2,hz,IntWalk.i64_in _ (by omega)];omega
     have hmu:(sortS ltF fs).length - (qa .i64 (qb z 1)).toNat < (sortS ltF fs).length - z.toNat:=by rw [hz1,hz];omega
     have hMl:M.length ≤ 1048577:=by
      have h:=put_len (nm,a) ((sortS ltF fs).take k) (false,[])
      rw [hPk,List.length_take] at h
      rw [hM,rF_len]
      simp only [List.length_nil] at h
      omega
     cases inn
     ·cases hlx:ltF (nm,a) (xn,xt)
      ·have hput:putS (nm,a) (false,Pl) (xn,xt) = (false,Pl ++ [(xn,xt)]):=by unfold putS;rw [hlx]
       rw [hlx] at hsl
       rw [hput] at hpt
       cbv;repeat (first | (with_reducible apply next_at hA;cbv) | (rw [gx];cbv) | (rw [hsl];cbv) | (refine lit_at hA true ?_;cbv) | (refine room_at hA (by simp only [r4,List.length_append,List.length_cons,List.length_nil];omega) ?_;cbv))
       refine ⟨(qa .i64 (qb z 1),false,ve M [[.sc (.string xn),x0,x1,x2,x3]]),⟨k + 1,hz1,h9,by rw [hpt],by rw [hpt];show ve M _ = rF (Pl ++ [(xn,xt)]);rw [r4,hM,rF_app,rF_one,hxx]⟩,hmu,?_⟩
       cbv
      ·have hput:putS (nm,a) (false,Pl) (xn,xt) = (true,Pl ++ [(nm,a)] ++ [(xn,xt)]):=by unfold putS;rw [hlx]
       rw [hlx] at hsl
       rw [hput] at hpt
       cbv;repeat (first | (with_reducible apply next_at hA;cbv) | (rw [gx];cbv) | (rw [hsl];cbv) | (refine lit_at hA true ?_;cbv) | (refine room_at hA (by simp only [r4,List.length_append,List.length_cons,List.length_nil];omega) ?_;cbv))
       refine ⟨(qa .i64 (qb z 1),true,ve (ve M [[.sc (.string nm),a0,a1,a2,a3]]) [[.sc (.string xn),x0,x1,x2,x3]]),⟨k + 1,hz1,h9,by rw [hpt],by rw [hpt];show ve (ve M _) _ = rF (Pl ++ [(nm,a)] ++ [(xn,xt)]);rw [r4,r4,hM,rF_app,rF_app,rF_one,rF_one,hxx,ha]⟩,hmu,?_⟩
       cbv
     ·have hput:putS (nm,a) (true,Pl) (xn,xt) = (true,Pl ++ [(xn,xt)]):=rfl
      rw [hput] at hpt
      cbv;repeat (first | (with_reducible apply next_at hA;cbv) | (rw [gx];cbv) | (rw [hsl];cbv) | (refine lit_at hA true ?_;cbv) | (refine room_at hA (by simp only [r4,List.length_append,List.length_cons,List.length_nil];omega) ?_;cbv))
      refine ⟨(qa .i64 (qb z 1),true,ve M [[.sc (.string xn),x0,x1,x2,x3]]),⟨k + 1,hz1,h9,by rw [hpt],by rw [hpt];show ve M _ = rF (Pl ++ [(xn,xt)]);rw [r4,hM,rF_app,rF_one,hxx]⟩,hmu,?_⟩
      cbv
    ·rw [decide_eq_false h9] at hlt
     have hins:=put_false (nm,a) (sortS ltF fs) []
     rw [List.take_of_length_le (by omega)] at hin hM
     have hMl:M.length ≤ 1048577:=by
      have h:=put_len (nm,a) (sortS ltF fs) (false,[])
      rw [hM,rF_len]
      simp only [List.length_nil] at h
      omega
     generalize hPk:(sortS ltF fs).foldl (putS (nm,a)) (false,[]) = P at *
     obtain ⟨Pb,Pl⟩:=P
     simp only at hin hM hins
     subst hin
     rw [List.nil_append,← sort_snoc] at hins
     have hbl:b.parts.length < r.parts.length:=(kids_le r).2 b (by rw [hk];simp)
     have hfs2:(fs ++ [(nm,a)]) ++ fieldsS b = fieldsS t:=by rw [List.append_assoc,← hfs,hfb];rfl
     rw [hlt]
     cases inn
     ·cbv;repeat (first | (with_reducible apply next_at hA;cbv) | (rw [g1];cbv) | (refine lit_at hA true ?_;cbv) | (refine room_at hA (by simp only [r4,List.length_append,List.length_cons,List.length_nil];omega) ?_;cbv))
      have hnew:ve M [[.sc (.string nm),a0,a1,a2,a3]] = rF (sortS ltF (fs ++ [(nm,a)])):=by rw [← hins,if_neg (by decide),r4,hM,rF_app,rF_one,ha]
      refine ⟨(b,op',nm',n',K',ve M [[.sc (.string nm),a0,a1,a2,a3]]),⟨ks',fs ++ [(nm,a)],hb.symm,hK',hsb,hnew,hfs2,by rw [← htl,htb],by rw [List.length_append];show fs.length + 1 + b.parts.length ≤ _;omega⟩,hbl,GhostN.of (Ghost.move _ 4 2 4 rfl rfl rfl rfl) ?_ (by exact Nat.le_of_ble_eq_true rfl)⟩
      cbv
     ·cbv;repeat (first | (with_reducible apply next_at hA;cbv) | (rw [g1];cbv) | (refine lit_at hA true ?_;cbv) | (refine room_at hA (by simp only [r4,List.length_append,List.length_cons,List.length_nil];omega) ?_;cbv))
      have hnew:M = rF (sortS ltF (fs ++ [(nm,a)])):=by rw [← hins,if_pos rfl,List.append_nil,hM]
      refine ⟨(b,op',nm',n',K',M),⟨ks',fs ++ [(nm,a)],hb.symm,hK',hsb,hnew,hfs2,by rw [← htl,htb],by rw [List.length_append];show fs.length + 1 + b.parts.length ≤ _;omega⟩,hbl,GhostN.of (Ghost.move _ 4 2 4 rfl rfl rfl rfl) ?_ (by exact Nat.le_of_ble_eq_true rfl)⟩
      cbv
  ·rw [decide_eq_false hop] at h11
   obtain ⟨hf0,ht0⟩:=fields_end (t:=r) (by rw [hr];exact hop)
   rw [hf0,List.append_nil] at hfs
   have hLQ:L = Q:=by rw [hL,hfs,hQ]
   rw [ht0,hr] at htl
   rw [← htl,cT,← hK] at hq
   rw [h11,hLQ]
   cases hq
   cbv
   repeat ((with_reducible apply next_at hA);cbv)
   exact keep_is hA [2] ⟨rfl,rfl,rfl,rfl,rfl,rfl,rfl,rfl⟩ ⟨rfl,rfl⟩
end Go.Proofs.YtahpnackkmbmgaaGreatDoor.Vm
end
section
namespace Go.Proofs.YtahpnackkmbmgaaGreatDoor.Vm
section
def swapL {α:Type} (a b:Nat):Nat → List α → List α
 | 0,l=>l
 | k + 1,l=>match (swapL a b k l)[a + k]?,(swapL a b k l)[b + k]? with
  | some x,some y=>((swapL a b k l).set (a + k) y).set (b + k) x
  | _,_=>swapL a b k l
theorem swapL_len {α:Type} (a b:Nat):∀ (k:Nat) (l:List α),(swapL a b k l).length = l.length
 | 0,l=>rfl
 | k + 1,l=>by
  unfold swapL
  split
  ·rw [List.length_set,List.length_set,swapL_len]
  ·exact swapL_len a b k l
theorem swapL_get {α:Type} (a b:Nat):∀ (k:Nat) (l:List α),a + k ≤ b → b + k ≤ l.length → ∀ i,(swapL a b k l)[i]? = if a ≤ i ∧ i < a + k then l[i - a + b]? else if b ≤ i ∧ i < b + k then l[i - b + a]? else l[i]?
 | 0,l,_,_,i=>by
  rw [if_neg (by omega),if_neg (by omega)]
  rfl
 | k + 1,l,h1,h2,i=>by
  have ih:=swapL_get a b k l (by omega) (by omega)
  have ea:=ih (a + k)
  have eb:=ih (b + k)
  rw [if_neg (by omega),if_neg (by omega)] at ea eb
  have hla:a + k < l.length:=by omega
  have hlb:b + k < l.length:=by omega
  rw [List.getElem?_eq_getElem hla] at ea
  rw [List.getElem?_eq_getElem hlb] at eb
  unfold swapL
  rw [ea,eb]
  simp only
  have hsl:=swapL_len a b k l
  by_cases e1:i = b + k
  ·subst e1
   rw [List.getElem?_set_self (by rw [List.length_set,hsl];omega),if_neg (by omega),if_pos (by omega),show b + k - b + a = a + k by omega,List.getElem?_eq_getElem hla]
  ·rw [List.getElem?_set_ne (by omega)]
   by_cases e2:i = a + k
   ·subst e2
    rw [List.getElem?_set_self (by rw [hsl];omega),if_pos (by omega),show a + k - a + b = b + k by omega,List.getElem?_eq_getElem hlb]
   ·rw [List.getElem?_set_ne (by omega),ih i]
    by_cases c1:a ≤ i ∧ i < a + k
    ·rw [if_pos c1,if_pos (by omega)]
    ·rw [if_neg c1]
     by_cases c2:b ≤ i ∧ i < b + k
     ·rw [if_pos c2,if_neg (by omega),if_pos (by omega)]
     ·rw [if_neg c2,if_neg (by omega),if_neg (by omega)]
theorem swapL_split {α:Type} (P X M Y S:List α) (h:X.length = Y.length):swapL P.length (P.length + X.length + M.length) X.length (P ++ (X ++ (M ++ (Y ++ S)))) = P ++ (Y ++ (M ++ (X ++ S))):=by
 apply List.ext_getElem?
 intro i
 rw [swapL_get _ _ _ _ (by omega) (by simp only [List.length_append];omega)]
 simp only [List.getElem?_append]
 repeat' split
 all_goals first
  | rfl
  | omega
  | (congr 1;omega)
theorem split_at {α:Type} {l:List α} {n:Nat} (h:n ≤ l.length):∃ a b,l = a ++ b ∧ a.length = n:=⟨l.take n,l.drop n,(List.take_append_drop n l).symm,by simp;omega⟩
theorem take_one {α:Type} {xs:List α} {k:Nat} {y:α} (h:xs[k]? = some y):xs.take (k + 1) = xs.take k ++ [y]:=by
 obtain ⟨hi,e⟩:=List.getElem?_eq_some_iff.1 h
 rw [List.take_succ_eq_append_getElem hi,e]
theorem bytes_irr:∀ l:List UInt8,Op.bytesLess l l = false
 | []=>rfl
 | a :: l=>by simp [Op.bytesLess,bytes_irr l]
theorem bytes_tra:∀ x y z:List UInt8,Op.bytesLess x y = true → Op.bytesLess y z = true → Op.bytesLess x z = true
 | x,[],_,h,_=>by cases x <;> simp [Op.bytesLess] at h
 | _,_ :: _,[],_,h=>by simp [Op.bytesLess] at h
 | [],_ :: _,_ :: _,_,_=>by simp [Op.bytesLess]
 | a :: x,b :: y,c :: z,h1,h2=>by
  simp only [Op.bytesLess,Bool.or_eq_true,decide_eq_true_eq,Bool.and_eq_true,beq_iff_eq] at h1 h2 ⊢
  rcases h1 with h1 | ⟨rfl,h1⟩
  ·rcases h2 with h2 | ⟨rfl,h2⟩
   ·exact .inl (UInt8.lt_trans h1 h2)
   ·exact .inl h1
  ·rcases h2 with h2 | ⟨rfl,h2⟩
   ·exact .inl h2
   ·exact .inr ⟨rfl,bytes_tra x y z h1 h2⟩
theorem bytes_neg:∀ x y z:List UInt8,Op.bytesLess x y = false → Op.bytesLess y z = false → Op.bytesLess x z = false
 | x,_,[],_,_=>by cases x <;> simp [Op.bytesLess]
 | _,[],_ :: _,_,h=>by simp [Op.bytesLess] at h
 | [],_ :: _,_,h,_=>by simp [Op.bytesLess] at h
 | a :: x,b :: y,c :: z,h1,h2=>by
  simp only [Op.bytesLess,Bool.or_eq_false_iff,decide_eq_false_iff_not,Bool.and_eq_false_iff,beq_eq_false_iff_ne,ne_eq] at h1 h2 ⊢
  obtain ⟨h1,h1'⟩:=h1
  obtain ⟨h2,h2'⟩:=h2
  have h3:¬ a < c:=fun h=>by
   rw [UInt8.lt_iff_toNat_lt] at h h1 h2
   omega
  refine ⟨h3,?_⟩
  by_cases hac:a = c
  ·subst hac
   right
   have hab:a = b:=by
    rw [UInt8.lt_iff_toNat_lt] at h1 h2
    exact UInt8.toNat_inj.1 (by omega)
   subst hab
   exact bytes_neg x y z (by simpa using h1') (by simpa using h2')
  ·exact .inl hac
abbrev Rw:=List D
def keyR:Rw → List UInt8
 | .sc (.string a) :: _=>a.toList
 | _=>[]
def ltR (x y:Rw):Bool:=Op.bytesLess (keyR x) (keyR y)
theorem swoR:Swo ltR:=⟨fun _=>bytes_irr _,fun _ _ _=>bytes_tra _ _ _,fun _ _ _=>bytes_neg _ _ _⟩
theorem insS_map {α β:Type} {f:α → β} {lt:α → α → Bool} {lt2:β → β → Bool} (h:∀ x y,lt2 (f x) (f y) = lt x y) (x:α):∀ l:List α,insS lt2 (f x) (l.map f) = (insS lt x l).map f
 | []=>rfl
 | y :: l=>by
  rw [List.map_cons,insS,insS,h]
  split
  ·rfl
  ·rw [List.map_cons,insS_map h x l]
theorem sortS_map {α β:Type} {f:α → β} {lt:α → α → Bool} {lt2:β → β → Bool} (h:∀ x y,lt2 (f x) (f y) = lt x y) (l:List α):sortS lt2 (l.map f) = (sortS lt l).map f:=by
 have key:∀ (l acc:List α),(l.map f).foldl (fun acc x=>insS lt2 x acc) (acc.map f) = (l.foldl (fun acc x=>insS lt x acc) acc).map f:=by
  intro l
  induction l with
  | nil=>intro acc;rfl
  | cons x l ih=>intro acc;rw [List.map_cons,List.foldl_cons,List.foldl_cons,insS_map h,ih]
 exact key l []
theorem all_le {x:Rw} {L:List Rw} {y:Rw} (hs:Srt ltR (L ++ [y])) (h:ltR x y = false):∀ z ∈ L ++ [y],ltR x z = false:=by
 intro z hz
 rcases List.mem_append.1 hz with hz | hz
 ·exact swoR.neg x y z h ((srt_append.1 hs).2.2 z hz y (by simp))
 ·simp at hz;subst hz;exact h
theorem swap_adj {α:Type} (A R:List α) (x y:α) {k:Nat} (h:A.length = k):((A ++ y :: x :: R).set (k + 1) y).set k x = A ++ x :: y :: R:=by
 subst h
 rw [List.set_append_right _ _ (by omega),show A.length + 1 - A.length = 1 by omega,List.set_append_right _ _ (Nat.le_refl _),Nat.sub_self]
 rfl
theorem half_in {V:List Rw} {h:Nat} {y:Rw} (hs:Srt ltR V) (hy:V[h]? = some y):(∀ z ∈ V.take h,ltR y z = false) ∧ ∀ z ∈ V.drop (h + 1),ltR z y = false:=by
 obtain ⟨hh,e⟩:=List.getElem?_eq_some_iff.1 hy
 have hsp:V = V.take h ++ y :: V.drop (h + 1):=by
  conv=>lhs;rw [← List.take_append_drop h V,List.drop_eq_getElem_cons hh,e]
 rw [hsp] at hs
 obtain ⟨_,h2,h3⟩:=srt_append.1 hs
 exact ⟨fun z hz=>h3 z hz y (List.mem_cons_self ..),fun z hz=>(List.pairwise_cons.1 h2).1 z hz⟩
theorem search_up {V:List Rw} {h:Nat} {y u:Rw} (hs:Srt ltR V) (hy:V[h]? = some y) (hl:ltR y u = true):∀ z ∈ V.take (h + 1),ltR z u = true:=by
 intro z hz
 rw [take_one hy] at hz
 rcases List.mem_append.1 hz with hz | hz
 ·exact lt_of_le_lt swoR ((half_in hs hy).1 z hz) hl
 ·simp at hz;subst hz;exact hl
theorem search_down {V:List Rw} {h:Nat} {y u:Rw} (hs:Srt ltR V) (hy:V[h]? = some y) (hl:ltR y u = false):∀ z ∈ V.drop h,ltR z u = false:=by
 intro z hz
 obtain ⟨hh,e⟩:=List.getElem?_eq_some_iff.1 hy
 rw [List.drop_eq_getElem_cons hh,e] at hz
 rcases List.mem_cons.1 hz with rfl | hz
 ·exact hl
 ·exact swoR.neg z y u ((half_in hs hy).2 z hz) hl
theorem swap_adj2 {α:Type} (A R:List α) (x y:α) {k:Nat} (h:A.length = k):((A ++ x :: y :: R).set k y).set (k + 1) x = A ++ y :: x :: R:=by
 subst h
 rw [List.set_append_right _ _ (Nat.le_refl _),Nat.sub_self,List.set_cons_zero,List.set_append_right _ _ (by omega),show A.length + 1 - A.length = 1 by omega]
 rfl
theorem search_up2 {V:List Rw} {h:Nat} {y u:Rw} (hs:Srt ltR V) (hy:V[h]? = some y) (hl:ltR u y = false):∀ z ∈ V.take (h + 1),ltR u z = false:=by
 intro z hz
 rw [take_one hy] at hz
 rcases List.mem_append.1 hz with hz | hz
 ·exact swoR.neg u y z hl ((half_in hs hy).1 z hz)
 ·simp at hz;subst hz;exact hl
theorem search_down2 {V:List Rw} {h:Nat} {y u:Rw} (hs:Srt ltR V) (hy:V[h]? = some y) (hl:ltR u y = true):∀ z ∈ V.drop h,ltR u z = true:=by
 intro z hz
 obtain ⟨hh,e⟩:=List.getElem?_eq_some_iff.1 hy
 rw [List.drop_eq_getElem_cons hh,e] at hz
 rcases List.mem_cons.1 hz with rfl | hz
 ·exact hl
 ·exact lt_of_lt_le swoR hl ((half_in hs hy).2 z hz)
theorem srt_at {l:List Rw} (h:Srt ltR l) {i j:Nat} {x y:Rw} (hij:i ≤ j) (hx:l[i]? = some x) (hy:l[j]? = some y):ltR y x = false:=by
 rcases Nat.lt_or_ge i j with hlt | hge
 ·obtain ⟨hi,ei⟩:=List.getElem?_eq_some_iff.1 hx
  obtain ⟨hj,ej⟩:=List.getElem?_eq_some_iff.1 hy
  have:=List.pairwise_iff_getElem.1 h i j hi hj hlt
  rw [ei,ej] at this
  exact this
 ·obtain rfl:i = j:=by omega
  rw [hx] at hy
  injection hy with hy
  subst hy
  exact swoR.irr x
def Window (a m b mid s0 r0:Nat):Prop:=(m ≤ mid ∧ s0 = a ∧ r0 = m) ∨ (mid < m ∧ s0 + b = mid + m ∧ r0 = mid)
def Lows (U V:List Rw) (a m p s0 s:Nat):Prop:=∀ c x y,s0 ≤ c → c < s → U[c - a]? = some x → V[p - c - m]? = some y → ltR y x = false
def Highs (U V:List Rw) (a m p r r0:Nat):Prop:=∀ c x y,r ≤ c → c < r0 → U[c - a]? = some x → V[p - c - m]? = some y → ltR y x = true
section
variable {U V:List Rw} {a m b mid p s0 r0:Nat}
theorem window_bounds (hw:Window a m b mid s0 r0) (hmid:mid = (a + b) / 2) (ham:a < m) (hmb:m < b) {s:Nat} (h1:s0 ≤ s) (h2:s ≤ r0):a ≤ s ∧ s ≤ m ∧ s ≤ mid ∧ m ≤ mid + m - s ∧ mid + m - s ≤ b ∧ mid ≤ mid + m - s:=by
 rcases hw with ⟨h,rfl,rfl⟩ | ⟨h,h3,rfl⟩ <;> omega
theorem lows_up (hU:Srt ltR U) (hV:Srt ltR V) (hw:Window a m b mid s0 r0) (hmid:mid = (a + b) / 2) (ham:a < m) (hmb:m < b) (hp:p + 1 = mid + m) {c:Nat} {x y:Rw} (hc0:s0 ≤ c) (hc:c < r0) (hx:U[c - a]? = some x) (hy:V[p - c - m]? = some y) (hl:ltR y x = false) :
  Lows U V a m p s0 (c + 1):=by
 intro d x' y' hd hdc hx' hy'
 have b1:=window_bounds hw hmid ham hmb hc0 (Nat.le_of_lt hc)
 have b2:=window_bounds hw hmid ham hmb hd (by omega)
 have h1:=srt_at hU (show d - a ≤ c - a by omega) hx' hx
 have h2:=srt_at hV (show p - c - m ≤ p - d - m by omega) hy hy'
 exact swoR.neg _ _ _ (swoR.neg _ _ _ h2 hl) h1
theorem highs_down (hU:Srt ltR U) (hV:Srt ltR V) (hw:Window a m b mid s0 r0) (hmid:mid = (a + b) / 2) (ham:a < m) (hmb:m < b) (hp:p + 1 = mid + m) {c:Nat} {x y:Rw} (hc0:s0 ≤ c) (hc:c < r0) (hx:U[c - a]? = some x) (hy:V[p - c - m]? = some y) (hl:ltR y x = true) :
  Highs U V a m p c r0:=by
 intro d x' y' hd hdr hx' hy'
 have b1:=window_bounds hw hmid ham hmb hc0 (Nat.le_of_lt hc)
 have h1:=srt_at hU (show c - a ≤ d - a by omega) hx hx'
 have h2:=srt_at hV (show p - d - m ≤ p - c - m by omega) hy' hy
 exact lt_of_lt_le swoR (lt_of_le_lt swoR h2 hl) h1
theorem parted (hU:Srt ltR U) (hV:Srt ltR V) (hUl:U.length = m - a) (hVl:V.length = b - m) (hw:Window a m b mid s0 r0) (hmid:mid = (a + b) / 2) (ham:a < m) (hmb:m < b) (hp:p + 1 = mid + m) {s:Nat} (h1:s0 ≤ s) (h2:s ≤ r0) (hlo:Lows U V a m p s0 s) (hhi:Highs U V a m p s r0) :
  (∀ x ∈ U.drop (s - a),∀ y ∈ V.take (mid + m - s - m),ltR y x = true) ∧ ∀ x ∈ U.take (s - a),∀ y ∈ V.drop (mid + m - s - m),ltR y x = false:=by
 have b0:=window_bounds hw hmid ham hmb h1 h2
 constructor
 ·intro x hx y hy
  obtain ⟨i,hi⟩:=List.mem_iff_getElem?.1 hx
  obtain ⟨j,hj⟩:=List.mem_iff_getElem?.1 hy
  rw [List.getElem?_drop] at hi
  have hj2:j < mid + m - s - m ∧ V[j]? = some y:=by
   rw [List.getElem?_take] at hj
   split at hj
   ·exact ⟨by omega,hj⟩
   ·cases hj
  have hiu:s - a + i < U.length:=(List.getElem?_eq_some_iff.1 hi).1
  by_cases hs:s < r0
  ·obtain ⟨x0,hx0⟩:∃ x0,U[s - a]? = some x0:=⟨_,List.getElem?_eq_getElem (by omega)⟩
   obtain ⟨y0,hy0⟩:∃ y0,V[p - s - m]? = some y0:=⟨_,List.getElem?_eq_getElem (by omega)⟩
   have h:=hhi s x0 y0 (Nat.le_refl _) hs hx0 hy0
   exact lt_of_lt_le swoR (lt_of_le_lt swoR (srt_at hV (show j ≤ p - s - m by omega) hj2.2 hy0) h) (srt_at hU (show s - a ≤ s - a + i by omega) hx0 hi)
  ·rcases hw with ⟨h,rfl,rfl⟩ | ⟨h,h3,rfl⟩ <;> omega
 ·intro x hx y hy
  obtain ⟨i,hi⟩:=List.mem_iff_getElem?.1 hx
  obtain ⟨j,hj⟩:=List.mem_iff_getElem?.1 hy
  rw [List.getElem?_drop] at hj
  have hi2:i < s - a ∧ U[i]? = some x:=by
   rw [List.getElem?_take] at hi
   split at hi
   ·exact ⟨by omega,hi⟩
   ·cases hi
  have hjv:mid + m - s - m + j < V.length:=(List.getElem?_eq_some_iff.1 hj).1
  by_cases hs:s0 < s
  ·have b1:=window_bounds hw hmid ham hmb (s:=s - 1) (by omega) (by omega)
   obtain ⟨x0,hx0⟩:∃ x0,U[s - 1 - a]? = some x0:=⟨_,List.getElem?_eq_getElem (by omega)⟩
   obtain ⟨y0,hy0⟩:∃ y0,V[p - (s - 1) - m]? = some y0:=⟨_,List.getElem?_eq_getElem (by omega)⟩
   have h:=hlo (s - 1) x0 y0 (by omega) (by omega) hx0 hy0
   exact swoR.neg _ _ _ (swoR.neg _ _ _ (srt_at hV (show p - (s - 1) - m ≤ mid + m - s - m + j by omega) hy0 hj) h) (srt_at hU (show i ≤ s - 1 - a by omega) hi2.2 hx0)
  ·rcases hw with ⟨h,rfl,rfl⟩ | ⟨h,h3,rfl⟩ <;> omega
end
def BlksOk (bs:Nat) (bl:List (List Rw)):Prop:=∀ x ∈ bl,x.length = bs ∧ Srt ltR x
theorem blks_len {bs:Nat}:∀ {bl:List (List Rw)},BlksOk bs bl → bl.flatten.length = bl.length * bs
 | [],_=>by simp
 | x :: bl,h=>by
  rw [List.flatten_cons,List.length_append,(h x (List.mem_cons_self ..)).1,blks_len fun y hy=>h y (List.mem_cons_of_mem _ hy),List.length_cons,Nat.succ_mul]
  omega
theorem BlksOk.snoc {bs:Nat} {bl:List (List Rw)} {x:List Rw} (h:BlksOk bs bl) (hx:x.length = bs ∧ Srt ltR x):BlksOk bs (bl ++ [x]):=fun y hy=>by
 rcases List.mem_append.1 hy with hy | hy
 ·exact h y hy
 ·simp at hy;subst hy;exact hx
end
end Go.Proofs.YtahpnackkmbmgaaGreatDoor.Vm
end
section
namespace Go.Proofs.YtahpnackkmbmgaaGreatDoor.Vm
open Go.RowKit
set_option maxRecDepth 100000
set_option maxHeartbeats 4000000
theorem nc (n:Nat):@NatCast.natCast Int instNatCastInt n = (n:Int):=rfl
theorem five {x:Rw} (h:x.length = 5):∃ x0 x1 x2 x3 x4,x = [x0,x1,x2,x3,x4]:=by
 match x,h with
 | [x0,x1,x2,x3,x4],_=>exact ⟨x0,x1,x2,x3,x4,rfl⟩
theorem swapL_mem {α:Type} (a b:Nat):∀ (k:Nat) (l:List α),∀ x ∈ swapL a b k l,x ∈ l
 | 0,l,x,h=>h
 | k + 1,l,x,h=>by
  unfold swapL at h
  split at h
  ·rename_i y z h1 h2
   rcases List.mem_or_eq_of_mem_set h with h | rfl
   ·rcases List.mem_or_eq_of_mem_set h with h | rfl
    ·exact swapL_mem a b k l x h
    ·exact swapL_mem a b k l _ (List.mem_of_getElem? h2)
   ·exact swapL_mem a b k l _ (List.mem_of_getElem? h1)
  ·exact swapL_mem a b k l x h
theorem swap_s (rows:List Rw) (h5:∀ x ∈ rows,x.length = 5) (a b k fid:Nat) (hN:rows.length ≤ 1048576) (hab:a + k ≤ b) (hb:b + k ≤ rows.length) :
  SpecS 127 [.own 0,vi .i64 a,vi .i64 b,vi .i64 k,.cl fid []] [.row false 85 rows] (fun res os=>res = [] ∧ os = [.row false 85 (swapL a b k rows)]):=by
 obtain ⟨za,hza⟩:∃ z:Int,z = (a:Int):=⟨_,rfl⟩
 obtain ⟨zb,hzb⟩:∃ z:Int,z = (b:Int):=⟨_,rfl⟩
 obtain ⟨zk,hzk⟩:∃ z:Int,z = (k:Int):=⟨_,rfl⟩
 rw [← hza,← hzb,← hzk]
 obtain ⟨S,hS⟩:∃ S,S = swapL a b k rows:=⟨_,rfl⟩
 rw [← hS]
 refine specs_of Tryz.func127 rfl (by kernel_rfl) (by kernel_rfl) (by kernel_rfl) rfl rfl (by rintro _ _ ⟨_,rfl⟩;rfl) fun qa qb qc qd qe qg qh qi qj qk ql qm qo qp qq qt qu qv qw qx qy qz va vc vd ve vf vg vh vj vk vl vm vn vo vp vq vr vt vu vv vw vx hA K hK=>?_
 cbv
 repeat ((with_reducible apply next_at hA);cbv)
 obtain ⟨e1,e2,e3,e4,e5,e6,e7,e8,e9⟩:=ar_at hA
 obtain ⟨r1,r2,r3,r4⟩:=row_at hA
 obtain ⟨m1,m2,m3,m4⟩:=map_at hA
 replace hza:za = (a:Int):=hza
 replace hzb:zb = (b:Int):=hzb
 replace hzk:zk = (k:Int):=hzk
 refine loop_at hA (γ:=Int × List (List D)) (fun x=>[(10,vi .i64 x.1),(29,.jk),(35,.jk)]) (fun x=>[(0,.row false 85 x.2)]) (fun x=>∃ j:Nat,x.1 = (j:Int) ∧ j ≤ k ∧ x.2 = swapL a b j rows) (fun x=>k - x.1.toNat) (0,rows) ?_ ?_ ?_
 ·exact ⟨0,rfl,Nat.zero_le _,rfl⟩
 ·cbv
 ·intro x hinv
  obtain ⟨z,L⟩:=x
  cbv
  repeat ((with_reducible apply next_at hA);cbv)
  obtain ⟨j,hz,hj,hL⟩:=hinv
  replace hz:z = (j:Int):=hz
  replace hza:za = (a:Int):=hza
  replace hzb:zb = (b:Int):=hzb
  replace hzk:zk = (k:Int):=hzk
  replace hL:L = swapL a b j rows:=hL
  have hlt:qi z zk = decide (j < k):=by rw [e7,hz,hzk];exact decide_eq_decide.2 (by omega)
  by_cases h9:j < k
  ·rw [decide_eq_true h9] at hlt
   have hLl:L.length = rows.length:=by rw [hL,swapL_len]
   obtain ⟨x,hx⟩:∃ x,L[a + j]? = some x:=⟨_,List.getElem?_eq_getElem (by omega)⟩
   obtain ⟨y,hy⟩:∃ y,L[b + j]? = some y:=⟨_,List.getElem?_eq_getElem (by omega)⟩
   have hx5:=h5 x (swapL_mem a b j rows x (by rw [← hL];exact List.mem_of_getElem? hx))
   have hy5:=h5 y (swapL_mem a b j rows y (by rw [← hL];exact List.mem_of_getElem? hy))
   obtain ⟨x0,x1,x2,x3,x4,rfl⟩:=five hx5
   obtain ⟨y0,y1,y2,y3,y4,rfl⟩:=five hy5
   have wa:qa .i64 (qb za z) = ((a + j:Nat):Int):=by rw [e1,e2,hza,hz,IntWalk.i64_in _ (by omega)];omega
   have wb:qa .i64 (qb zb z) = ((b + j:Nat):Int):=by rw [e1,e2,hzb,hz,IntWalk.i64_in _ (by omega)];omega
   have g1:vc L (qa .i64 (qb zb z)) = some [y0,y1,y2,y3,y4]:=by rw [wb,r2,if_pos (by omega),Int.toNat_natCast];exact hy
   have g2:vc L (qa .i64 (qb za z)) = some [x0,x1,x2,x3,x4]:=by rw [wa,r2,if_pos (by omega),Int.toNat_natCast];exact hx
   have g3:∀ v,vc (vf L (qa .i64 (qb za z)) v) (qa .i64 (qb zb z)) = some [y0,y1,y2,y3,y4]:=fun v=>by rw [wb,wa,r2,if_pos (by omega),m4,Int.toNat_natCast,Int.toNat_natCast,List.getElem?_set_ne (by omega)];exact hy
   have hsw:swapL a b (j + 1) rows = (L.set (a + j) [y0,y1,y2,y3,y4]).set (b + j) [x0,x1,x2,x3,x4]:=by
    rw [swapL,← hL,hx,hy]
   rw [hlt]
   cbv
   repeat ((with_reducible apply next_at hA);cbv)
   repeat (first | (rw [g1];cbv) | (rw [g2];cbv) | (rw [g3];cbv) | (with_reducible apply next_at hA;cbv))
   replace hz:z = (j:Int):=hz
   have hz1:qa .i64 (qb z 1) = ((j + 1:Nat):Int):=by rw [e1,e2,hz,IntWalk.i64_in _ (by omega)];omega
   refine ⟨(qa .i64 (qb z 1),vf (vf L (qa .i64 (qb za z)) [y0,y1,y2,y3,y4]) (qa .i64 (qb zb z)) [x0,x1,x2,x3,x4]),⟨j + 1,hz1,h9,?_⟩,?_,?_⟩
   ·show vf (vf L _ _) _ _ = _
    rw [m4,m4,wa,wb,Int.toNat_natCast,Int.toNat_natCast,hsw]
   ·show k - (qa .i64 (qb z 1)).toNat < k - z.toNat
    rw [hz1,hz]
    omega
   ·cbv
  ·rw [decide_eq_false h9] at hlt
   rw [hlt]
   cbv
   repeat ((with_reducible apply next_at hA);cbv)
   have hjk:j = k:=by omega
   exact hK [] [.row false 85 L] ⟨rfl,by rw [hS,← hjk,← hL]⟩
theorem rotate_s (P X Y S:List Rw) (h5:∀ x ∈ P ++ (X ++ (Y ++ S)),x.length = 5) (fid:Nat) (hN:(P ++ (X ++ (Y ++ S))).length ≤ 1048576) (hx:0 < X.length) (hy:0 < Y.length) :
  SpecS 126 [.own 0,vi .i64 P.length,vi .i64 (P.length + X.length:Nat),vi .i64 (P.length + X.length + Y.length:Nat),.cl fid []] [.row false 85 (P ++ (X ++ (Y ++ S)))] (fun res os=>res = [] ∧ os = [.row false 85 (P ++ (Y ++ (X ++ S)))]):=by
 obtain ⟨za,hza⟩:∃ z:Int,z = (P.length:Int):=⟨_,rfl⟩
 obtain ⟨zm,hzm⟩:∃ z:Int,z = ((P.length + X.length:Nat):Int):=⟨_,rfl⟩
 obtain ⟨zb,hzb⟩:∃ z:Int,z = ((P.length + X.length + Y.length:Nat):Int):=⟨_,rfl⟩
 obtain ⟨L,hL⟩:∃ L,L = P ++ (X ++ (Y ++ S)):=⟨_,rfl⟩
 obtain ⟨M,hM⟩:∃ M,M = P ++ (Y ++ (X ++ S)):=⟨_,rfl⟩
 rw [← hza,← hzm,← hzb,← hM,← hL]
 rw [← hL] at h5 hN
 have hLl:L.length = P.length + X.length + Y.length + S.length:=by rw [hL];simp only [List.length_append];omega
 refine specs_of Tryz.func126 rfl (by kernel_rfl) (by kernel_rfl) (by kernel_rfl) rfl rfl (by rintro _ _ ⟨_,rfl⟩;rfl) fun qa qb qc qd qe qg qh qi qj qk ql qm qo qp qq qt qu qv qw qx qy qz va vc vd ve vf vg vh vj vk vl vm vn vo vp vq vr vt vu vv vw vx hA K hK=>?_
 cbv
 repeat ((with_reducible apply next_at hA);cbv)
 try simp (maxSteps:=4000000) only [nc] at *
 obtain ⟨e1,e2,e3,e4,e5,e6,e7,e8,e9⟩:=ar_at hA
 have wi:qa .i64 (qc zm za) = (X.length:Int):=by rw [e1,e3,hza,hzm,IntWalk.i64_in _ (by omega)];omega
 have wj:qa .i64 (qc zb zm) = (Y.length:Int):=by rw [e1,e3,hzb,hzm,IntWalk.i64_in _ (by omega)];omega
 refine loop_at hA (γ:=Int × Int × List (List D)) (fun x=>[(10,vi .i64 x.1),(11,vi .i64 x.2.1)]) (fun x=>[(0,.row false 85 x.2.2)])
  (fun x=>∃ P' X' Y' S':List Rw,0 < X'.length ∧ 0 < Y'.length ∧ P'.length + X'.length = P.length + X.length ∧ x.1 = (X'.length:Int) ∧ x.2.1 = (Y'.length:Int) ∧ P' ++ (Y' ++ (X' ++ S')) = M ∧ x.2.2 = P' ++ (X' ++ (Y' ++ S')) ∧ x.2.2.length = L.length ∧ ∀ r ∈ x.2.2,r.length = 5) (fun x=>x.1.toNat + x.2.1.toNat) (qa .i64 (qc zm za),qa .i64 (qc zb zm),L) ?_ ?_ ?_
 ·exact ⟨P,X,Y,S,hx,hy,rfl,wi,wj,hM.symm,hL,rfl,h5⟩
 ·cbv
 ·intro x hinv
  obtain ⟨zi,zj,Q⟩:=x
  cbv
  repeat ((with_reducible apply next_at hA);cbv)
  try simp (maxSteps:=4000000) only [nc] at *
  obtain ⟨P',X',Y',S',hx',hy',hm,hi,hj,he,hQ,hQl,hQ5⟩:=hinv
  replace hQ:Q = P' ++ (X' ++ (Y' ++ S')):=hQ
  replace hQl:Q.length = L.length:=hQl
  have hQl2:Q.length = P'.length + X'.length + Y'.length + S'.length:=by rw [hQ];simp only [List.length_append];omega
  have heq:qk zi zj = (zi == zj):=e9 _ _
  have hgt:qi zj zi = decide (Y'.length < X'.length):=by rw [e7,hi,hj];exact decide_eq_decide.2 (by omega)
  have wp:qa .i64 (qc zm zi) = (P'.length:Int):=by rw [e1,e3,hzm,hi,IntWalk.i64_in _ (by omega)];omega
  by_cases hij:X'.length = Y'.length
  ·have h1:qk zi zj = true:=by rw [heq,hi,hj,hij];exact beq_self_eq_true _
   have hsp:=swapL_split P' X' [] Y' S' hij
   rw [List.nil_append,List.nil_append,← hQ,he,List.length_nil,Nat.add_zero] at hsp
   have hsw:=swap_s Q hQ5 P'.length (P'.length + X'.length) X'.length fid (by omega) (Nat.le_refl _) (by omega)
   rw [hsp,← wp,hm,← hzm,← hi] at hsw
   rw [h1]
   cbv
   repeat ((with_reducible apply next_at hA);cbv)
   try simp (maxSteps:=4000000) only [nc] at *
   refine calls_at hA [0] hsw ⟨rfl,rfl,rfl,rfl,rfl,rfl,rfl⟩ ?_
   rintro res os2 ⟨rfl,rfl⟩
   cbv
   repeat ((with_reducible apply next_at hA);cbv)
   try simp (maxSteps:=4000000) only [nc] at *
   exact hK [] [.row false 85 M] ⟨rfl,rfl⟩
  ·have h1:qk zi zj = false:=by rw [heq,hi,hj,beq_eq_false_iff_ne];omega
   rw [h1]
   cbv
   repeat ((with_reducible apply next_at hA);cbv)
   try simp (maxSteps:=4000000) only [nc] at *
   by_cases hlt:Y'.length < X'.length
   ·rw [decide_eq_true hlt] at hgt
    obtain ⟨X1,X2,hX,hX1⟩:=split_at (l:=X') (n:=Y'.length) (by omega)
    have hX2:Y'.length + X2.length = X'.length:=by rw [hX,List.length_append];omega
    have hsp:=swapL_split P' X1 X2 Y' S' hX1
    have hQ2:P' ++ (X1 ++ (X2 ++ (Y' ++ S'))) = Q:=by rw [hQ,hX];simp only [List.append_assoc]
    rw [hQ2,hX1] at hsp
    have hsw:=swap_s Q hQ5 P'.length (P'.length + Y'.length + X2.length) Y'.length fid (by omega) (by omega) (by omega)
    rw [hsp,show P'.length + Y'.length + X2.length = P.length + X.length by omega,← wp,← hzm,← hj] at hsw
    rw [hgt]
    cbv
    repeat ((with_reducible apply next_at hA);cbv)
    try simp (maxSteps:=4000000) only [nc] at *
    refine calls_at hA [0] hsw ⟨rfl,rfl,rfl,rfl,rfl,rfl,rfl⟩ ?_
    rintro res os2 ⟨rfl,rfl⟩
    cbv
    repeat ((with_reducible apply next_at hA);cbv)
    try simp (maxSteps:=4000000) only [nc] at *
    have wz:qa .i64 (qc zi zj) = (X2.length:Int):=by rw [e1,e3,hi,hj,IntWalk.i64_in _ (by omega)];omega
    have hmu:(qa .i64 (qc zi zj)).toNat + zj.toNat < zi.toNat + zj.toNat:=by rw [wz,hi,hj];omega
    refine ⟨(qa .i64 (qc zi zj),zj,P' ++ (Y' ++ (X2 ++ (X1 ++ S')))),⟨P' ++ Y',X2,X1,S',by omega,by omega,by rw [List.length_append];omega,wz,by rw [hX1];exact hj,?_,by simp only [List.append_assoc],?_,?_⟩,hmu,?_⟩
    ·rw [← he,hX];simp only [List.append_assoc]
    ·show (P' ++ (Y' ++ (X2 ++ (X1 ++ S')))).length = L.length
     rw [← hQl,← hQ2];simp only [List.length_append];omega
    ·intro r hr
     refine hQ5 r ?_
     rw [← hQ2]
     simp only [List.mem_append] at hr ⊢
     grind
    ·cbv
   ·rw [decide_eq_false hlt] at hgt
    obtain ⟨Y1,Y2,hY,hY1⟩:=split_at (l:=Y') (n:=Y'.length - X'.length) (by omega)
    have hY2:Y2.length = X'.length:=by have:=congrArg List.length hY;rw [List.length_append] at this;omega
    have hsp:=swapL_split P' X' Y1 Y2 S' hY2.symm
    have hQ2:P' ++ (X' ++ (Y1 ++ (Y2 ++ S'))) = Q:=by rw [hQ,hY];simp only [List.append_assoc]
    rw [hQ2] at hsp
    have hsw:=swap_s Q hQ5 P'.length (P'.length + X'.length + Y1.length) X'.length fid (by omega) (by omega) (by omega)
    have wq:qa .i64 (qc (qa .i64 (qb zm zj)) zi) = ((P'.length + X'.length + Y1.length:Nat):Int):=by
     have h2:qa .i64 (qb zm zj) = ((P.length + X.length + Y'.length:Nat):Int):=by rw [e1,e2,hzm,hj,IntWalk.i64_in _ (by omega)];omega
     rw [h2,e1,e3,hi,IntWalk.i64_in _ (by omega)];omega
    rw [hsp,← wp,← wq,← hi] at hsw
    rw [hgt]
    cbv
    repeat ((with_reducible apply next_at hA);cbv)
    try simp (maxSteps:=4000000) only [nc] at *
    refine calls_at hA [0] hsw ⟨rfl,rfl,rfl,rfl,rfl,rfl,rfl⟩ ?_
    rintro res os2 ⟨rfl,rfl⟩
    cbv
    repeat ((with_reducible apply next_at hA);cbv)
    try simp (maxSteps:=4000000) only [nc] at *
    have wz:qa .i64 (qc zj zi) = (Y1.length:Int):=by rw [e1,e3,hi,hj,IntWalk.i64_in _ (by omega)];omega
    have hmu:zi.toNat + (qa .i64 (qc zj zi)).toNat < zi.toNat + zj.toNat:=by rw [wz,hi,hj];omega
    refine ⟨(zi,qa .i64 (qc zj zi),P' ++ (Y2 ++ (Y1 ++ (X' ++ S')))),⟨P',Y2,Y1,X' ++ S',by omega,by omega,by omega,by rw [hY2];exact hi,wz,?_,rfl,?_,?_⟩,hmu,?_⟩
    ·rw [← he,hY];simp only [List.append_assoc]
    ·show (P' ++ (Y2 ++ (Y1 ++ (X' ++ S')))).length = L.length
     rw [← hQl,← hQ2];simp only [List.length_append];omega
    ·intro r hr
     refine hQ5 r ?_
     rw [← hQ2]
     simp only [List.mem_append] at hr ⊢
     grind
    ·cbv
def cmpB (a b:List UInt8):Int:=if Op.bytesLess a b = true then -1 else if Op.bytesLess b a = true then 1 else 0
theorem cmpB_neg (a b:List UInt8):decide (cmpB a b < 0) = Op.bytesLess a b:=by
 unfold cmpB
 split
 ·simp_all
 ·split <;> simp_all
def CmpS (fid:Nat):Prop:=∀ (n m:ByteArray) (x1 x2 x3 x4 y1 y2 y3 y4:D),Spec fid [.ag [.sc (.string n),x1,x2,x3,x4],.ag [.sc (.string m),y1,y2,y3,y4]] [.one (.sc (.int .i64 (cmpB n.toList m.toList)))]
def Ok5 (x:Rw):Prop:=∃ n x1 x2 x3 x4,x = [.sc (.string n),x1,x2,x3,x4]
theorem Ok5.len {x:Rw} (h:Ok5 x):x.length = 5:=by obtain ⟨n,x1,x2,x3,x4,rfl⟩:=h;rfl
theorem sortS_snoc (l:List Rw) (x:Rw) {m:List Rw} (hs:Srt ltR m) (ht:Sta ltR m (sortS ltR l ++ [x])):m = sortS ltR (l ++ [x]):=sort_is swoR hs (ht.trans (Sta.append (sort_sta swoR l) (.refl _)))
theorem insert_s (fid:Nat) (hc:CmpS fid) (P D S:List Rw) (h5:∀ x ∈ P ++ (D ++ S),Ok5 x) (hN:(P ++ (D ++ S)).length ≤ 1048576) :
  SpecS 121 [.own 0,vi .i64 P.length,vi .i64 (P.length + D.length:Nat),.cl fid []] [.row false 85 (P ++ (D ++ S))] (fun res os=>res = [] ∧ os = [.row false 85 (P ++ (sortS ltR D ++ S))]):=by
 obtain ⟨za,hza⟩:∃ z:Int,z = (P.length:Int):=⟨_,rfl⟩
 obtain ⟨zb,hzb⟩:∃ z:Int,z = ((P.length + D.length:Nat):Int):=⟨_,rfl⟩
 obtain ⟨L,hL⟩:∃ L,L = P ++ (D ++ S):=⟨_,rfl⟩
 obtain ⟨M,hM⟩:∃ M,M = P ++ (sortS ltR D ++ S):=⟨_,rfl⟩
 rw [← hza,← hzb,← hM,← hL]
 rw [← hL] at h5 hN
 have hLl:L.length = P.length + D.length + S.length:=by rw [hL];simp only [List.length_append];omega
 refine specs_of Tryz.func121 rfl (by kernel_rfl) (by kernel_rfl) (by kernel_rfl) rfl rfl (by rintro _ _ ⟨_,rfl⟩;rfl) fun qa qb qc qd qe qg qh qi qj qk ql qm qo qp qq qt qu qv qw qx qy qz va vc vd ve vf vg vh vj vk vl vm vn vo vp vq vr vt vu vv vw vx hA K hK=>?_
 cbv
 repeat ((with_reducible apply next_at hA);cbv)
 try simp (maxSteps:=4000000) only [nc] at *
 obtain ⟨e1,e2,e3,e4,e5,e6,e7,e8,e9⟩:=ar_at hA
 obtain ⟨r1,r2,r3,r4⟩:=row_at hA
 obtain ⟨m1,m2,m3,m4⟩:=map_at hA
 have wi:qa .i64 (qb za 1) = ((P.length + 1 + 0:Nat):Int):=by rw [e1,e2,hza,IntWalk.i64_in _ (by omega)];omega
 refine loop_at hA (γ:=Int × List Rw) (fun x=>[(8,vi .i64 x.1)]) (fun x=>[(0,.row false 85 x.2)])
  (fun x=>∃ k:Nat,x.1 = ((P.length + 1 + k:Nat):Int) ∧ (k = 0 ∨ k + 1 ≤ D.length) ∧ x.2 = P ++ (sortS ltR (D.take (k + 1)) ++ (D.drop (k + 1) ++ S)) ∧ x.2.length = L.length ∧ ∀ r ∈ x.2,r ∈ L) (fun x=>L.length + 1 - x.1.toNat) (qa .i64 (qb za 1),L) ?_ ?_ ?_
 ·refine ⟨0,wi,.inl rfl,?_,rfl,fun r h=>h⟩
  have:sortS ltR (D.take 1) = D.take 1:=by
   cases D with
   | nil=>rfl
   | cons d D=>rfl
  show L = _
  rw [this,hL,← List.append_assoc (D.take 1),List.take_append_drop]
 ·cbv
 ·intro x hinv
  obtain ⟨z,Q⟩:=x
  cbv
  repeat ((with_reducible apply next_at hA);cbv)
  try simp (maxSteps:=4000000) only [nc] at *
  obtain ⟨k,hz,hk,hQ,hQl,hQm⟩:=hinv
  have hlt:qi z zb = decide (k + 1 < D.length):=by rw [e7,hz,hzb];exact decide_eq_decide.2 (by omega)
  by_cases h9:k + 1 < D.length
  ·rw [decide_eq_true h9] at hlt
   obtain ⟨x,hx⟩:∃ x,D[k + 1]? = some x:=⟨_,List.getElem?_eq_getElem h9⟩
   obtain ⟨hxi,hxe⟩:=List.getElem?_eq_some_iff.1 hx
   obtain ⟨D1,hD1⟩:∃ D1,D1 = D.take (k + 1):=⟨_,rfl⟩
   obtain ⟨D2,hD2⟩:∃ D2,D2 = D.drop (k + 1 + 1):=⟨_,rfl⟩
   have hdrop:D.drop (k + 1) = x :: D2:=by rw [hD2,List.drop_eq_getElem_cons hxi,hxe]
   have htake:D.take (k + 1 + 1) = D1 ++ [x]:=by rw [hD1];exact take_one hx
   rw [← hD1,hdrop] at hQ
   obtain ⟨E,hE⟩:∃ E,E = sortS ltR D1:=⟨_,rfl⟩
   rw [← hE] at hQ
   have hEl:E.length = k + 1:=by rw [hE,sortS_len,hD1,List.length_take];omega
   have hEs:Srt ltR E:=by rw [hE];exact sort_srt swoR D1
   have hxm:x ∈ L:=hQm x (by rw [hQ];simp)
   obtain ⟨nx,x1,x2,x3,x4,hxx⟩:=h5 x hxm
   rw [hlt]
   cbv
   repeat ((with_reducible apply next_at hA);cbv)
   try simp (maxSteps:=4000000) only [nc] at *
   refine loop_at hA (γ:=Int × List Rw) (fun x=>[(9,vi .i64 x.1)]) (fun x=>[(0,.row false 85 x.2)])
    (fun y=>∃ L1 L2:List Rw,y.1 = ((P.length + L1.length:Nat):Int) ∧ E = L1 ++ L2 ∧ (∀ r ∈ L2,ltR x r = true) ∧ y.2 = P ++ (L1 ++ (x :: (L2 ++ (D2 ++ S)))) ∧ y.2.length = L.length ∧ ∀ r ∈ y.2,r ∈ L) (fun y=>y.1.toNat) (z,Q) ?_ ?_ ?_
   ·exact ⟨E,[],by rw [hEl];show z = _;rw [hz];congr 1;omega,by simp,by simp,by rw [hQ];simp,hQl,hQm⟩
   ·cbv
   ·intro y hinv
    obtain ⟨zj,N⟩:=y
    cbv
    repeat ((with_reducible apply next_at hA);cbv)
    try simp (maxSteps:=4000000) only [nc] at *
    obtain ⟨L1,L2,hj,hEE,hL2,hNN,hNl,hNm⟩:=hinv
    have hLAST:=fun (h1:∀ y ∈ L1,ltR x y = false)=>put_one_right swoR (x:=x) (u1:=L1) (u2:=L2) (by rw [← hEE];exact hEs) h1 hL2
    have hNl2:N.length = P.length + L1.length + 1 + L2.length + D2.length + S.length:=by rw [hNN];simp only [List.length_append,List.length_cons];omega
    have hz1:qa .i64 (qb z 1) = ((P.length + 1 + (k + 1):Nat):Int):=by rw [e1,e2,hz,IntWalk.i64_in _ (by omega)];omega
    have hmz:L.length + 1 - (qa .i64 (qb z 1)).toNat < L.length + 1 - z.toNat:=by rw [hz1,hz];omega
    have hdone:(∀ y ∈ L1,ltR x y = false) → N = P ++ (sortS ltR (D.take (k + 1 + 1)) ++ (D.drop (k + 1 + 1) ++ S)):=fun h=>by
     obtain ⟨h1,h2⟩:=hLAST h
     have h3:L1 ++ x :: L2 = sortS ltR (D1 ++ [x]):=sortS_snoc D1 x h1 (by rw [← hE,hEE];exact h2)
     rw [htake,← hD2,← h3,hNN]
     simp
    rcases (show L1 = [] ∨ ∃ L y,L1 = L ++ [y] by simpa [List.concat_eq_append] using List.eq_nil_or_concat L1) with hnil | ⟨L0,y,hsn⟩
    ·have hlt2:qi za zj = false:=by rw [e7,hza,hj,hnil];simp
     rw [hlt2]
     cbv
     repeat ((with_reducible apply next_at hA);cbv)
     try simp (maxSteps:=4000000) only [nc] at *
     refine ⟨(qa .i64 (qb z 1),N),⟨k + 1,hz1,.inr h9,hdone (by rw [hnil];simp),hNl,hNm⟩,hmz,?_⟩
     cbv
    ·have hl1:L1.length = L0.length + 1:=by rw [hsn];simp
     have hlt2:qi za zj = true:=by rw [e7,hza,hj];exact decide_eq_true (by omega)
     have hym:y ∈ L:=hNm y (by rw [hNN,hsn];simp)
     obtain ⟨ny,y1,y2,y3,y4,hyy⟩:=h5 y hym
     have wj:qa .i64 (qc zj 1) = ((P.length + L0.length:Nat):Int):=by rw [e1,e3,hj,IntWalk.i64_in _ (by omega)];omega
     have hNP:N = (P ++ L0) ++ y :: x :: (L2 ++ (D2 ++ S)):=by rw [hNN,hsn];simp
     have hpl:(P ++ L0).length = P.length + L0.length:=List.length_append
     have gx:vc N zj = some [.sc (.string nx),x1,x2,x3,x4]:=by
      rw [r2,if_pos (by omega),hj,Int.toNat_natCast,hNP,List.getElem?_append_right (by omega),hpl,show P.length + L1.length - (P.length + L0.length) = 1 by omega,← hxx]
      rfl
     have gy:vc N (qa .i64 (qc zj 1)) = some [.sc (.string ny),y1,y2,y3,y4]:=by
      rw [wj,r2,if_pos (by omega),Int.toNat_natCast,hNP,List.getElem?_append_right (by omega),hpl,Nat.sub_self,← hyy]
      rfl
     have gy2:∀ v,vc (vf N zj v) (qa .i64 (qc zj 1)) = some [.sc (.string ny),y1,y2,y3,y4]:=fun v=>by
      rw [← gy,r2,r2,m4,wj,hj,Int.toNat_natCast,Int.toNat_natCast,List.getElem?_set_ne (by omega)]
     have hcmp:=hc nx ny x1 x2 x3 x4 y1 y2 y3 y4
     have hneg:qi (cmpB nx.toList ny.toList) 0 = ltR x y:=by rw [e7,cmpB_neg,hxx,hyy];rfl
     generalize cmpB nx.toList ny.toList = cv at *
     rw [hlt2]
     cbv
     repeat ((with_reducible apply next_at hA);cbv)
     try simp (maxSteps:=4000000) only [nc] at *
     repeat (first | (rw [gx];cbv) | (rw [gy];cbv) | (with_reducible apply next_at hA;cbv))
     refine calm_at hA _ hcmp ?_
     cbv
     cases hb:ltR x y
     ·rw [hb] at hneg
      rw [hneg]
      cbv
      repeat ((with_reducible apply next_at hA);cbv)
      try simp (maxSteps:=4000000) only [nc] at *
      refine ⟨(qa .i64 (qb z 1),N),⟨k + 1,hz1,.inr h9,hdone ?_,hNl,hNm⟩,hmz,?_⟩
      ·rw [hsn]
       exact all_le (by rw [← hsn];exact (srt_append.1 (by rw [← hEE];exact hEs)).1) hb
      ·cbv
     ·rw [hb] at hneg
      rw [hneg]
      cbv
      repeat ((with_reducible apply next_at hA);cbv)
      try simp (maxSteps:=4000000) only [nc] at *
      repeat (first | (rw [gx];cbv) | (rw [gy];cbv) | (rw [gy2];cbv) | (with_reducible apply next_at hA;cbv))
      try simp only [nc] at *
      refine ⟨(qa .i64 (qc zj 1),vf (vf N zj [.sc (.string ny),y1,y2,y3,y4]) (qa .i64 (qc zj 1)) [.sc (.string nx),x1,x2,x3,x4]),⟨L0,y :: L2,wj,by rw [hEE,hsn];simp,?_,?_,?_,?_⟩,?_,?_⟩
      ·intro r hr
       rcases List.mem_cons.1 hr with rfl | hr
       ·exact hb
       ·exact hL2 r hr
      ·show vf (vf N zj _) _ _ = _
       rw [m4,m4,wj,hj,Int.toNat_natCast,Int.toNat_natCast,hNP,← hxx,← hyy,show P.length + L1.length = P.length + L0.length + 1 by omega,swap_adj _ _ _ _ hpl]
       simp
      ·show (vf (vf N zj _) _ _).length = _
       rw [m4,m4,List.length_set,List.length_set]
       exact hNl
      ·intro r hr
       have hr:r ∈ vf (vf N zj [.sc (.string ny),y1,y2,y3,y4]) (qa .i64 (qc zj 1)) [.sc (.string nx),x1,x2,x3,x4]:=hr
       rw [m4,m4,← hxx,← hyy] at hr
       rcases List.mem_or_eq_of_mem_set hr with hr | rfl
       ·rcases List.mem_or_eq_of_mem_set hr with hr | rfl
        ·exact hNm r hr
        ·exact hym
       ·exact hxm
      ·show (qa .i64 (qc zj 1)).toNat < zj.toNat
       rw [wj,hj]
       omega
      ·cbv
  ·rw [decide_eq_false h9] at hlt
   rw [hlt]
   cbv
   repeat ((with_reducible apply next_at hA);cbv)
   try simp (maxSteps:=4000000) only [nc] at *
   have e:Q = M:=by rw [hQ,hM,List.take_of_length_le (by omega),List.drop_eq_nil_of_le (by omega)];rfl
   rw [e]
   exact hK [] [.row false 85 M] ⟨rfl,rfl⟩
end Go.Proofs.YtahpnackkmbmgaaGreatDoor.Vm
end

/- Part 8 of the proof: VSee, VMove, VOwnBox, VFld, SortLaw, VCanLaw, VRFields, VRFieldsO, VSLaw, VSort1, VSort2. Conditions: none. -/
import Derived.Test.YtclehkgnacekkaaM1
import Derived.Test.YtclehkgnacekkaaM3
import Derived.IntWalk
set_option linter.all false
set_option linter.unusedVariables false
set_option linter.unusedSimpArgs false
section
namespace Go.Proofs.Ytclehkgnacekkaa.Vm
open Go.RowKit
theorem toD_jk (os : List O) (d : D) : toD os .jk ≠ some d := fun h => by rw [toD] at h <;> first | cases h | simp
theorem Ghost.read (s : S) (i : Nat) (d : D) (hi : toD s.o (getN s.t i) = some d) : Ghost s ⟨setN s.t i (.d d), s.o⟩ := by
  rintro I0 X w0 a w ⟨I, g, h⟩
  have hj : getN s.t i ≠ .jk := fun e => toD_jk _ _ (e ▸ hi)
  exact ⟨I, g, h.reread fun v hv => .d (toD_at h (h.tmp.2 i v _ hv (getN_some rfl hj)) hi)⟩
theorem Ghost.nil (s : S) (i z : Nat) (L : List (List D)) (hL : L = []) (hi : getN s.t i = .em) : Ghost s ⟨setN s.t i (.d (.sl z L)), s.o⟩ := by
  subst hL
  rintro I0 X w0 a w ⟨I, g, h⟩
  refine ⟨I, g, h.reread fun v hv => ?_⟩
  have h4 := h.tmp.2 i v _ hv (getN_some hi (by simp))
  rw [h4.unem]
  exact .d (.nil _ _ _)
section
variable {qa : IntKind → Int → Int} {qb : Int → Int → Int} {qc : Int → Int → Int} {qd : Int → Int → Int} {qe : Int → Int → Int} {qf : Int → Int → Int} {qg : BinOp → IntKind → Int → IntKind → Int → Option Int} {qh : Int → Int → Bool} {qi : Int → Int → Bool} {qj : Int → Int → Bool} {qk : Int → Prop → Prop} {ql : List UInt8 → List UInt8 → Bool} {qm : List UInt8 → List UInt8 → Bool} {qo : ByteArray → List UInt8} {qp : ByteArray → ByteArray → ByteArray} {qs : ByteArray → ByteArray → Prop → Prop} {qt : ByteArray → Int} {qu : ByteArray → Int → Option Int} {qv : ByteArray → Int → Int → Option ByteArray} {qx : Int → Nat → Option Nat} {qy : List (List D) → Int} {qz : List (List D) → Int → Option (List D)} {va : List (List D) → Int → Int → Option (List (List D))} {vc : List (List D) → List (List D) → List (List D)} {vd : List (List D) → Int → List D → List (List D)} {ve : List (List D) → List (List D) → Prop → Prop} {vf : List (R × R) → R → Option R} {vg : List (R × R) → R → R → List (R × R)} {vh : Int → List D → (List (List D) → Prop) → Prop} {vj : Nat → List R → (List R → Prop) → Prop} {vk : Nat → List V → List O → (V → Prop) → Prop} {vl : Nat → List V → S → (V → S → Prop) → Prop} {vm : Nat → (Bool → Prop) → Prop} {vn : Nat → (Bool → Prop) → Prop} {vo : Nat → (List V → List O → Prop) → List V → S → Prop} {vp : (S → Prop) → S → Prop} {vq : Op → Option Nat → S → (S → Prop) → Prop} {vr : Array Oper → S → (S → Prop) → Prop} {vt : Code → (S → (X → S → Prop) → Prop) → S → (X → S → Prop) → Prop}
theorem reado_at (hA : Ar.mk qa qb qc qd qe qf qg qh qi qj qk ql qm qo qp qs qt qu qv qx qy qz va vc vd ve vf vg vh vj vk vl vm vn vo vp vq vr vt = real) {N : S → Prop} {s : S} (i k : Nat) (d : D) (hk : getN s.t i = .own k) (hi : toD s.o (.own k) = some d) (h : N ⟨setN s.t i (.d d), s.o⟩) : vp N s := ghost_at hA _ (Ghost.read s i d (hk ▸ hi)) h
end
end Go.Proofs.Ytclehkgnacekkaa.Vm
end
section
namespace Go.Proofs.Ytclehkgnacekkaa.Vm
open Go.RowKit
section
variable {I0 : Nat → Nat → Prop} {X : Nat → Prop} {w0 : W0} {I : Nat → Nat → Prop} {g : Nat → Value} {s : S} {a : Act} {w : World}
theorem RelI.move (h : RelI I0 X w0 I g s a w) {j k : Nat} {z z' : Bool} {e e' : Nat} {R R' : List (List D)} (hj : s.o[j]? = some (.row z e R)) (hk : s.o[k]? = some (.row z' e' R')) (hjk : j ≠ k) :
    RelI I0 X w0 I (upd g j (g k)) ⟨killT j s.t, ((killO j s.o).set k .dead).set j (.row z' e' R')⟩ a w := by
  have hlt := (List.getElem?_eq_some_iff.1 hj).1
  have hltk := (List.getElem?_eq_some_iff.1 hk).1
  obtain ⟨usj, hown, _⟩ := h.obj j _ hj
  have hnp : isRef (g j) = true → upd g j (g k) j = g j := fun hr => by rcases hown.2 with ⟨e1, _⟩ | ⟨_, _, _, e1, _⟩ <;> rw [e1] at hr <;> cases hr
  have hg' : ∀ i, i ≠ j → upd g j (g k) i = g i := fun i hi => upd_ne hi
  have hlk : live s k := ⟨_, hk, by simp⟩
  have hget : ∀ i o, (((killO j s.o).set k .dead).set j (.row z' e' R'))[i]? = some o → o ≠ .dead → (i = j ∧ o = .row z' e' R') ∨ (i ≠ j ∧ i ≠ k ∧ (killO j s.o)[i]? = some o) := fun i o ho hd => by
    by_cases hij : j = i
    · subst hij
      rw [List.getElem?_set_self (by rw [List.length_set, killO_len]; exact hlt)] at ho
      injection ho with ho
      exact .inl ⟨rfl, ho.symm⟩
    · rw [List.getElem?_set_ne hij] at ho
      by_cases hik : k = i
      · subst hik
        rw [List.getElem?_set_self (by rw [killO_len]; exact hltk)] at ho
        injection ho with ho
        exact absurd ho.symm hd
      · rw [List.getElem?_set_ne hik] at ho
        exact .inr ⟨Ne.symm hij, Ne.symm hik, ho⟩
  refine ⟨h.im, h.lt, h.fr, h.kp, by simp only [List.length_set, killO_len]; exact h.lo, fun i hi hr => ?_, fun i o ho => ?_, fun i i' b hi hi' hb hb' => ?_, fun i hi => ?_, killT_at hg' hnp h.tmp, h.dfr⟩
  · have e := h.st i hi hr
    refine (hg' i fun ej => ?_).trans e
    subst ej
    rw [← e] at hr
    rcases hown.2 with ⟨e1, _⟩ | ⟨_, _, _, e1, _⟩ <;> rw [e1] at hr <;> cases hr
  · by_cases hd : o = .dead
    · subst hd; exact True.intro
    rcases hget i o ho hd with ⟨rfl, rfl⟩ | ⟨hij, hik, ho⟩
    · obtain ⟨us, h1, h2, h3, h4⟩ := h.obj k _ hk
      exact ⟨us, by rw [upd_same]; exact h1, h2, h3, by rw [upd_same]; exact h4⟩
    · obtain ⟨o', ho', hdd, hsh⟩ := killO_get j s.o i o ho
      have hob := h.obj i o' ho'
      rcases hsh with ⟨cs, rfl, rfl⟩ | ⟨ks, rfl, rfl⟩ | ⟨rfl, hnb, hnf⟩
      · obtain ⟨b, us, t, h1, h2, h3, h4⟩ := hob
        exact ⟨b, us, t, by rw [upd_ne hij]; exact h1, h2, killL_at hg' hnp h3, h4⟩
      · obtain ⟨us, h1, h2, h3⟩ := hob
        refine ⟨us, by rw [upd_ne hij]; exact h1, h2, fun i2 u hu => ?_⟩
        by_cases e : i2 = j
        · exact .inr (.inr (by rw [e]; exact List.mem_cons_self ..))
        · rcases h3 i2 u hu with h4 | h4 | h4
          · exact .inl h4
          · exact .inr (.inl (by rw [upd_ne e]; exact h4))
          · exact .inr (.inr (List.mem_cons_of_mem _ h4))
      · cases o with
        | dead => exact True.intro
        | box cs => exact absurd rfl (hnb cs)
        | kl ks => exact absurd rfl (hnf ks)
        | mp kt es =>
          obtain ⟨b, l, c, h1, h2⟩ := hob
          exact ⟨b, l, c, by rw [upd_ne hij]; exact h1, h2⟩
        | it P =>
          obtain ⟨A, n, cap, F, h1, h2⟩ := hob
          exact ⟨A, n, cap, F, by rw [upd_ne hij]; exact h1, h2⟩
        | row z2 e2 rows =>
          obtain ⟨us, h1, h2, h3, h4⟩ := hob
          exact ⟨us, by rw [upd_ne hij]; exact h1, h2, h3, by rw [upd_ne hij]; exact h4⟩
  · have back : ∀ i, live ⟨killT j s.t, ((killO j s.o).set k .dead).set j (.row z' e' R')⟩ i → ∃ i2, live s i2 ∧ upd g j (g k) i = g i2 ∧ ((i = j ∧ i2 = k) ∨ (i ≠ j ∧ i2 = i ∧ i ≠ k)) := fun i hl => by
      obtain ⟨o, ho, hd⟩ := hl
      rcases hget i o ho hd with ⟨rfl, rfl⟩ | ⟨hij, hik, ho⟩
      · exact ⟨k, hlk, upd_same .., .inl ⟨rfl, rfl⟩⟩
      · obtain ⟨o', ho', hdd, _⟩ := killO_get j s.o i o ho
        exact ⟨i, ⟨o', ho', hdd hd⟩, upd_ne hij, .inr ⟨hij, rfl, hik⟩⟩
    obtain ⟨i2, l2, e2, c2⟩ := back i hi
    obtain ⟨i3, l3, e3, c3⟩ := back i' hi'
    rw [e2] at hb
    rw [e3] at hb'
    have := h.dis i2 i3 b l2 l3 hb hb'
    omega
  · simp only [List.length_set, killO_len] at hi
    rw [upd_ne (by omega)]
    exact h.out i hi
end
theorem Ghost.move (s : S) (i j k : Nat) (hjk : eqN j k = false) {z z' : Bool} {e e' : Nat} {R R' : List (List D)} (hi : getN s.t i = .own k) (hj : getO s.o j = .row z e R) (hk : getO s.o k = .row z' e' R') :
    Ghost s ⟨setN (killT j s.t) i (.own j), setO (setO (killO j s.o) k .dead) j (.row z' e' R')⟩ := by
  rintro I0 X w0 a w ⟨I, g, h⟩
  have hne : j ≠ k := eqN_no.1 hjk
  have h2 := h.move (getO_some hj (by simp)) (getO_some hk (by simp)) hne
  refine ⟨I, upd g j (g k), ?_⟩
  rw [setO_is, setO_is]
  refine RelI.reread (s := ⟨killT j s.t, ((killO j s.o).set k .dead).set j (.row z' e' R')⟩) h2 fun v hv => ?_
  have h4 := h.tmp.2 i v _ hv (getN_some hi (by simp))
  cases h4 with
  | own _ A n cap hg => exact .own _ _ _ _ (by rw [upd_same]; exact hg)
theorem GhostN.of {n : Nat} {s s1 s2 : S} (h : Ghost s s1) (hw : weak s1 s2) (hl : n ≤ lenO s2.o) : GhostN n s s2 := fun I0 X w0 a w hn hr => (h _ _ _ _ _ hr).weak (Nat.le_trans hn (by rw [← lenO_is]; exact hl)) (.inr hw)
def headM (c : Code) (s : S) (l : List (Nat × V)) (m : List (Nat × O)) (x : List O) : S := ⟨setsT l (forget (wr c []) s.t), appO (setsO m s.o) x⟩
section
variable {qa : IntKind → Int → Int} {qb : Int → Int → Int} {qc : Int → Int → Int} {qd : Int → Int → Int} {qe : Int → Int → Int} {qf : Int → Int → Int} {qg : BinOp → IntKind → Int → IntKind → Int → Option Int} {qh : Int → Int → Bool} {qi : Int → Int → Bool} {qj : Int → Int → Bool} {qk : Int → Prop → Prop} {ql : List UInt8 → List UInt8 → Bool} {qm : List UInt8 → List UInt8 → Bool} {qo : ByteArray → List UInt8} {qp : ByteArray → ByteArray → ByteArray} {qs : ByteArray → ByteArray → Prop → Prop} {qt : ByteArray → Int} {qu : ByteArray → Int → Option Int} {qv : ByteArray → Int → Int → Option ByteArray} {qx : Int → Nat → Option Nat} {qy : List (List D) → Int} {qz : List (List D) → Int → Option (List D)} {va : List (List D) → Int → Int → Option (List (List D))} {vc : List (List D) → List (List D) → List (List D)} {vd : List (List D) → Int → List D → List (List D)} {ve : List (List D) → List (List D) → Prop → Prop} {vf : List (R × R) → R → Option R} {vg : List (R × R) → R → R → List (R × R)} {vh : Int → List D → (List (List D) → Prop) → Prop} {vj : Nat → List R → (List R → Prop) → Prop} {vk : Nat → List V → List O → (V → Prop) → Prop} {vl : Nat → List V → S → (V → S → Prop) → Prop} {vm : Nat → (Bool → Prop) → Prop} {vn : Nat → (Bool → Prop) → Prop} {vo : Nat → (List V → List O → Prop) → List V → S → Prop} {vp : (S → Prop) → S → Prop} {vq : Op → Option Nat → S → (S → Prop) → Prop} {vr : Array Oper → S → (S → Prop) → Prop} {vt : Code → (S → (X → S → Prop) → Prop) → S → (X → S → Prop) → Prop}
theorem loopn_at (hA : Ar.mk qa qb qc qd qe qf qg qh qi qj qk ql qm qo qp qs qt qu qv qx qy qz va vc vd ve vf vg vh vj vk vl vm vn vo vp vq vr vt = real) {c : Code} {body : S → (X → S → Prop) → Prop} {s : S} {K : X → S → Prop} {γ : Type} (slots : γ → List (Nat × V)) (objs : γ → List (Nat × O)) (xs : γ → List O) (inv : γ → Prop) (μ : γ → Nat) (x0 : γ) (h0 : inv x0) (hw : GhostN (lenO s.o) s (headM c s (slots x0) (objs x0) (xs x0)))
    (hr : ∀ x, inv x → body (headM c s (slots x) (objs x) (xs x)) (fun e s' => roundX (fun s2 => ∃ y, inv y ∧ μ y < μ x ∧ GhostN (lenO s.o) s2 (headM c s (slots y) (objs y) (xs y))) K e s')) : vt c body s K := by
  have e : vt = real.loop := congrArg Ar.loop hA
  rw [e]
  exact .inr (.inr ⟨γ, fun x => headM c s (slots x) (objs x) (xs x), inv, μ, fun x _ => by
    show lenO s.o ≤ lenO (appO (setsO (objs x) s.o) (xs x))
    rw [lenO_is, lenO_is, appO_is, List.length_append, setsO_len]
    exact Nat.le_add_right _ _, ⟨x0, hw, h0⟩, hr⟩)
end
end Go.Proofs.Ytclehkgnacekkaa.Vm
end
section
namespace Go.Proofs.Ytclehkgnacekkaa.Vm
open Go.RowKit
section
variable {I0 : Nat → Nat → Prop} {X : Nat → Prop} {w0 : W0} {I : Nat → Nat → Prop} {g : Nat → Value} {s : S} {a : Act} {w : World}
theorem AtVs.reset {us : List Value} {cs : List V} {i : Nat} {x : V} (h : AtVs I w g us cs) (hx : ∀ v, us[i]? = some v → AtV I w g v x) : AtVs I w g us (cs.set i x) := by
  refine ⟨by rw [List.length_set]; exact h.1, fun j v y hv hy => ?_⟩
  by_cases hji : i = j
  · subst hji
    have hlt : i < cs.length := by have := (List.getElem?_eq_some_iff.1 hy).1; rw [List.length_set] at this; exact this
    rw [List.getElem?_set_self hlt] at hy
    cases hy
    exact hx v hv
  · rw [List.getElem?_set_ne hji] at hy
    exact h.2 j v y hv hy
theorem RelI.rebox (h : RelI I0 X w0 I g s a w) {k : Nat} {cs ds : List V} (hk : s.o[k]? = some (.box cs)) (hd : ∀ us, AtVs I w g us cs → AtVs I w g us ds) : RelI I0 X w0 I g ⟨s.t, s.o.set k (.box ds)⟩ a w := by
  have hlt := (List.getElem?_eq_some_iff.1 hk).1
  have back : ∀ i, live ⟨s.t, s.o.set k (.box ds)⟩ i → live s i := fun i hl => by
    obtain ⟨o, ho, hdd⟩ := hl
    by_cases hik : k = i
    · subst hik; exact ⟨_, hk, by simp⟩
    · simp only [List.getElem?_set_ne hik] at ho
      exact ⟨o, ho, hdd⟩
  refine ⟨h.im, h.lt, h.fr, h.kp, by simp only [List.length_set]; exact h.lo, h.st, fun i o ho => ?_, fun i j b hi hj => h.dis i j b (back i hi) (back j hj), fun i hi => h.out i (by simpa using hi), h.tmp, h.dfr⟩
  by_cases hik : k = i
  · subst hik
    simp only [List.getElem?_set_self hlt] at ho
    cases ho
    obtain ⟨b, us, t, h1, h2, h3, h4⟩ := h.obj k _ hk
    exact ⟨b, us, t, h1, h2, hd us h3, h4⟩
  · simp only [List.getElem?_set_ne hik] at ho
    exact h.obj i o ho
end
theorem Ghost.ownBox (s : S) (k i e : Nat) (z : Bool) {cs : List V} (hk : getO s.o k = .box cs) (hi : getN cs i = .em) : Ghost s ⟨s.t, setO (snocO s.o (.row z e [])) k (.box (setN cs i (.own (lenO s.o))))⟩ := by
  rintro I0 X w0 a w ⟨I, g, h⟩
  have hk2 := getO_some hk (by simp)
  have hlt := (List.getElem?_eq_some_iff.1 hk2).1
  have h2 := h.newObj (.row z e []) (.slice none 0 0) ⟨[], by rw [upd_same]; exact World.ownsRow_nil w 0 e _, by simp, AtDs.nil I w, fun b hb => by rw [upd_same] at hb; cases hb⟩ (fun j b _ _ hb => by cases hb)
  have h3 : RelI I0 X w0 I (upd g s.o.length (.slice none 0 0)) ⟨s.t, snocO s.o (.row z e [])⟩ a w := h2
  refine ⟨I, upd g s.o.length (.slice none 0 0), ?_⟩
  rw [setO_is, setN_is]
  refine h3.rebox (cs := cs) (by show (snocO s.o _)[k]? = _; rw [snocO_is, List.getElem?_append_left hlt]; exact hk2) fun us hus => hus.reset fun v hv => ?_
  have hs := getN_some hi (by simp)
  have h4 := hus.2 i v _ hv hs
  rw [h4.unem]
  exact .own _ _ _ _ (by rw [lenO_is, upd_same]; rfl)
section
variable {qa : IntKind → Int → Int} {qb : Int → Int → Int} {qc : Int → Int → Int} {qd : Int → Int → Int} {qe : Int → Int → Int} {qf : Int → Int → Int} {qg : BinOp → IntKind → Int → IntKind → Int → Option Int} {qh : Int → Int → Bool} {qi : Int → Int → Bool} {qj : Int → Int → Bool} {qk : Int → Prop → Prop} {ql : List UInt8 → List UInt8 → Bool} {qm : List UInt8 → List UInt8 → Bool} {qo : ByteArray → List UInt8} {qp : ByteArray → ByteArray → ByteArray} {qs : ByteArray → ByteArray → Prop → Prop} {qt : ByteArray → Int} {qu : ByteArray → Int → Option Int} {qv : ByteArray → Int → Int → Option ByteArray} {qx : Int → Nat → Option Nat} {qy : List (List D) → Int} {qz : List (List D) → Int → Option (List D)} {va : List (List D) → Int → Int → Option (List (List D))} {vc : List (List D) → List (List D) → List (List D)} {vd : List (List D) → Int → List D → List (List D)} {ve : List (List D) → List (List D) → Prop → Prop} {vf : List (R × R) → R → Option R} {vg : List (R × R) → R → R → List (R × R)} {vh : Int → List D → (List (List D) → Prop) → Prop} {vj : Nat → List R → (List R → Prop) → Prop} {vk : Nat → List V → List O → (V → Prop) → Prop} {vl : Nat → List V → S → (V → S → Prop) → Prop} {vm : Nat → (Bool → Prop) → Prop} {vn : Nat → (Bool → Prop) → Prop} {vo : Nat → (List V → List O → Prop) → List V → S → Prop} {vp : (S → Prop) → S → Prop} {vq : Op → Option Nat → S → (S → Prop) → Prop} {vr : Array Oper → S → (S → Prop) → Prop} {vt : Code → (S → (X → S → Prop) → Prop) → S → (X → S → Prop) → Prop}
theorem ownbox_at (hA : Ar.mk qa qb qc qd qe qf qg qh qi qj qk ql qm qo qp qs qt qu qv qx qy qz va vc vd ve vf vg vh vj vk vl vm vn vo vp vq vr vt = real) {N : S → Prop} {s : S} (k i e : Nat) (z : Bool) {cs : List V} (hk : getO s.o k = .box cs) (hi : getN cs i = .em) (h : N ⟨s.t, setO (snocO s.o (.row z e [])) k (.box (setN cs i (.own (lenO s.o))))⟩) : vp N s := ghost_at hA _ (Ghost.ownBox s k i e z hk hi) h
end
end Go.Proofs.Ytclehkgnacekkaa.Vm
end
section
namespace Go.Proofs.Ytclehkgnacekkaa.Vm
open Go.RowKit
def rF (fs : List (ByteArray × Ty)) : List (List D) := fs.map fun f => .sc (.string f.1) :: cT f.2
theorem rF_len (fs : List (ByteArray × Ty)) : (rF fs).length = fs.length := by rw [rF, List.length_map]
theorem rF_get {fs : List (ByteArray × Ty)} {k : Nat} {x : ByteArray × Ty} (h : fs[k]? = some x) : (rF fs)[k]? = some (.sc (.string x.1) :: cT x.2) := by rw [rF, List.getElem?_map, h]; rfl
theorem cT_four (t : Ty) : ∃ c0 c1 c2 c3, cT t = [c0, c1, c2, c3] := by obtain ⟨op, nm, n, ks⟩ := t; exact ⟨_, _, _, _, by rw [cT]⟩
end Go.Proofs.Ytclehkgnacekkaa.Vm
end
section
namespace Go.Proofs.Ytclehkgnacekkaa
section
variable {α : Type}
structure Swo (lt : α → α → Bool) : Prop where
  irr : ∀ x, lt x x = false
  tra : ∀ x y z, lt x y = true → lt y z = true → lt x z = true
  neg : ∀ x y z, lt x y = false → lt y z = false → lt x z = false
variable {lt : α → α → Bool}
def eqv (lt : α → α → Bool) (x y : α) : Bool := !lt x y && !lt y x
def Srt (lt : α → α → Bool) (l : List α) : Prop := l.Pairwise fun x y => lt y x = false
def Sta (lt : α → α → Bool) (l m : List α) : Prop := ∀ x, l.filter (eqv lt x) = m.filter (eqv lt x)
theorem Sta.refl (l : List α) : Sta lt l l := fun _ => rfl
theorem Sta.symm {l m : List α} (h : Sta lt l m) : Sta lt m l := fun x => (h x).symm
theorem Sta.trans {l m n : List α} (h : Sta lt l m) (k : Sta lt m n) : Sta lt l n := fun x => (h x).trans (k x)
theorem Sta.append {l m l' m' : List α} (h : Sta lt l l') (k : Sta lt m m') : Sta lt (l ++ m) (l' ++ m') := fun x => by rw [List.filter_append, List.filter_append, h x, k x]
theorem eqv_self (h : Swo lt) (x : α) : eqv lt x x = true := by unfold eqv; rw [h.irr]; rfl
theorem Sta.mem (h : Swo lt) {l m : List α} (s : Sta lt l m) {x : α} (hx : x ∈ l) : x ∈ m := by
  have : x ∈ l.filter (eqv lt x) := List.mem_filter.2 ⟨hx, eqv_self h x⟩
  rw [s x] at this
  exact (List.mem_filter.1 this).1
theorem Sta.swap (h : Swo lt) {u v : List α} (huv : ∀ x ∈ u, ∀ y ∈ v, lt y x = true) : Sta lt (u ++ v) (v ++ u) := fun z => by
  rw [List.filter_append, List.filter_append]
  by_cases hu : u.filter (eqv lt z) = []
  · rw [hu]; simp
  · by_cases hv : v.filter (eqv lt z) = []
    · rw [hv]; simp
    · exfalso
      obtain ⟨x, hx⟩ := List.exists_mem_of_ne_nil _ hu
      obtain ⟨y, hy⟩ := List.exists_mem_of_ne_nil _ hv
      obtain ⟨hx1, hx2⟩ := List.mem_filter.1 hx
      obtain ⟨hy1, hy2⟩ := List.mem_filter.1 hy
      have h1 := huv x hx1 y hy1
      unfold eqv at hx2 hy2
      simp only [Bool.and_eq_true, Bool.not_eq_true'] at hx2 hy2
      have := h.neg y z x hy2.2 hx2.1
      rw [h1] at this
      cases this
theorem srt_unique (h : Swo lt) : ∀ {l m : List α}, Srt lt l → Srt lt m → Sta lt l m → l = m
  | [], m, _, _, s => by
    cases m with
    | nil => rfl
    | cons y m => exact absurd (s.symm.mem h (List.mem_cons_self ..)) (by simp)
  | x :: l, [], _, _, s => absurd (s.mem h (List.mem_cons_self ..)) (by simp)
  | x :: l, y :: m, hl, hm, s => by
    have hxm := s.mem h (List.mem_cons_self (a := x) (l := l))
    have hyl := s.symm.mem h (List.mem_cons_self (a := y) (l := m))
    have hlx : ∀ z ∈ x :: l, lt z x = false := fun z hz => by
      rcases List.mem_cons.1 hz with rfl | hz
      · exact h.irr _
      · exact (List.pairwise_cons.1 hl).1 z hz
    have hmy : ∀ z ∈ y :: m, lt z y = false := fun z hz => by
      rcases List.mem_cons.1 hz with rfl | hz
      · exact h.irr _
      · exact (List.pairwise_cons.1 hm).1 z hz
    have e1 : eqv lt x y = true := by unfold eqv; rw [hmy x hxm, hlx y hyl]; rfl
    have s1 := s x
    rw [List.filter_cons, List.filter_cons, eqv_self h x, e1] at s1
    simp only [if_true] at s1
    injection s1 with s1 s2
    subst s1
    congr 1
    refine srt_unique h (List.pairwise_cons.1 hl).2 (List.pairwise_cons.1 hm).2 fun z => ?_
    have sz := s z
    rw [List.filter_cons, List.filter_cons] at sz
    by_cases hz : eqv lt z x = true
    · rw [if_pos hz, if_pos hz] at sz
      injection sz
    · rw [if_neg hz, if_neg hz] at sz
      exact sz
def insS (lt : α → α → Bool) (x : α) : List α → List α
  | [] => [x]
  | y :: l => if lt x y = true then x :: y :: l else y :: insS lt x l
def sortS (lt : α → α → Bool) (l : List α) : List α := l.foldl (fun acc x => insS lt x acc) []
theorem ins_sta (h : Swo lt) (x : α) : ∀ l : List α, Srt lt l → Sta lt (insS lt x l) (l ++ [x])
  | [], _ => .refl _
  | y :: l, hl => by
    unfold insS
    by_cases hx : lt x y = true
    · rw [if_pos hx]
      have : Sta lt ([x] ++ (y :: l)) ((y :: l) ++ [x]) := (Sta.swap h (u := y :: l) (v := [x]) fun z hz w hw => by
        simp at hw
        subst hw
        rcases List.mem_cons.1 hz with rfl | hz
        · exact hx
        · have h1 := (List.pairwise_cons.1 hl).1 z hz
          cases hwz : lt w z
          · have := h.neg w z y hwz h1
            rw [hx] at this
            cases this
          · rfl).symm
      exact this
    · rw [if_neg hx]
      exact Sta.append (.refl [y]) (ins_sta h x l (List.pairwise_cons.1 hl).2)
theorem ins_mem (x : α) : ∀ (l : List α) (z : α), z ∈ insS lt x l → z = x ∨ z ∈ l
  | [], z, hz => by simp [insS] at hz; exact .inl hz
  | y :: l, z, hz => by
    unfold insS at hz
    split at hz
    · rcases List.mem_cons.1 hz with h | h
      · exact .inl h
      · exact .inr h
    · rcases List.mem_cons.1 hz with h | h
      · exact .inr (by rw [h]; exact List.mem_cons_self ..)
      · rcases ins_mem x l z h with h | h
        · exact .inl h
        · exact .inr (List.mem_cons_of_mem _ h)
theorem ins_srt (h : Swo lt) (x : α) : ∀ l : List α, Srt lt l → Srt lt (insS lt x l)
  | [], _ => by unfold insS Srt; simp
  | y :: l, hl => by
    obtain ⟨h1, h2⟩ := List.pairwise_cons.1 hl
    unfold insS
    by_cases hx : lt x y = true
    · rw [if_pos hx]
      refine List.pairwise_cons.2 ⟨fun z hz => ?_, hl⟩
      have hyx : lt y x = false := by
        cases hyx : lt y x
        · rfl
        · have := h.tra x y x hx hyx
          rw [h.irr] at this
          cases this
      rcases List.mem_cons.1 hz with rfl | hz
      · exact hyx
      · exact h.neg z y x (h1 z hz) hyx
    · rw [if_neg hx]
      refine List.pairwise_cons.2 ⟨fun z hz => ?_, ins_srt h x l h2⟩
      rcases ins_mem x l z hz with rfl | hz
      · simpa using hx
      · exact h1 z hz
theorem sort_go (h : Swo lt) : ∀ (l acc : List α), Srt lt acc → Srt lt (l.foldl (fun acc x => insS lt x acc) acc) ∧ Sta lt (l.foldl (fun acc x => insS lt x acc) acc) (acc ++ l)
  | [], acc, ha => ⟨ha, by rw [List.append_nil]; exact .refl _⟩
  | x :: l, acc, ha => by
    obtain ⟨h1, h2⟩ := sort_go h l (insS lt x acc) (ins_srt h x acc ha)
    refine ⟨h1, h2.trans ?_⟩
    have := Sta.append (ins_sta h x acc ha) (.refl (lt := lt) l)
    rwa [List.append_assoc] at this
theorem sort_srt (h : Swo lt) (l : List α) : Srt lt (sortS lt l) := (sort_go h l [] List.Pairwise.nil).1
theorem sort_sta (h : Swo lt) (l : List α) : Sta lt (sortS lt l) l := (sort_go h l [] List.Pairwise.nil).2
theorem sort_is (h : Swo lt) {l m : List α} (hs : Srt lt m) (ht : Sta lt m l) : m = sortS lt l := srt_unique h hs (sort_srt h l) (ht.trans (sort_sta h l).symm)
theorem srt_append {l m : List α} : Srt lt (l ++ m) ↔ Srt lt l ∧ Srt lt m ∧ ∀ x ∈ l, ∀ y ∈ m, lt y x = false := List.pairwise_append
theorem lt_asymm (h : Swo lt) {x y : α} (hxy : lt x y = true) : lt y x = false := by
  cases hyx : lt y x
  · rfl
  · have := h.tra x y x hxy hyx
    rw [h.irr] at this
    cases this
theorem lt_of_lt_le (h : Swo lt) {x y z : α} (hxy : lt x y = true) (hyz : lt z y = false) : lt x z = true := by
  cases hxz : lt x z
  · have := h.neg x z y hxz hyz
    rw [hxy] at this
    cases this
  · rfl
theorem lt_of_le_lt (h : Swo lt) {x y z : α} (hxy : lt y x = false) (hyz : lt y z = true) : lt x z = true := by
  cases hxz : lt x z
  · have := h.neg y x z hxy hxz
    rw [hyz] at this
    cases this
  · rfl
theorem put_one_left (h : Swo lt) {x : α} {v1 v2 : List α} (hs : Srt lt (v1 ++ v2)) (h1 : ∀ y ∈ v1, lt y x = true) (h2 : ∀ y ∈ v2, lt y x = false) :
    Srt lt (v1 ++ (x :: v2)) ∧ Sta lt (v1 ++ (x :: v2)) (x :: (v1 ++ v2)) := by
  obtain ⟨s1, s2, s3⟩ := srt_append.1 hs
  refine ⟨srt_append.2 ⟨s1, List.pairwise_cons.2 ⟨h2, s2⟩, fun y hy z hz => ?_⟩, ?_⟩
  · rcases List.mem_cons.1 hz with rfl | hz
    · exact lt_asymm h (h1 y hy)
    · exact s3 y hy z hz
  · have := Sta.append (Sta.swap h (u := [x]) (v := v1) fun z hz y hy => by simp at hz; subst hz; exact h1 y hy) (.refl (lt := lt) v2)
    simpa using this.symm
theorem put_one_right (h : Swo lt) {x : α} {u1 u2 : List α} (hs : Srt lt (u1 ++ u2)) (h1 : ∀ y ∈ u1, lt x y = false) (h2 : ∀ y ∈ u2, lt x y = true) :
    Srt lt (u1 ++ (x :: u2)) ∧ Sta lt (u1 ++ (x :: u2)) ((u1 ++ u2) ++ [x]) := by
  obtain ⟨s1, s2, s3⟩ := srt_append.1 hs
  refine ⟨srt_append.2 ⟨s1, List.pairwise_cons.2 ⟨fun y hy => lt_asymm h (h2 y hy), s2⟩, fun y hy z hz => ?_⟩, ?_⟩
  · rcases List.mem_cons.1 hz with rfl | hz
    · exact h1 y hy
    · exact s3 y hy z hz
  · have := Sta.append (.refl (lt := lt) u1) (Sta.swap h (u := u2) (v := [x]) fun z hz y hy => by simp at hy; subst hy; exact h2 z hz)
    simpa using this.symm
theorem merge_halves (h : Swo lt) {L1 L2 u v P R : List α} (hl : Srt lt (L1 ++ u)) (hr : Srt lt (v ++ L2)) (huv : ∀ x ∈ u, ∀ y ∈ v, lt y x = true) (hL : ∀ x ∈ L1, ∀ y ∈ L2, lt y x = false)
    (hP : Srt lt P) (sP : Sta lt P (L1 ++ v)) (hR : Srt lt R) (sR : Sta lt R (u ++ L2)) : Srt lt (P ++ R) ∧ Sta lt (P ++ R) ((L1 ++ u) ++ (v ++ L2)) := by
  obtain ⟨a1, a2, a3⟩ := srt_append.1 hl
  obtain ⟨b1, b2, b3⟩ := srt_append.1 hr
  refine ⟨srt_append.2 ⟨hP, hR, fun x hx y hy => ?_⟩, ?_⟩
  · have hx' := sP.mem h hx
    have hy' := sR.mem h hy
    rcases List.mem_append.1 hx' with hx' | hx' <;> rcases List.mem_append.1 hy' with hy' | hy'
    · exact a3 x hx' y hy'
    · exact hL x hx' y hy'
    · exact lt_asymm h (huv y hy' x hx')
    · exact b3 x hx' y hy'
  · have s1 := (sP.append sR)
    have s2 : Sta lt ((L1 ++ v) ++ (u ++ L2)) ((L1 ++ u) ++ (v ++ L2)) := by
      have := Sta.append (Sta.append (.refl (lt := lt) L1) (Sta.swap h huv).symm) (.refl (lt := lt) L2)
      simpa using this
    exact s1.trans s2
end
end Go.Proofs.Ytclehkgnacekkaa
end
section
namespace Go.Proofs.Ytclehkgnacekkaa.Vm
open Go.RowKit
def rowS (fs : List (ByteArray × Ty)) (tail : Ty) : Ty := fs.foldr (fun f r => .mk 11 f.1 0 [f.2, r]) tail
def Spine : Ty → Prop
  | .mk op _ _ [_, r] => op = 11 → Spine r
  | .mk op _ _ _ => op ≠ 11
def fieldsS : Ty → List (ByteArray × Ty)
  | .mk op nm _ [x, r] => if op = 11 then (nm, x) :: fieldsS r else []
  | _ => []
def tailS : Ty → Ty
  | .mk op nm n [x, r] => if op = 11 then tailS r else .mk op nm n [x, r]
  | t => t
theorem fields_end : ∀ {t : Ty}, t.op ≠ 11 → fieldsS t = [] ∧ tailS t = t
  | .mk op nm n [], _ => ⟨rfl, rfl⟩
  | .mk op nm n [x], _ => ⟨rfl, rfl⟩
  | .mk op nm n [x, r], h => by
    have h' : op ≠ 11 := h
    unfold fieldsS tailS
    rw [if_neg h', if_neg h']
    exact ⟨rfl, rfl⟩
  | .mk op nm n (x :: y :: z :: l), _ => ⟨rfl, rfl⟩
theorem fields_step : ∀ {t : Ty}, Spine t → t.op = 11 → ∃ a b, t.kids = [a, b] ∧ Spine b ∧ fieldsS t = (t.name, a) :: fieldsS b ∧ tailS t = tailS b
  | .mk op nm n [], h, h' => absurd h' h
  | .mk op nm n [x], h, h' => absurd h' h
  | .mk op nm n [x, r], h, h' => by
    have e : op = 11 := h'
    subst e
    refine ⟨x, r, rfl, h rfl, ?_, ?_⟩
    · conv => lhs; unfold fieldsS
      rw [if_pos rfl]; rfl
    · conv => lhs; unfold tailS
      rw [if_pos rfl]
  | .mk op nm n (x :: y :: z :: l), h, h' => absurd h' h
def ltF (a b : ByteArray × Ty) : Bool := Op.bytesLess a.1.toList b.1.toList
theorem sort_snoc (ds : List (ByteArray × Ty)) (d : ByteArray × Ty) : sortS ltF (ds ++ [d]) = insS ltF d (sortS ltF ds) := by
  unfold sortS
  rw [List.foldl_append]
  rfl
theorem ins_len {α : Type} {lt : α → α → Bool} (x : α) : ∀ l : List α, (insS lt x l).length = l.length + 1
  | [] => rfl
  | y :: l => by
    unfold insS
    split
    · rfl
    · simp [ins_len x l]
def canonF : Nat → Ty → Ty
  | 0, t => t
  | m + 1, t => if t.op = 11 then rowS ((sortS ltF (fieldsS t)).map fun f => (f.1, canonF m f.2)) (tailS t) else .mk t.op t.name t.n (t.kids.map (canonF m))
def canonS (t : Ty) : Ty := canonF t.parts.length t
theorem fields_less : ∀ (n : Nat) (t : Ty), t.parts.length ≤ n → ∀ f ∈ fieldsS t, f.2.parts.length < t.parts.length := by
  intro n
  induction n with
  | zero => intro t h; have := parts_pos t; omega
  | succ n ih =>
    intro t h f hf
    obtain ⟨op, nm, k, ks⟩ := t
    match ks, hf with
    | [], hf => simp [fieldsS] at hf
    | [x], hf => simp [fieldsS] at hf
    | x :: y :: z :: l, hf => simp [fieldsS] at hf
    | [x, r], hf =>
      have hk := kids_le (.mk op nm k [x, r])
      have hx := hk.2 x (by simp [Ty.kids])
      have hr := hk.2 r (by simp [Ty.kids])
      unfold fieldsS at hf
      by_cases h11 : op = 11
      · rw [if_pos h11] at hf
        rcases List.mem_cons.1 hf with rfl | hf
        · exact hx
        · have := ih r (by omega) f hf
          omega
      · rw [if_neg h11] at hf; simp at hf
theorem sort_mem {α : Type} {lt : α → α → Bool} : ∀ (l acc : List α) (z : α), z ∈ l.foldl (fun acc x => insS lt x acc) acc → z ∈ acc ∨ z ∈ l
  | [], acc, z, h => .inl h
  | x :: l, acc, z, h => by
    rcases sort_mem l (insS lt x acc) z h with h | h
    · rcases ins_mem x acc z h with rfl | h
      · exact .inr (List.mem_cons_self ..)
      · exact .inl h
    · exact .inr (List.mem_cons_of_mem _ h)
theorem sortS_mem {α : Type} {lt : α → α → Bool} {l : List α} {z : α} (h : z ∈ sortS lt l) : z ∈ l := by
  rcases sort_mem l [] z h with h | h
  · simp at h
  · exact h
theorem canon_fuel : ∀ (n m : Nat) (t : Ty), t.parts.length ≤ n → t.parts.length ≤ m → canonF n t = canonF m t := by
  intro n
  induction n with
  | zero => intro m t h; have := parts_pos t; omega
  | succ n ih =>
    intro m t h h'
    obtain ⟨m, rfl⟩ : ∃ k, m = k + 1 := ⟨m - 1, by have := parts_pos t; omega⟩
    unfold canonF
    by_cases h11 : t.op = 11
    · rw [if_pos h11, if_pos h11]
      congr 1
      apply List.map_congr_left
      intro f hf
      have := fields_less _ t (Nat.le_refl _) f (sortS_mem hf)
      rw [ih m f.2 (by omega) (by omega)]
    · rw [if_neg h11, if_neg h11]
      congr 1
      apply List.map_congr_left
      intro x hx
      have := (kids_le t).2 x hx
      exact ih m x (by omega) (by omega)
theorem canon_row {t : Ty} (h : t.op = 11) : canonS t = rowS ((sortS ltF (fieldsS t)).map fun f => (f.1, canonS f.2)) (tailS t) := by
  unfold canonS
  obtain ⟨m, hm⟩ : ∃ m, t.parts.length = m + 1 := ⟨t.parts.length - 1, by have := parts_pos t; omega⟩
  rw [hm]
  conv => lhs; unfold canonF
  rw [if_pos h]
  congr 1
  apply List.map_congr_left
  intro f hf
  have := fields_less _ t (Nat.le_refl _) f (sortS_mem hf)
  rw [canon_fuel m f.2.parts.length f.2 (by omega) (Nat.le_refl _)]
theorem canon_node {t : Ty} (h : t.op ≠ 11) : canonS t = .mk t.op t.name t.n (t.kids.map canonS) := by
  unfold canonS
  obtain ⟨m, hm⟩ : ∃ m, t.parts.length = m + 1 := ⟨t.parts.length - 1, by have := parts_pos t; omega⟩
  rw [hm]
  conv => lhs; unfold canonF
  rw [if_neg h]
  congr 1
  apply List.map_congr_left
  intro x hx
  have := (kids_le t).2 x hx
  exact canon_fuel m x.parts.length x (by omega) (Nat.le_refl _)
theorem fields_mem : ∀ (n : Nat) (t : Ty), t.parts.length ≤ n → ∀ f ∈ fieldsS t, f.2 ∈ t.parts := by
  intro n
  induction n with
  | zero => intro t h; have := parts_pos t; omega
  | succ n ih =>
    intro t h f hf
    obtain ⟨op, nm, k, ks⟩ := t
    match ks, hf with
    | [], hf => simp [fieldsS] at hf
    | [x], hf => simp [fieldsS] at hf
    | x :: y :: z :: l, hf => simp [fieldsS] at hf
    | [x, r], hf =>
      have hk := kids_le (.mk op nm k [x, r])
      have hr := hk.2 r (by simp [Ty.kids])
      unfold fieldsS at hf
      by_cases h11 : op = 11
      · rw [if_pos h11] at hf
        rw [parts_kids]
        simp only [Ty.kids, List.flatMap_cons, List.flatMap_nil, List.append_nil]
        rcases List.mem_cons.1 hf with rfl | hf
        · refine List.mem_cons_of_mem _ (List.mem_append_left _ ?_)
          rw [parts_eq]; exact List.mem_cons_self ..
        · exact List.mem_cons_of_mem _ (List.mem_append_right _ (ih r (by omega) f hf))
      · rw [if_neg h11] at hf; simp at hf
theorem parts_trans {t x y : Ty} : y ∈ x.parts → x ∈ t.parts → y ∈ t.parts := by
  intro hy
  induction t using Ty.ind with
  | h t ih =>
    intro hx
    rw [parts_kids] at hx ⊢
    rcases List.mem_cons.1 hx with rfl | hx
    · rwa [parts_kids] at hy
    · obtain ⟨k, hk, hx⟩ := List.mem_flatMap.1 hx
      exact List.mem_cons_of_mem _ (List.mem_flatMap.2 ⟨k, hk, ih k hk hx⟩)
theorem sort_len {α : Type} {lt : α → α → Bool} : ∀ (l acc : List α), (l.foldl (fun acc x => insS lt x acc) acc).length = acc.length + l.length
  | [], acc => rfl
  | x :: l, acc => by
    rw [List.foldl_cons, sort_len l]
    simp only [ins_len, List.length_cons]
    omega
theorem sortS_len {α : Type} {lt : α → α → Bool} (l : List α) : (sortS lt l).length = l.length := by
  unfold sortS
  rw [sort_len]
  simp
def c4B (op n : Int) : Bool := decide (0 ≤ n) && (decide (op = 7 ∨ op = 10) || decide (n = 0))
theorem shape_none {iw : ByteArray → Bool} {t : Ty} {s : Int} (h : kidsS t.op = none) : shapeB iw t s = false := by
  rw [shape_eq]; unfold headB; rw [h]; rfl
def c3B (iw : ByteArray → Bool) (op : Int) (nm : ByteArray) : Bool := if op = 11 then iw nm else decide (nm.toList = [])
theorem shape_some {iw : ByteArray → Bool} {op : Int} {nm : ByteArray} {n : Int} {kids : List Ty} {s : Int} {k : List Int} (h : kidsS op = some k) :
    shapeB iw (.mk op nm n kids) s = (((decide (8 ≤ op) == (s == 114)) && (decide (kids.length = k.length) && (c3B iw op nm && c4B op n))) && shapesB iw kids k) := by
  rw [shape_eq]; unfold headB c4B c3B; simp only [Ty.op, Ty.name, Ty.n, Ty.kids]; rw [h]; rfl
theorem ins_perm {α : Type} {lt : α → α → Bool} (x : α) : ∀ l : List α, (insS lt x l).Perm (x :: l)
  | [] => .refl _
  | y :: l => by
    unfold insS
    split
    · exact .refl _
    · exact ((ins_perm x l).cons y).trans (.swap x y l)
theorem sort_perm {α : Type} {lt : α → α → Bool} : ∀ (l acc : List α), (l.foldl (fun acc x => insS lt x acc) acc).Perm (acc ++ l)
  | [], acc => by simp
  | x :: l, acc => by
    rw [List.foldl_cons]
    refine (sort_perm l _).trans ?_
    have h1 : (insS lt x acc ++ l).Perm ((x :: acc) ++ l) := (ins_perm x acc).append_right l
    exact h1.trans List.perm_middle.symm
theorem sortS_perm {α : Type} (lt : α → α → Bool) (l : List α) : (sortS lt l).Perm l := by
  have := sort_perm (lt := lt) l []
  simpa [sortS] using this
def fldParts (fs : List (ByteArray × Ty)) : Nat := (fs.map fun f => 1 + f.2.parts.length).sum
theorem fldParts_perm {a b : List (ByteArray × Ty)} (h : a.Perm b) : fldParts a = fldParts b := (h.map _).sum_nat
theorem rowS_parts (tl : Ty) : ∀ fs : List (ByteArray × Ty), (rowS fs tl).parts.length = fldParts fs + tl.parts.length
  | [] => by simp [rowS, fldParts]
  | f :: fs => by
    have ih := rowS_parts tl fs
    unfold rowS at ih ⊢
    rw [List.foldr_cons, parts_kids]
    simp only [Ty.kids, List.length_cons, List.flatMap_cons, List.flatMap_nil, List.append_nil, List.length_append, ih, fldParts, List.map_cons, List.sum_cons]
    omega
theorem spine_parts : ∀ (n : Nat) (t : Ty), t.parts.length ≤ n → Spine t → t.parts.length = fldParts (fieldsS t) + (tailS t).parts.length := by
  intro n
  induction n with
  | zero => intro t h; have := parts_pos t; omega
  | succ n ih =>
    intro t hn hsp
    by_cases h11 : t.op = 11
    · obtain ⟨a, b, hk, hsb, hf, ht⟩ := fields_step hsp h11
      have hb := (kids_le t).2 b (by rw [hk]; simp)
      have := ih b (by omega) hsb
      rw [hf, ht, parts_kids, hk]
      simp only [List.length_cons, List.flatMap_cons, List.flatMap_nil, List.append_nil, List.length_append, this, fldParts, List.map_cons, List.sum_cons]
      omega
    · obtain ⟨h1, h2⟩ := fields_end h11
      rw [h1, h2]
      simp [fldParts]
theorem tail_not : ∀ {t : Ty}, Spine t → (tailS t).op ≠ 11 := by
  intro t
  induction t using Ty.ind with
  | h t ih =>
    intro hsp
    by_cases h11 : t.op = 11
    · obtain ⟨a, b, hk, hsb, hf, ht⟩ := fields_step hsp h11
      rw [ht]
      exact ih b (by rw [hk]; simp) hsb
    · rw [(fields_end h11).2]; exact h11
theorem sum_map_congr {α : Type} {f g : α → Nat} : ∀ {l : List α}, (∀ x ∈ l, f x = g x) → (l.map f).sum = (l.map g).sum
  | [], _ => rfl
  | x :: l, h => by
    rw [List.map_cons, List.map_cons, List.sum_cons, List.sum_cons, h x (List.mem_cons_self ..), sum_map_congr fun y hy => h y (List.mem_cons_of_mem _ hy)]
theorem canon_len : ∀ (n : Nat) (t : Ty), t.parts.length ≤ n → (∀ x ∈ t.parts, Spine x) → (canonS t).parts.length = t.parts.length := by
  intro n
  induction n with
  | zero => intro t h; have := parts_pos t; omega
  | succ n ih =>
    intro t hn hsp
    have ht : Spine t := hsp t (by rw [parts_eq]; exact List.mem_cons_self ..)
    by_cases h11 : t.op = 11
    · rw [canon_row h11, rowS_parts, spine_parts _ t (Nat.le_refl _) ht]
      congr 1
      rw [← fldParts_perm (sortS_perm ltF (fieldsS t))]
      unfold fldParts
      rw [List.map_map]
      refine sum_map_congr fun f hf => ?_
      have h1 := fields_less _ t (Nat.le_refl _) f (sortS_mem hf)
      have h2 := fields_mem _ t (Nat.le_refl _) f (sortS_mem hf)
      simp only [Function.comp]
      rw [ih f.2 (by omega) fun x hx => hsp x (parts_trans hx h2)]
    · rw [canon_node h11, parts_kids, parts_kids t]
      simp only [Ty.kids, List.length_cons, List.length_flatMap, List.map_map]
      congr 1
      refine sum_map_congr fun x hx => ?_
      have h1 := (kids_le t).2 x hx
      simp only [Function.comp]
      exact ih x (by omega) fun y hy => hsp y (by rw [parts_kids]; exact List.mem_cons_of_mem _ (List.mem_flatMap.2 ⟨x, hx, hy⟩))
def SpineAll (t : Ty) : Prop := ∀ x ∈ t.parts, Spine x
theorem SpineAll.kid {t x : Ty} (h : SpineAll t) (hx : x ∈ t.kids) : SpineAll x := fun y hy => h y (by rw [parts_kids]; exact List.mem_cons_of_mem _ (List.mem_flatMap.2 ⟨x, hx, hy⟩))
theorem SpineAll.part {t x : Ty} (h : SpineAll t) (hx : x ∈ t.parts) : SpineAll x := fun y hy => h y (parts_trans hy hx)
theorem SpineAll.self {t : Ty} (h : SpineAll t) : Spine t := h t (by rw [parts_eq]; exact List.mem_cons_self ..)
theorem SpineAll.mk {t : Ty} (h : Spine t) (hk : ∀ x ∈ t.kids, SpineAll x) : SpineAll t := fun y hy => by
  rw [parts_kids] at hy
  rcases List.mem_cons.1 hy with rfl | hy
  · exact h
  · obtain ⟨x, hx, hy⟩ := List.mem_flatMap.1 hy
    exact hk x hx y hy
theorem rowS_op_ne (f : ByteArray × Ty) (fs : List (ByteArray × Ty)) (tl : Ty) : rowS (f :: fs) tl = .mk 11 f.1 0 [f.2, rowS fs tl] := rfl
theorem rowS_fields {tl : Ty} (ht : tl.op ≠ 11) : ∀ fs : List (ByteArray × Ty), fieldsS (rowS fs tl) = fs ∧ tailS (rowS fs tl) = tl
  | [] => by have := fields_end ht; exact ⟨this.1, this.2⟩
  | f :: fs => by
    have ih := rowS_fields ht fs
    rw [rowS_op_ne]
    constructor
    · conv => lhs; unfold fieldsS
      rw [if_pos rfl, ih.1]
    · conv => lhs; unfold tailS
      rw [if_pos rfl, ih.2]
theorem rowS_len_op {tl : Ty} {fs : List (ByteArray × Ty)} (h : fs ≠ []) : (rowS fs tl).op = 11 := by
  cases fs with
  | nil => exact absurd rfl h
  | cons f fs => rfl
theorem fields_ne {t : Ty} (hsp : Spine t) (h : t.op = 11) : fieldsS t ≠ [] := by
  obtain ⟨a, b, hk, hsb, hf, ht⟩ := fields_step hsp h
  rw [hf]; simp
theorem sortS_ne {α : Type} {lt : α → α → Bool} {l : List α} (h : l ≠ []) : sortS lt l ≠ [] := by
  intro e
  have := congrArg List.length e
  rw [sortS_len] at this
  exact h (List.eq_nil_of_length_eq_zero (by simpa using this))
theorem canon_op11 {t : Ty} (hsp : Spine t) (h : t.op = 11) : (canonS t).op = 11 := by
  rw [canon_row h]
  exact rowS_len_op (by
    intro e
    exact sortS_ne (lt := ltF) (fields_ne hsp h) (List.map_eq_nil_iff.1 e))
theorem canon_op_any {t : Ty} (hsp : Spine t) : (canonS t).op = t.op := by
  by_cases h : t.op = 11
  · rw [canon_op11 hsp h, h]
  · rw [canon_node h]; rfl
theorem shapes_mem (iw : ByteArray → Bool) : ∀ (ts : List Ty) (ks : List Int), shapesB iw ts ks = true → ∀ x ∈ ts, ∃ c, shapeB iw x c = true
  | [], _, _, x, hx => by simp at hx
  | t :: ts, [], h, x, hx => by rw [shapesB] at h; cases h
  | t :: ts, k :: ks, h, x, hx => by
    rw [shapesB, Bool.and_eq_true] at h
    rcases List.mem_cons.1 hx with rfl | hx
    · exact ⟨k, h.1⟩
    · exact shapes_mem iw ts ks h.2 x hx
theorem shape_spine (iw : ByteArray → Bool) (t : Ty) : ∀ s, shapeB iw t s = true → ∀ x ∈ t.parts, Spine x := by
  induction t using Ty.ind with
  | h t ih =>
    intro s hs x hx
    cases hko : kidsS t.op with
    | none => rw [shape_none hko] at hs; cases hs
    | some k =>
      obtain ⟨op, nm, n, kids⟩ := t
      rw [shape_some (k := k) (by exact hko)] at hs
      simp only [Bool.and_eq_true, decide_eq_true_eq] at hs
      obtain ⟨⟨_, hlen, _⟩, hss⟩ := hs
      rw [parts_kids] at hx
      rcases List.mem_cons.1 hx with rfl | hx
      · simp only [Ty.op] at hko
        by_cases h11 : op = 11
        · subst h11
          have hk : k.length = 2 := by
            have : kidsS 11 = some [116, 114] := by decide
            rw [this] at hko
            injection hko with hko
            rw [← hko]; rfl
          rw [hk] at hlen
          match kids, hlen, ih, hss with
          | [a, b], _, ih, hss =>
            obtain ⟨c, hc⟩ := shapes_mem iw _ _ hss b (by simp)
            exact fun _ => ih b (by simp [Ty.kids]) c hc b (by rw [parts_eq]; exact List.mem_cons_self ..)
        · match kids with
          | [] => exact h11
          | [a] => exact h11
          | [a, b] => exact fun h => absurd h h11
          | a :: b :: c :: l => exact h11
      · obtain ⟨y, hy, hx⟩ := List.mem_flatMap.1 hx
        obtain ⟨c, hc⟩ := shapes_mem iw _ _ hss y hy
        exact ih y hy c hc x hx
def isVar (t : Ty) : Bool := (t.op == 7) || (t.op == 10)
end Go.Proofs.Ytclehkgnacekkaa.Vm
end
section
namespace Go.Proofs.Ytclehkgnacekkaa.Vm
open Go.RowKit
set_option maxRecDepth 100000
set_option maxHeartbeats 4000000
def putS (d : ByteArray × Ty) (p : Bool × List (ByteArray × Ty)) (y : ByteArray × Ty) : Bool × List (ByteArray × Ty) :=
  match p.1 with
  | true => (true, p.2 ++ [y])
  | false => match ltF d y with | true => (true, p.2 ++ [d] ++ [y]) | false => (false, p.2 ++ [y])
theorem put_true (d : ByteArray × Ty) : ∀ (l acc : List (ByteArray × Ty)), l.foldl (putS d) (true, acc) = (true, acc ++ l)
  | [], acc => by simp
  | y :: l, acc => by rw [List.foldl_cons, show putS d (true, acc) y = (true, acc ++ [y]) from rfl, put_true d l]; simp
theorem put_false (d : ByteArray × Ty) : ∀ (l acc : List (ByteArray × Ty)), (l.foldl (putS d) (false, acc)).2 ++ (if (l.foldl (putS d) (false, acc)).1 = true then [] else [d]) = acc ++ insS ltF d l
  | [], acc => by simp [insS]
  | y :: l, acc => by
    rw [List.foldl_cons, insS]
    cases h : ltF d y with
    | true =>
      rw [show putS d (false, acc) y = (true, acc ++ [d] ++ [y]) by unfold putS; rw [h], put_true]
      simp
    | false =>
      rw [show putS d (false, acc) y = (false, acc ++ [y]) by unfold putS; rw [h], put_false d l]
      simp
theorem put_len (d : ByteArray × Ty) (l : List (ByteArray × Ty)) : ∀ (p : Bool × List (ByteArray × Ty)), (l.foldl (putS d) p).2.length ≤ p.2.length + l.length + 1 := by
  have h1 : ∀ (l : List (ByteArray × Ty)) (acc : List (ByteArray × Ty)), (l.foldl (putS d) (true, acc)).2.length = acc.length + l.length := fun l acc => by rw [put_true]; simp
  induction l with
  | nil => intro p; simp
  | cons y l ih =>
    intro p
    obtain ⟨b, acc⟩ := p
    rw [List.foldl_cons]
    cases b with
    | true => rw [show putS d (true, acc) y = (true, acc ++ [y]) from rfl, h1]; simp; omega
    | false =>
      cases h : ltF d y with
      | true => rw [show putS d (false, acc) y = (true, acc ++ [d] ++ [y]) by unfold putS; rw [h], h1]; simp; omega
      | false =>
        rw [show putS d (false, acc) y = (false, acc ++ [y]) by unfold putS; rw [h]]
        have := ih (false, acc ++ [y])
        simp at this ⊢
        omega
theorem put_take (d : ByteArray × Ty) (l : List (ByteArray × Ty)) {k : Nat} {y : ByteArray × Ty} (h : l[k]? = some y) (p : Bool × List (ByteArray × Ty)) : (l.take (k + 1)).foldl (putS d) p = putS d ((l.take k).foldl (putS d) p) y := by
  rw [List.take_add_one, h, List.foldl_append]
  rfl
theorem rF_app (a b : List (ByteArray × Ty)) : rF (a ++ b) = rF a ++ rF b := by unfold rF; rw [List.map_append]
theorem rF_one (x : ByteArray × Ty) : rF [x] = [.sc (.string x.1) :: cT x.2] := rfl
end Go.Proofs.Ytclehkgnacekkaa.Vm
end
section
namespace Go.Proofs.Ytclehkgnacekkaa.Vm
open Go.RowKit
set_option maxRecDepth 100000
set_option maxHeartbeats 4000000
theorem FieldsO_s (t : Ty) (hs : Spine t) (hN : t.parts.length ≤ 1048576) : SpecO 49 [.ag (ofD (cT t))] [] (fun res os' => res = [.own 0, .ag (ofD (cT (tailS t)))] ∧ os' = [.row false 86 (rF (sortS ltF (fieldsS t)))]) := by
  obtain ⟨Q, hQ⟩ : ∃ Q, Q = rF (sortS ltF (fieldsS t)) := ⟨_, rfl⟩
  rw [← hQ]
  obtain ⟨q0, q1, q2, q3, hq⟩ := cT_four (tailS t)
  rw [hq]
  obtain ⟨op, nm, n, ks⟩ := t
  generalize ht : Ty.mk op nm n ks = t at *
  have hc : cT t = [.sc (.int .u8 op), .sc (.string nm), .sc (.int .i64 n), .sl 4 (rT ks)] := by rw [← ht, cT]
  obtain ⟨K0, hK0⟩ : ∃ K, K = rT ks := ⟨_, rfl⟩
  rw [hc, ← hK0]
  refine speco_of Try.func49 rfl (by kernel_rfl) (by kernel_rfl) (by kernel_rfl) fun qa qb qc qd qe qf qg qh qi qj qk ql qm qo qp qs qt qu qv qx qy qz va vc vd ve vf vg vh vj vk vl vm vn vo vp vq vr vt hA => ?_
  cbv
  repeat (with_reducible apply next_at hA; cbv)
  obtain ⟨e1, e2, e3, e4, e5, e6, e7, e8, e9⟩ := ar_at hA
  obtain ⟨s1, s2, s3, s4, s5, s6, -⟩ := str_at hA
  obtain ⟨r1, r2, r3, r4⟩ := row_at hA
  refine loopn_at hA (γ := Ty × Int × ByteArray × Int × List (List D) × List (List D)) (fun x => [(4, .own 2)]) (fun x => [(0, .box [.d (.sc (.int .u8 x.2.1)), .d (.sc (.string x.2.2.1)), .d (.sc (.int .i64 x.2.2.2.1)), .d (.sl 4 x.2.2.2.2.1)])]) (fun x => [.row false 86 x.2.2.2.2.2])
    (fun x => ∃ ks fs, x.1 = .mk x.2.1 x.2.2.1 x.2.2.2.1 ks ∧ x.2.2.2.2.1 = rT ks ∧ Spine x.1 ∧ x.2.2.2.2.2 = rF (sortS ltF fs) ∧ fs ++ fieldsS x.1 = fieldsS t ∧ tailS x.1 = tailS t ∧ fs.length + x.1.parts.length ≤ 1048576) (fun x => x.1.parts.length) (t, op, nm, n, K0, []) ?_ ?_ ?_
  · exact ⟨ks, [], ht.symm, hK0, hs, rfl, rfl, rfl, by simpa using hN⟩
  · refine GhostN.of (Ghost.own _ 4 86 false rfl) ?_ (by exact Nat.le_of_ble_eq_true rfl)
    cbv
  · intro x hinv
    obtain ⟨r, op, nm, n, K, L⟩ := x
    cbv
    repeat ((with_reducible apply next_at hA); cbv)
    obtain ⟨ks, fs, hr, hK, hsr, hL, hfs, htl, hlen⟩ := hinv
    replace hr : r = .mk op nm n ks := hr
    replace hK : K = rT ks := hK
    replace hsr : Spine r := hsr
    replace hL : L = rF (sortS ltF fs) := hL
    replace hfs : fs ++ fieldsS r = fieldsS t := hfs
    replace htl : tailS r = tailS t := htl
    replace hlen : fs.length + r.parts.length ≤ 1048576 := hlen
    have h11 : qj op 11 = decide (op = 11) := e9 _ _
    by_cases hop : op = 11
    · rw [decide_eq_true hop] at h11
      obtain ⟨a, b, hk, hsb, hfb, htb⟩ := fields_step hsr (by rw [hr]; exact hop)
      have hnmr : r.name = nm := by rw [hr]; rfl
      rw [hnmr] at hfb
      have hks : ks = [a, b] := by rw [← hk, hr]; rfl
      obtain ⟨a0, a1, a2, a3, ha⟩ := cT_four a
      obtain ⟨op', nm', n', ks'⟩ := b
      generalize hb : Ty.mk op' nm' n' ks' = b at *
      have hcb : cT b = [.sc (.int .u8 op'), .sc (.string nm'), .sc (.int .i64 n'), .sl 4 (rT ks')] := by rw [← hb, cT]
      obtain ⟨K', hK'⟩ : ∃ K, K = rT ks' := ⟨_, rfl⟩
      rw [← hK'] at hcb
      have g0 : qz K 0 = some [a0, a1, a2, a3] := by rw [r2, if_pos (by omega), hK, hks]; exact congrArg some ha
      have g1 : qz K 1 = some [.sc (.int .u8 op'), .sc (.string nm'), .sc (.int .i64 n'), .sl 4 K'] := by rw [r2, if_pos (by omega), hK, hks]; exact congrArg some hcb
      rw [h11]
      cbv
      repeat ((with_reducible apply next_at hA); cbv)
      rw [g0]
      cbv
      repeat (first | (refine own_at hA 6 86 false rfl ?_; cbv) | (with_reducible apply next_at hA; cbv))
      refine loop_at hA (γ := Int × Bool × List (List D)) (fun x => [(8, vi .i64 x.1), (7, vb x.2.1), (6, .own 4)]) (fun x => [(4, .row false 86 x.2.2)])
        (fun x => ∃ k : Nat, x.1 = (k : Int) ∧ k ≤ (sortS ltF fs).length ∧ x.2.1 = (((sortS ltF fs).take k).foldl (putS (nm, a)) (false, [])).1 ∧ x.2.2 = rF (((sortS ltF fs).take k).foldl (putS (nm, a)) (false, [])).2) (fun x => (sortS ltF fs).length - x.1.toNat) (0, false, []) ?_ ?_ ?_
      · exact ⟨0, rfl, Nat.zero_le _, rfl, rfl⟩
      · cbv
      · intro x hinv
        obtain ⟨z, inn, M⟩ := x
        cbv
        repeat ((with_reducible apply next_at hA); cbv)
        obtain ⟨k, hz, hk2, hin, hM⟩ := hinv
        replace hz : z = (k : Int) := hz
        replace hin : inn = (((sortS ltF fs).take k).foldl (putS (nm, a)) (false, [])).1 := hin
        replace hM : M = rF (((sortS ltF fs).take k).foldl (putS (nm, a)) (false, [])).2 := hM
        have hsn : (sortS ltF fs).length = fs.length := sortS_len fs
        have hll : qy L = (((sortS ltF fs).length : Nat) : Int) := by rw [r1, hL, rF_len]
        have hlt : qh z (qy L) = decide (k < (sortS ltF fs).length) := by rw [e7, hll, hz]; exact decide_eq_decide.2 (by omega)
        by_cases h9 : k < (sortS ltF fs).length
        · rw [decide_eq_true h9] at hlt
          obtain ⟨x, hx⟩ : ∃ x, (sortS ltF fs)[k]? = some x := ⟨_, List.getElem?_eq_getElem h9⟩
          have hpt := put_take (nm, a) (sortS ltF fs) hx (false, [])
          generalize hPk : ((sortS ltF fs).take k).foldl (putS (nm, a)) (false, []) = P at *
          obtain ⟨xn, xt⟩ := x
          obtain ⟨x0, x1, x2, x3, hxx⟩ := cT_four xt
          have gx : qz L z = some [.sc (.string xn), x0, x1, x2, x3] := by rw [r2, hz, if_pos (by omega), hL, show ((k : Int)).toNat = k by omega, rF_get hx, hxx]
          have hsl : qm (qo nm) (qo xn) = ltF (nm, a) (xn, xt) := by rw [s2, s3, s3]; rfl
          rw [hlt]
          obtain ⟨Pb, Pl⟩ := P
          simp only at hin hM
          subst hin
          have hz1 : qa .i64 (qb z 1) = ((k + 1 : Nat) : Int) := by rw [e1, e2, hz, IntWalk.i64_in _ (by omega)]; omega
          have hmu : (sortS ltF fs).length - (qa .i64 (qb z 1)).toNat < (sortS ltF fs).length - z.toNat := by rw [hz1, hz]; omega
          have hMl : M.length ≤ 1048577 := by
            have h := put_len (nm, a) ((sortS ltF fs).take k) (false, [])
            rw [hPk, List.length_take] at h
            rw [hM, rF_len]
            simp only [List.length_nil] at h
            omega
          cases inn
          · cases hlx : ltF (nm, a) (xn, xt)
            · have hput : putS (nm, a) (false, Pl) (xn, xt) = (false, Pl ++ [(xn, xt)]) := by unfold putS; rw [hlx]
              rw [hlx] at hsl
              rw [hput] at hpt
              cbv; repeat (first | (with_reducible apply next_at hA; cbv) | (rw [gx]; cbv) | (rw [hsl]; cbv) | (refine lit_at hA true ?_; cbv) | (refine room_at hA (by simp only [r4, List.length_append, List.length_cons, List.length_nil]; omega) ?_; cbv))
              refine ⟨(qa .i64 (qb z 1), false, vc M [[.sc (.string xn), x0, x1, x2, x3]]), ⟨k + 1, hz1, h9, by rw [hpt], by rw [hpt]; show vc M _ = rF (Pl ++ [(xn, xt)]); rw [r4, hM, rF_app, rF_one, hxx]⟩, hmu, ?_⟩
              cbv
            · have hput : putS (nm, a) (false, Pl) (xn, xt) = (true, Pl ++ [(nm, a)] ++ [(xn, xt)]) := by unfold putS; rw [hlx]
              rw [hlx] at hsl
              rw [hput] at hpt
              cbv; repeat (first | (with_reducible apply next_at hA; cbv) | (rw [gx]; cbv) | (rw [hsl]; cbv) | (refine lit_at hA true ?_; cbv) | (refine room_at hA (by simp only [r4, List.length_append, List.length_cons, List.length_nil]; omega) ?_; cbv))
              refine ⟨(qa .i64 (qb z 1), true, vc (vc M [[.sc (.string nm), a0, a1, a2, a3]]) [[.sc (.string xn), x0, x1, x2, x3]]), ⟨k + 1, hz1, h9, by rw [hpt], by rw [hpt]; show vc (vc M _) _ = rF (Pl ++ [(nm, a)] ++ [(xn, xt)]); rw [r4, r4, hM, rF_app, rF_app, rF_one, rF_one, hxx, ha]⟩, hmu, ?_⟩
              cbv
          · have hput : putS (nm, a) (true, Pl) (xn, xt) = (true, Pl ++ [(xn, xt)]) := rfl
            rw [hput] at hpt
            cbv; repeat (first | (with_reducible apply next_at hA; cbv) | (rw [gx]; cbv) | (rw [hsl]; cbv) | (refine lit_at hA true ?_; cbv) | (refine room_at hA (by simp only [r4, List.length_append, List.length_cons, List.length_nil]; omega) ?_; cbv))
            refine ⟨(qa .i64 (qb z 1), true, vc M [[.sc (.string xn), x0, x1, x2, x3]]), ⟨k + 1, hz1, h9, by rw [hpt], by rw [hpt]; show vc M _ = rF (Pl ++ [(xn, xt)]); rw [r4, hM, rF_app, rF_one, hxx]⟩, hmu, ?_⟩
            cbv
        · rw [decide_eq_false h9] at hlt
          have hins := put_false (nm, a) (sortS ltF fs) []
          rw [List.take_of_length_le (by omega)] at hin hM
          have hMl : M.length ≤ 1048577 := by
            have h := put_len (nm, a) (sortS ltF fs) (false, [])
            rw [hM, rF_len]
            simp only [List.length_nil] at h
            omega
          generalize hPk : (sortS ltF fs).foldl (putS (nm, a)) (false, []) = P at *
          obtain ⟨Pb, Pl⟩ := P
          simp only at hin hM hins
          subst hin
          rw [List.nil_append, ← sort_snoc] at hins
          have hbl : b.parts.length < r.parts.length := (kids_le r).2 b (by rw [hk]; simp)
          have hfs2 : (fs ++ [(nm, a)]) ++ fieldsS b = fieldsS t := by rw [List.append_assoc, ← hfs, hfb]; rfl
          rw [hlt]
          cases inn
          · cbv; repeat (first | (with_reducible apply next_at hA; cbv) | (rw [g1]; cbv) | (refine lit_at hA true ?_; cbv) | (refine room_at hA (by simp only [r4, List.length_append, List.length_cons, List.length_nil]; omega) ?_; cbv))
            have hnew : vc M [[.sc (.string nm), a0, a1, a2, a3]] = rF (sortS ltF (fs ++ [(nm, a)])) := by rw [← hins, if_neg (by decide), r4, hM, rF_app, rF_one, ha]
            refine ⟨(b, op', nm', n', K', vc M [[.sc (.string nm), a0, a1, a2, a3]]), ⟨ks', fs ++ [(nm, a)], hb.symm, hK', hsb, hnew, hfs2, by rw [← htl, htb], by rw [List.length_append]; show fs.length + 1 + b.parts.length ≤ _; omega⟩, hbl, GhostN.of (Ghost.move _ 4 2 4 rfl rfl rfl rfl) ?_ (by exact Nat.le_of_ble_eq_true rfl)⟩
            cbv
          · cbv; repeat (first | (with_reducible apply next_at hA; cbv) | (rw [g1]; cbv) | (refine lit_at hA true ?_; cbv) | (refine room_at hA (by simp only [r4, List.length_append, List.length_cons, List.length_nil]; omega) ?_; cbv))
            have hnew : M = rF (sortS ltF (fs ++ [(nm, a)])) := by rw [← hins, if_pos rfl, List.append_nil, hM]
            refine ⟨(b, op', nm', n', K', M), ⟨ks', fs ++ [(nm, a)], hb.symm, hK', hsb, hnew, hfs2, by rw [← htl, htb], by rw [List.length_append]; show fs.length + 1 + b.parts.length ≤ _; omega⟩, hbl, GhostN.of (Ghost.move _ 4 2 4 rfl rfl rfl rfl) ?_ (by exact Nat.le_of_ble_eq_true rfl)⟩
            cbv
    · rw [decide_eq_false hop] at h11
      obtain ⟨hf0, ht0⟩ := fields_end (t := r) (by rw [hr]; exact hop)
      rw [hf0, List.append_nil] at hfs
      have hLQ : L = Q := by rw [hL, hfs, hQ]
      rw [ht0, hr] at htl
      rw [← htl, cT, ← hK] at hq
      rw [h11, hLQ]
      cases hq
      cbv
      repeat ((with_reducible apply next_at hA); cbv)
      exact keep_is hA [2] ⟨rfl, rfl, rfl, rfl, rfl, rfl, rfl, rfl⟩ ⟨rfl, rfl⟩
end Go.Proofs.Ytclehkgnacekkaa.Vm
end
section
namespace Go.Proofs.Ytclehkgnacekkaa.Vm
def swapL {α : Type} (a b : Nat) : Nat → List α → List α
  | 0, l => l
  | k + 1, l => match (swapL a b k l)[a + k]?, (swapL a b k l)[b + k]? with
    | some x, some y => ((swapL a b k l).set (a + k) y).set (b + k) x
    | _, _ => swapL a b k l
theorem swapL_len {α : Type} (a b : Nat) : ∀ (k : Nat) (l : List α), (swapL a b k l).length = l.length
  | 0, l => rfl
  | k + 1, l => by
    unfold swapL
    split
    · rw [List.length_set, List.length_set, swapL_len]
    · exact swapL_len a b k l
theorem swapL_get {α : Type} (a b : Nat) : ∀ (k : Nat) (l : List α), a + k ≤ b → b + k ≤ l.length → ∀ i, (swapL a b k l)[i]? = if a ≤ i ∧ i < a + k then l[i - a + b]? else if b ≤ i ∧ i < b + k then l[i - b + a]? else l[i]?
  | 0, l, _, _, i => by
    rw [if_neg (by omega), if_neg (by omega)]
    rfl
  | k + 1, l, h1, h2, i => by
    have ih := swapL_get a b k l (by omega) (by omega)
    have ea := ih (a + k)
    have eb := ih (b + k)
    rw [if_neg (by omega), if_neg (by omega)] at ea eb
    have hla : a + k < l.length := by omega
    have hlb : b + k < l.length := by omega
    rw [List.getElem?_eq_getElem hla] at ea
    rw [List.getElem?_eq_getElem hlb] at eb
    unfold swapL
    rw [ea, eb]
    simp only
    have hsl := swapL_len a b k l
    by_cases e1 : i = b + k
    · subst e1
      rw [List.getElem?_set_self (by rw [List.length_set, hsl]; omega), if_neg (by omega), if_pos (by omega), show b + k - b + a = a + k by omega, List.getElem?_eq_getElem hla]
    · rw [List.getElem?_set_ne (by omega)]
      by_cases e2 : i = a + k
      · subst e2
        rw [List.getElem?_set_self (by rw [hsl]; omega), if_pos (by omega), show a + k - a + b = b + k by omega, List.getElem?_eq_getElem hlb]
      · rw [List.getElem?_set_ne (by omega), ih i]
        by_cases c1 : a ≤ i ∧ i < a + k
        · rw [if_pos c1, if_pos (by omega)]
        · rw [if_neg c1]
          by_cases c2 : b ≤ i ∧ i < b + k
          · rw [if_pos c2, if_neg (by omega), if_pos (by omega)]
          · rw [if_neg c2, if_neg (by omega), if_neg (by omega)]
theorem swapL_split {α : Type} (P X M Y S : List α) (h : X.length = Y.length) : swapL P.length (P.length + X.length + M.length) X.length (P ++ (X ++ (M ++ (Y ++ S)))) = P ++ (Y ++ (M ++ (X ++ S))) := by
  apply List.ext_getElem?
  intro i
  rw [swapL_get _ _ _ _ (by omega) (by simp only [List.length_append]; omega)]
  simp only [List.getElem?_append]
  repeat' split
  all_goals first
    | rfl
    | omega
    | (congr 1; omega)
theorem split_at {α : Type} {l : List α} {n : Nat} (h : n ≤ l.length) : ∃ a b, l = a ++ b ∧ a.length = n := ⟨l.take n, l.drop n, (List.take_append_drop n l).symm, by simp; omega⟩
theorem take_one {α : Type} {xs : List α} {k : Nat} {y : α} (h : xs[k]? = some y) : xs.take (k + 1) = xs.take k ++ [y] := by
  obtain ⟨hi, e⟩ := List.getElem?_eq_some_iff.1 h
  rw [List.take_succ_eq_append_getElem hi, e]
theorem bytes_irr : ∀ l : List UInt8, Op.bytesLess l l = false
  | [] => rfl
  | a :: l => by simp [Op.bytesLess, bytes_irr l]
theorem bytes_tra : ∀ x y z : List UInt8, Op.bytesLess x y = true → Op.bytesLess y z = true → Op.bytesLess x z = true
  | x, [], _, h, _ => by cases x <;> simp [Op.bytesLess] at h
  | _, _ :: _, [], _, h => by simp [Op.bytesLess] at h
  | [], _ :: _, _ :: _, _, _ => by simp [Op.bytesLess]
  | a :: x, b :: y, c :: z, h1, h2 => by
    simp only [Op.bytesLess, Bool.or_eq_true, decide_eq_true_eq, Bool.and_eq_true, beq_iff_eq] at h1 h2 ⊢
    rcases h1 with h1 | ⟨rfl, h1⟩
    · rcases h2 with h2 | ⟨rfl, h2⟩
      · exact .inl (UInt8.lt_trans h1 h2)
      · exact .inl h1
    · rcases h2 with h2 | ⟨rfl, h2⟩
      · exact .inl h2
      · exact .inr ⟨rfl, bytes_tra x y z h1 h2⟩
theorem bytes_neg : ∀ x y z : List UInt8, Op.bytesLess x y = false → Op.bytesLess y z = false → Op.bytesLess x z = false
  | x, _, [], _, _ => by cases x <;> simp [Op.bytesLess]
  | _, [], _ :: _, _, h => by simp [Op.bytesLess] at h
  | [], _ :: _, _, h, _ => by simp [Op.bytesLess] at h
  | a :: x, b :: y, c :: z, h1, h2 => by
    simp only [Op.bytesLess, Bool.or_eq_false_iff, decide_eq_false_iff_not, Bool.and_eq_false_iff, beq_eq_false_iff_ne, ne_eq] at h1 h2 ⊢
    obtain ⟨h1, h1'⟩ := h1
    obtain ⟨h2, h2'⟩ := h2
    have h3 : ¬ a < c := fun h => by
      rw [UInt8.lt_iff_toNat_lt] at h h1 h2
      omega
    refine ⟨h3, ?_⟩
    by_cases hac : a = c
    · subst hac
      right
      have hab : a = b := by
        rw [UInt8.lt_iff_toNat_lt] at h1 h2
        exact UInt8.toNat_inj.1 (by omega)
      subst hab
      exact bytes_neg x y z (by simpa using h1') (by simpa using h2')
    · exact .inl hac
abbrev Rw := List D
def keyR : Rw → List UInt8
  | .sc (.string a) :: _ => a.toList
  | _ => []
def ltR (x y : Rw) : Bool := Op.bytesLess (keyR x) (keyR y)
theorem swoR : Swo ltR := ⟨fun _ => bytes_irr _, fun _ _ _ => bytes_tra _ _ _, fun _ _ _ => bytes_neg _ _ _⟩
theorem insS_map {α β : Type} {f : α → β} {lt : α → α → Bool} {lt2 : β → β → Bool} (h : ∀ x y, lt2 (f x) (f y) = lt x y) (x : α) : ∀ l : List α, insS lt2 (f x) (l.map f) = (insS lt x l).map f
  | [] => rfl
  | y :: l => by
    rw [List.map_cons, insS, insS, h]
    split
    · rfl
    · rw [List.map_cons, insS_map h x l]
theorem sortS_map {α β : Type} {f : α → β} {lt : α → α → Bool} {lt2 : β → β → Bool} (h : ∀ x y, lt2 (f x) (f y) = lt x y) (l : List α) : sortS lt2 (l.map f) = (sortS lt l).map f := by
  have key : ∀ (l acc : List α), (l.map f).foldl (fun acc x => insS lt2 x acc) (acc.map f) = (l.foldl (fun acc x => insS lt x acc) acc).map f := by
    intro l
    induction l with
    | nil => intro acc; rfl
    | cons x l ih => intro acc; rw [List.map_cons, List.foldl_cons, List.foldl_cons, insS_map h, ih]
  exact key l []
theorem all_le {x : Rw} {L : List Rw} {y : Rw} (hs : Srt ltR (L ++ [y])) (h : ltR x y = false) : ∀ z ∈ L ++ [y], ltR x z = false := by
  intro z hz
  rcases List.mem_append.1 hz with hz | hz
  · exact swoR.neg x y z h ((srt_append.1 hs).2.2 z hz y (by simp))
  · simp at hz; subst hz; exact h
theorem swap_adj {α : Type} (A R : List α) (x y : α) {k : Nat} (h : A.length = k) : ((A ++ y :: x :: R).set (k + 1) y).set k x = A ++ x :: y :: R := by
  subst h
  rw [List.set_append_right _ _ (by omega), show A.length + 1 - A.length = 1 by omega, List.set_append_right _ _ (Nat.le_refl _), Nat.sub_self]
  rfl
theorem half_in {V : List Rw} {h : Nat} {y : Rw} (hs : Srt ltR V) (hy : V[h]? = some y) : (∀ z ∈ V.take h, ltR y z = false) ∧ ∀ z ∈ V.drop (h + 1), ltR z y = false := by
  obtain ⟨hh, e⟩ := List.getElem?_eq_some_iff.1 hy
  have hsp : V = V.take h ++ y :: V.drop (h + 1) := by
    conv => lhs; rw [← List.take_append_drop h V, List.drop_eq_getElem_cons hh, e]
  rw [hsp] at hs
  obtain ⟨_, h2, h3⟩ := srt_append.1 hs
  exact ⟨fun z hz => h3 z hz y (List.mem_cons_self ..), fun z hz => (List.pairwise_cons.1 h2).1 z hz⟩
theorem search_up {V : List Rw} {h : Nat} {y u : Rw} (hs : Srt ltR V) (hy : V[h]? = some y) (hl : ltR y u = true) : ∀ z ∈ V.take (h + 1), ltR z u = true := by
  intro z hz
  rw [take_one hy] at hz
  rcases List.mem_append.1 hz with hz | hz
  · exact lt_of_le_lt swoR ((half_in hs hy).1 z hz) hl
  · simp at hz; subst hz; exact hl
theorem search_down {V : List Rw} {h : Nat} {y u : Rw} (hs : Srt ltR V) (hy : V[h]? = some y) (hl : ltR y u = false) : ∀ z ∈ V.drop h, ltR z u = false := by
  intro z hz
  obtain ⟨hh, e⟩ := List.getElem?_eq_some_iff.1 hy
  rw [List.drop_eq_getElem_cons hh, e] at hz
  rcases List.mem_cons.1 hz with rfl | hz
  · exact hl
  · exact swoR.neg z y u ((half_in hs hy).2 z hz) hl
theorem swap_adj2 {α : Type} (A R : List α) (x y : α) {k : Nat} (h : A.length = k) : ((A ++ x :: y :: R).set k y).set (k + 1) x = A ++ y :: x :: R := by
  subst h
  rw [List.set_append_right _ _ (Nat.le_refl _), Nat.sub_self, List.set_cons_zero, List.set_append_right _ _ (by omega), show A.length + 1 - A.length = 1 by omega]
  rfl
theorem search_up2 {V : List Rw} {h : Nat} {y u : Rw} (hs : Srt ltR V) (hy : V[h]? = some y) (hl : ltR u y = false) : ∀ z ∈ V.take (h + 1), ltR u z = false := by
  intro z hz
  rw [take_one hy] at hz
  rcases List.mem_append.1 hz with hz | hz
  · exact swoR.neg u y z hl ((half_in hs hy).1 z hz)
  · simp at hz; subst hz; exact hl
theorem search_down2 {V : List Rw} {h : Nat} {y u : Rw} (hs : Srt ltR V) (hy : V[h]? = some y) (hl : ltR u y = true) : ∀ z ∈ V.drop h, ltR u z = true := by
  intro z hz
  obtain ⟨hh, e⟩ := List.getElem?_eq_some_iff.1 hy
  rw [List.drop_eq_getElem_cons hh, e] at hz
  rcases List.mem_cons.1 hz with rfl | hz
  · exact hl
  · exact lt_of_lt_le swoR hl ((half_in hs hy).2 z hz)
theorem srt_at {l : List Rw} (h : Srt ltR l) {i j : Nat} {x y : Rw} (hij : i ≤ j) (hx : l[i]? = some x) (hy : l[j]? = some y) : ltR y x = false := by
  rcases Nat.lt_or_ge i j with hlt | hge
  · obtain ⟨hi, ei⟩ := List.getElem?_eq_some_iff.1 hx
    obtain ⟨hj, ej⟩ := List.getElem?_eq_some_iff.1 hy
    have := List.pairwise_iff_getElem.1 h i j hi hj hlt
    rw [ei, ej] at this
    exact this
  · obtain rfl : i = j := by omega
    rw [hx] at hy
    injection hy with hy
    subst hy
    exact swoR.irr x
def Window (a m b mid s0 r0 : Nat) : Prop := (m ≤ mid ∧ s0 = a ∧ r0 = m) ∨ (mid < m ∧ s0 + b = mid + m ∧ r0 = mid)
def Lows (U V : List Rw) (a m p s0 s : Nat) : Prop := ∀ c x y, s0 ≤ c → c < s → U[c - a]? = some x → V[p - c - m]? = some y → ltR y x = false
def Highs (U V : List Rw) (a m p r r0 : Nat) : Prop := ∀ c x y, r ≤ c → c < r0 → U[c - a]? = some x → V[p - c - m]? = some y → ltR y x = true
section
variable {U V : List Rw} {a m b mid p s0 r0 : Nat}
theorem window_bounds (hw : Window a m b mid s0 r0) (hmid : mid = (a + b) / 2) (ham : a < m) (hmb : m < b) {s : Nat} (h1 : s0 ≤ s) (h2 : s ≤ r0) : a ≤ s ∧ s ≤ m ∧ s ≤ mid ∧ m ≤ mid + m - s ∧ mid + m - s ≤ b ∧ mid ≤ mid + m - s := by
  rcases hw with ⟨h, rfl, rfl⟩ | ⟨h, h3, rfl⟩ <;> omega
theorem lows_up (hU : Srt ltR U) (hV : Srt ltR V) (hw : Window a m b mid s0 r0) (hmid : mid = (a + b) / 2) (ham : a < m) (hmb : m < b) (hp : p + 1 = mid + m) {c : Nat} {x y : Rw} (hc0 : s0 ≤ c) (hc : c < r0) (hx : U[c - a]? = some x) (hy : V[p - c - m]? = some y) (hl : ltR y x = false) :
    Lows U V a m p s0 (c + 1) := by
  intro d x' y' hd hdc hx' hy'
  have b1 := window_bounds hw hmid ham hmb hc0 (Nat.le_of_lt hc)
  have b2 := window_bounds hw hmid ham hmb hd (by omega)
  have h1 := srt_at hU (show d - a ≤ c - a by omega) hx' hx
  have h2 := srt_at hV (show p - c - m ≤ p - d - m by omega) hy hy'
  exact swoR.neg _ _ _ (swoR.neg _ _ _ h2 hl) h1
theorem highs_down (hU : Srt ltR U) (hV : Srt ltR V) (hw : Window a m b mid s0 r0) (hmid : mid = (a + b) / 2) (ham : a < m) (hmb : m < b) (hp : p + 1 = mid + m) {c : Nat} {x y : Rw} (hc0 : s0 ≤ c) (hc : c < r0) (hx : U[c - a]? = some x) (hy : V[p - c - m]? = some y) (hl : ltR y x = true) :
    Highs U V a m p c r0 := by
  intro d x' y' hd hdr hx' hy'
  have b1 := window_bounds hw hmid ham hmb hc0 (Nat.le_of_lt hc)
  have h1 := srt_at hU (show c - a ≤ d - a by omega) hx hx'
  have h2 := srt_at hV (show p - d - m ≤ p - c - m by omega) hy' hy
  exact lt_of_lt_le swoR (lt_of_le_lt swoR h2 hl) h1
theorem parted (hU : Srt ltR U) (hV : Srt ltR V) (hUl : U.length = m - a) (hVl : V.length = b - m) (hw : Window a m b mid s0 r0) (hmid : mid = (a + b) / 2) (ham : a < m) (hmb : m < b) (hp : p + 1 = mid + m) {s : Nat} (h1 : s0 ≤ s) (h2 : s ≤ r0) (hlo : Lows U V a m p s0 s) (hhi : Highs U V a m p s r0) :
    (∀ x ∈ U.drop (s - a), ∀ y ∈ V.take (mid + m - s - m), ltR y x = true) ∧ ∀ x ∈ U.take (s - a), ∀ y ∈ V.drop (mid + m - s - m), ltR y x = false := by
  have b0 := window_bounds hw hmid ham hmb h1 h2
  constructor
  · intro x hx y hy
    obtain ⟨i, hi⟩ := List.mem_iff_getElem?.1 hx
    obtain ⟨j, hj⟩ := List.mem_iff_getElem?.1 hy
    rw [List.getElem?_drop] at hi
    have hj2 : j < mid + m - s - m ∧ V[j]? = some y := by
      rw [List.getElem?_take] at hj
      split at hj
      · exact ⟨by omega, hj⟩
      · cases hj
    have hiu : s - a + i < U.length := (List.getElem?_eq_some_iff.1 hi).1
    by_cases hs : s < r0
    · obtain ⟨x0, hx0⟩ : ∃ x0, U[s - a]? = some x0 := ⟨_, List.getElem?_eq_getElem (by omega)⟩
      obtain ⟨y0, hy0⟩ : ∃ y0, V[p - s - m]? = some y0 := ⟨_, List.getElem?_eq_getElem (by omega)⟩
      have h := hhi s x0 y0 (Nat.le_refl _) hs hx0 hy0
      exact lt_of_lt_le swoR (lt_of_le_lt swoR (srt_at hV (show j ≤ p - s - m by omega) hj2.2 hy0) h) (srt_at hU (show s - a ≤ s - a + i by omega) hx0 hi)
    · rcases hw with ⟨h, rfl, rfl⟩ | ⟨h, h3, rfl⟩ <;> omega
  · intro x hx y hy
    obtain ⟨i, hi⟩ := List.mem_iff_getElem?.1 hx
    obtain ⟨j, hj⟩ := List.mem_iff_getElem?.1 hy
    rw [List.getElem?_drop] at hj
    have hi2 : i < s - a ∧ U[i]? = some x := by
      rw [List.getElem?_take] at hi
      split at hi
      · exact ⟨by omega, hi⟩
      · cases hi
    have hjv : mid + m - s - m + j < V.length := (List.getElem?_eq_some_iff.1 hj).1
    by_cases hs : s0 < s
    · have b1 := window_bounds hw hmid ham hmb (s := s - 1) (by omega) (by omega)
      obtain ⟨x0, hx0⟩ : ∃ x0, U[s - 1 - a]? = some x0 := ⟨_, List.getElem?_eq_getElem (by omega)⟩
      obtain ⟨y0, hy0⟩ : ∃ y0, V[p - (s - 1) - m]? = some y0 := ⟨_, List.getElem?_eq_getElem (by omega)⟩
      have h := hlo (s - 1) x0 y0 (by omega) (by omega) hx0 hy0
      exact swoR.neg _ _ _ (swoR.neg _ _ _ (srt_at hV (show p - (s - 1) - m ≤ mid + m - s - m + j by omega) hy0 hj) h) (srt_at hU (show i ≤ s - 1 - a by omega) hi2.2 hx0)
    · rcases hw with ⟨h, rfl, rfl⟩ | ⟨h, h3, rfl⟩ <;> omega
end
def BlksOk (bs : Nat) (bl : List (List Rw)) : Prop := ∀ x ∈ bl, x.length = bs ∧ Srt ltR x
theorem blks_len {bs : Nat} : ∀ {bl : List (List Rw)}, BlksOk bs bl → bl.flatten.length = bl.length * bs
  | [], _ => by simp
  | x :: bl, h => by
    rw [List.flatten_cons, List.length_append, (h x (List.mem_cons_self ..)).1, blks_len fun y hy => h y (List.mem_cons_of_mem _ hy), List.length_cons, Nat.succ_mul]
    omega
theorem BlksOk.snoc {bs : Nat} {bl : List (List Rw)} {x : List Rw} (h : BlksOk bs bl) (hx : x.length = bs ∧ Srt ltR x) : BlksOk bs (bl ++ [x]) := fun y hy => by
  rcases List.mem_append.1 hy with hy | hy
  · exact h y hy
  · simp at hy; subst hy; exact hx
end Go.Proofs.Ytclehkgnacekkaa.Vm
end
section
namespace Go.Proofs.Ytclehkgnacekkaa.Vm
open Go.RowKit
set_option maxRecDepth 100000
set_option maxHeartbeats 4000000
theorem nc (n : Nat) : @NatCast.natCast Int instNatCastInt n = (n : Int) := rfl
theorem five {x : Rw} (h : x.length = 5) : ∃ x0 x1 x2 x3 x4, x = [x0, x1, x2, x3, x4] := by
  match x, h with
  | [x0, x1, x2, x3, x4], _ => exact ⟨x0, x1, x2, x3, x4, rfl⟩
theorem swapL_mem {α : Type} (a b : Nat) : ∀ (k : Nat) (l : List α), ∀ x ∈ swapL a b k l, x ∈ l
  | 0, l, x, h => h
  | k + 1, l, x, h => by
    unfold swapL at h
    split at h
    · rename_i y z h1 h2
      rcases List.mem_or_eq_of_mem_set h with h | rfl
      · rcases List.mem_or_eq_of_mem_set h with h | rfl
        · exact swapL_mem a b k l x h
        · exact swapL_mem a b k l _ (List.mem_of_getElem? h2)
      · exact swapL_mem a b k l _ (List.mem_of_getElem? h1)
    · exact swapL_mem a b k l x h
theorem swap_s (rows : List Rw) (h5 : ∀ x ∈ rows, x.length = 5) (a b k fid : Nat) (hN : rows.length ≤ 1048576) (hab : a + k ≤ b) (hb : b + k ≤ rows.length) :
    SpecS 154 [.own 0, vi .i64 a, vi .i64 b, vi .i64 k, .cl fid []] [.row false 86 rows] (fun res os => res = [] ∧ os = [.row false 86 (swapL a b k rows)]) := by
  obtain ⟨za, hza⟩ : ∃ z : Int, z = (a : Int) := ⟨_, rfl⟩
  obtain ⟨zb, hzb⟩ : ∃ z : Int, z = (b : Int) := ⟨_, rfl⟩
  obtain ⟨zk, hzk⟩ : ∃ z : Int, z = (k : Int) := ⟨_, rfl⟩
  rw [← hza, ← hzb, ← hzk]
  obtain ⟨S, hS⟩ : ∃ S, S = swapL a b k rows := ⟨_, rfl⟩
  rw [← hS]
  refine specs_of Try.func154 rfl (by kernel_rfl) (by kernel_rfl) (by kernel_rfl) rfl rfl (by rintro _ _ ⟨_, rfl⟩; rfl) fun qa qb qc qd qe qf qg qh qi qj qk ql qm qo qp qs qt qu qv qx qy qz va vc vd ve vf vg vh vj vk vl vm vn vo vp vq vr vt hA K hK => ?_
  cbv
  repeat ((with_reducible apply next_at hA); cbv)
  obtain ⟨e1, e2, e3, e4, e5, e6, e7, e8, e9⟩ := ar_at hA
  obtain ⟨r1, r2, r3, r4⟩ := row_at hA
  obtain ⟨m1, m2, m3, m4⟩ := map_at hA
  replace hza : za = (a : Int) := hza
  replace hzb : zb = (b : Int) := hzb
  replace hzk : zk = (k : Int) := hzk
  refine loop_at hA (γ := Int × List (List D)) (fun x => [(10, vi .i64 x.1), (29, .jk), (35, .jk)]) (fun x => [(0, .row false 86 x.2)]) (fun x => ∃ j : Nat, x.1 = (j : Int) ∧ j ≤ k ∧ x.2 = swapL a b j rows) (fun x => k - x.1.toNat) (0, rows) ?_ ?_ ?_
  · exact ⟨0, rfl, Nat.zero_le _, rfl⟩
  · cbv
  · intro x hinv
    obtain ⟨z, L⟩ := x
    cbv
    repeat ((with_reducible apply next_at hA); cbv)
    obtain ⟨j, hz, hj, hL⟩ := hinv
    replace hz : z = (j : Int) := hz
    replace hza : za = (a : Int) := hza
    replace hzb : zb = (b : Int) := hzb
    replace hzk : zk = (k : Int) := hzk
    replace hL : L = swapL a b j rows := hL
    have hlt : qh z zk = decide (j < k) := by rw [e7, hz, hzk]; exact decide_eq_decide.2 (by omega)
    by_cases h9 : j < k
    · rw [decide_eq_true h9] at hlt
      have hLl : L.length = rows.length := by rw [hL, swapL_len]
      obtain ⟨x, hx⟩ : ∃ x, L[a + j]? = some x := ⟨_, List.getElem?_eq_getElem (by omega)⟩
      obtain ⟨y, hy⟩ : ∃ y, L[b + j]? = some y := ⟨_, List.getElem?_eq_getElem (by omega)⟩
      have hx5 := h5 x (swapL_mem a b j rows x (by rw [← hL]; exact List.mem_of_getElem? hx))
      have hy5 := h5 y (swapL_mem a b j rows y (by rw [← hL]; exact List.mem_of_getElem? hy))
      obtain ⟨x0, x1, x2, x3, x4, rfl⟩ := five hx5
      obtain ⟨y0, y1, y2, y3, y4, rfl⟩ := five hy5
      have wa : qa .i64 (qb za z) = ((a + j : Nat) : Int) := by rw [e1, e2, hza, hz, IntWalk.i64_in _ (by omega)]; omega
      have wb : qa .i64 (qb zb z) = ((b + j : Nat) : Int) := by rw [e1, e2, hzb, hz, IntWalk.i64_in _ (by omega)]; omega
      have g1 : qz L (qa .i64 (qb zb z)) = some [y0, y1, y2, y3, y4] := by rw [wb, r2, if_pos (by omega), Int.toNat_natCast]; exact hy
      have g2 : qz L (qa .i64 (qb za z)) = some [x0, x1, x2, x3, x4] := by rw [wa, r2, if_pos (by omega), Int.toNat_natCast]; exact hx
      have g3 : ∀ v, qz (vd L (qa .i64 (qb za z)) v) (qa .i64 (qb zb z)) = some [y0, y1, y2, y3, y4] := fun v => by rw [wb, wa, r2, if_pos (by omega), m4, Int.toNat_natCast, Int.toNat_natCast, List.getElem?_set_ne (by omega)]; exact hy
      have hsw : swapL a b (j + 1) rows = (L.set (a + j) [y0, y1, y2, y3, y4]).set (b + j) [x0, x1, x2, x3, x4] := by
        rw [swapL, ← hL, hx, hy]
      rw [hlt]
      cbv
      repeat ((with_reducible apply next_at hA); cbv)
      repeat (first | (rw [g1]; cbv) | (rw [g2]; cbv) | (rw [g3]; cbv) | (with_reducible apply next_at hA; cbv))
      replace hz : z = (j : Int) := hz
      have hz1 : qa .i64 (qb z 1) = ((j + 1 : Nat) : Int) := by rw [e1, e2, hz, IntWalk.i64_in _ (by omega)]; omega
      refine ⟨(qa .i64 (qb z 1), vd (vd L (qa .i64 (qb za z)) [y0, y1, y2, y3, y4]) (qa .i64 (qb zb z)) [x0, x1, x2, x3, x4]), ⟨j + 1, hz1, h9, ?_⟩, ?_, ?_⟩
      · show vd (vd L _ _) _ _ = _
        rw [m4, m4, wa, wb, Int.toNat_natCast, Int.toNat_natCast, hsw]
      · show k - (qa .i64 (qb z 1)).toNat < k - z.toNat
        rw [hz1, hz]
        omega
      · cbv
    · rw [decide_eq_false h9] at hlt
      rw [hlt]
      cbv
      repeat ((with_reducible apply next_at hA); cbv)
      have hjk : j = k := by omega
      exact hK [] [.row false 86 L] ⟨rfl, by rw [hS, ← hjk, ← hL]⟩
theorem rotate_s (P X Y S : List Rw) (h5 : ∀ x ∈ P ++ (X ++ (Y ++ S)), x.length = 5) (fid : Nat) (hN : (P ++ (X ++ (Y ++ S))).length ≤ 1048576) (hx : 0 < X.length) (hy : 0 < Y.length) :
    SpecS 152 [.own 0, vi .i64 P.length, vi .i64 (P.length + X.length : Nat), vi .i64 (P.length + X.length + Y.length : Nat), .cl fid []] [.row false 86 (P ++ (X ++ (Y ++ S)))] (fun res os => res = [] ∧ os = [.row false 86 (P ++ (Y ++ (X ++ S)))]) := by
  obtain ⟨za, hza⟩ : ∃ z : Int, z = (P.length : Int) := ⟨_, rfl⟩
  obtain ⟨zm, hzm⟩ : ∃ z : Int, z = ((P.length + X.length : Nat) : Int) := ⟨_, rfl⟩
  obtain ⟨zb, hzb⟩ : ∃ z : Int, z = ((P.length + X.length + Y.length : Nat) : Int) := ⟨_, rfl⟩
  obtain ⟨L, hL⟩ : ∃ L, L = P ++ (X ++ (Y ++ S)) := ⟨_, rfl⟩
  obtain ⟨M, hM⟩ : ∃ M, M = P ++ (Y ++ (X ++ S)) := ⟨_, rfl⟩
  rw [← hza, ← hzm, ← hzb, ← hM, ← hL]
  rw [← hL] at h5 hN
  have hLl : L.length = P.length + X.length + Y.length + S.length := by rw [hL]; simp only [List.length_append]; omega
  refine specs_of Try.func152 rfl (by kernel_rfl) (by kernel_rfl) (by kernel_rfl) rfl rfl (by rintro _ _ ⟨_, rfl⟩; rfl) fun qa qb qc qd qe qf qg qh qi qj qk ql qm qo qp qs qt qu qv qx qy qz va vc vd ve vf vg vh vj vk vl vm vn vo vp vq vr vt hA K hK => ?_
  cbv
  repeat ((with_reducible apply next_at hA); cbv)
  try simp (maxSteps := 4000000) only [nc] at *
  obtain ⟨e1, e2, e3, e4, e5, e6, e7, e8, e9⟩ := ar_at hA
  have wi : qa .i64 (qc zm za) = (X.length : Int) := by rw [e1, e3, hza, hzm, IntWalk.i64_in _ (by omega)]; omega
  have wj : qa .i64 (qc zb zm) = (Y.length : Int) := by rw [e1, e3, hzb, hzm, IntWalk.i64_in _ (by omega)]; omega
  refine loop_at hA (γ := Int × Int × List (List D)) (fun x => [(10, vi .i64 x.1), (11, vi .i64 x.2.1)]) (fun x => [(0, .row false 86 x.2.2)])
    (fun x => ∃ P' X' Y' S' : List Rw, 0 < X'.length ∧ 0 < Y'.length ∧ P'.length + X'.length = P.length + X.length ∧ x.1 = (X'.length : Int) ∧ x.2.1 = (Y'.length : Int) ∧ P' ++ (Y' ++ (X' ++ S')) = M ∧ x.2.2 = P' ++ (X' ++ (Y' ++ S')) ∧ x.2.2.length = L.length ∧ ∀ r ∈ x.2.2, r.length = 5) (fun x => x.1.toNat + x.2.1.toNat) (qa .i64 (qc zm za), qa .i64 (qc zb zm), L) ?_ ?_ ?_
  · exact ⟨P, X, Y, S, hx, hy, rfl, wi, wj, hM.symm, hL, rfl, h5⟩
  · cbv
  · intro x hinv
    obtain ⟨zi, zj, Q⟩ := x
    cbv
    repeat ((with_reducible apply next_at hA); cbv)
    try simp (maxSteps := 4000000) only [nc] at *
    obtain ⟨P', X', Y', S', hx', hy', hm, hi, hj, he, hQ, hQl, hQ5⟩ := hinv
    replace hQ : Q = P' ++ (X' ++ (Y' ++ S')) := hQ
    replace hQl : Q.length = L.length := hQl
    have hQl2 : Q.length = P'.length + X'.length + Y'.length + S'.length := by rw [hQ]; simp only [List.length_append]; omega
    have heq : qj zi zj = (zi == zj) := e9 _ _
    have hgt : qh zj zi = decide (Y'.length < X'.length) := by rw [e7, hi, hj]; exact decide_eq_decide.2 (by omega)
    have wp : qa .i64 (qc zm zi) = (P'.length : Int) := by rw [e1, e3, hzm, hi, IntWalk.i64_in _ (by omega)]; omega
    by_cases hij : X'.length = Y'.length
    · have h1 : qj zi zj = true := by rw [heq, hi, hj, hij]; exact beq_self_eq_true _
      have hsp := swapL_split P' X' [] Y' S' hij
      rw [List.nil_append, List.nil_append, ← hQ, he, List.length_nil, Nat.add_zero] at hsp
      have hsw := swap_s Q hQ5 P'.length (P'.length + X'.length) X'.length fid (by omega) (Nat.le_refl _) (by omega)
      rw [hsp, ← wp, hm, ← hzm, ← hi] at hsw
      rw [h1]
      cbv
      repeat ((with_reducible apply next_at hA); cbv)
      try simp (maxSteps := 4000000) only [nc] at *
      refine calls_at hA [0] hsw ⟨rfl, rfl, rfl, rfl, rfl, rfl, rfl⟩ ?_
      rintro res os2 ⟨rfl, rfl⟩
      cbv
      repeat ((with_reducible apply next_at hA); cbv)
      try simp (maxSteps := 4000000) only [nc] at *
      exact hK [] [.row false 86 M] ⟨rfl, rfl⟩
    · have h1 : qj zi zj = false := by rw [heq, hi, hj, beq_eq_false_iff_ne]; omega
      rw [h1]
      cbv
      repeat ((with_reducible apply next_at hA); cbv)
      try simp (maxSteps := 4000000) only [nc] at *
      by_cases hlt : Y'.length < X'.length
      · rw [decide_eq_true hlt] at hgt
        obtain ⟨X1, X2, hX, hX1⟩ := split_at (l := X') (n := Y'.length) (by omega)
        have hX2 : Y'.length + X2.length = X'.length := by rw [hX, List.length_append]; omega
        have hsp := swapL_split P' X1 X2 Y' S' hX1
        have hQ2 : P' ++ (X1 ++ (X2 ++ (Y' ++ S'))) = Q := by rw [hQ, hX]; simp only [List.append_assoc]
        rw [hQ2, hX1] at hsp
        have hsw := swap_s Q hQ5 P'.length (P'.length + Y'.length + X2.length) Y'.length fid (by omega) (by omega) (by omega)
        rw [hsp, show P'.length + Y'.length + X2.length = P.length + X.length by omega, ← wp, ← hzm, ← hj] at hsw
        rw [hgt]
        cbv
        repeat ((with_reducible apply next_at hA); cbv)
        try simp (maxSteps := 4000000) only [nc] at *
        refine calls_at hA [0] hsw ⟨rfl, rfl, rfl, rfl, rfl, rfl, rfl⟩ ?_
        rintro res os2 ⟨rfl, rfl⟩
        cbv
        repeat ((with_reducible apply next_at hA); cbv)
        try simp (maxSteps := 4000000) only [nc] at *
        have wz : qa .i64 (qc zi zj) = (X2.length : Int) := by rw [e1, e3, hi, hj, IntWalk.i64_in _ (by omega)]; omega
        have hmu : (qa .i64 (qc zi zj)).toNat + zj.toNat < zi.toNat + zj.toNat := by rw [wz, hi, hj]; omega
        refine ⟨(qa .i64 (qc zi zj), zj, P' ++ (Y' ++ (X2 ++ (X1 ++ S')))), ⟨P' ++ Y', X2, X1, S', by omega, by omega, by rw [List.length_append]; omega, wz, by rw [hX1]; exact hj, ?_, by simp only [List.append_assoc], ?_, ?_⟩, hmu, ?_⟩
        · rw [← he, hX]; simp only [List.append_assoc]
        · show (P' ++ (Y' ++ (X2 ++ (X1 ++ S')))).length = L.length
          rw [← hQl, ← hQ2]; simp only [List.length_append]; omega
        · intro r hr
          refine hQ5 r ?_
          rw [← hQ2]
          simp only [List.mem_append] at hr ⊢
          grind
        · cbv
      · rw [decide_eq_false hlt] at hgt
        obtain ⟨Y1, Y2, hY, hY1⟩ := split_at (l := Y') (n := Y'.length - X'.length) (by omega)
        have hY2 : Y2.length = X'.length := by have := congrArg List.length hY; rw [List.length_append] at this; omega
        have hsp := swapL_split P' X' Y1 Y2 S' hY2.symm
        have hQ2 : P' ++ (X' ++ (Y1 ++ (Y2 ++ S'))) = Q := by rw [hQ, hY]; simp only [List.append_assoc]
        rw [hQ2] at hsp
        have hsw := swap_s Q hQ5 P'.length (P'.length + X'.length + Y1.length) X'.length fid (by omega) (by omega) (by omega)
        have wq : qa .i64 (qc (qa .i64 (qb zm zj)) zi) = ((P'.length + X'.length + Y1.length : Nat) : Int) := by
          have h2 : qa .i64 (qb zm zj) = ((P.length + X.length + Y'.length : Nat) : Int) := by rw [e1, e2, hzm, hj, IntWalk.i64_in _ (by omega)]; omega
          rw [h2, e1, e3, hi, IntWalk.i64_in _ (by omega)]; omega
        rw [hsp, ← wp, ← wq, ← hi] at hsw
        rw [hgt]
        cbv
        repeat ((with_reducible apply next_at hA); cbv)
        try simp (maxSteps := 4000000) only [nc] at *
        refine calls_at hA [0] hsw ⟨rfl, rfl, rfl, rfl, rfl, rfl, rfl⟩ ?_
        rintro res os2 ⟨rfl, rfl⟩
        cbv
        repeat ((with_reducible apply next_at hA); cbv)
        try simp (maxSteps := 4000000) only [nc] at *
        have wz : qa .i64 (qc zj zi) = (Y1.length : Int) := by rw [e1, e3, hi, hj, IntWalk.i64_in _ (by omega)]; omega
        have hmu : zi.toNat + (qa .i64 (qc zj zi)).toNat < zi.toNat + zj.toNat := by rw [wz, hi, hj]; omega
        refine ⟨(zi, qa .i64 (qc zj zi), P' ++ (Y2 ++ (Y1 ++ (X' ++ S')))), ⟨P', Y2, Y1, X' ++ S', by omega, by omega, by omega, by rw [hY2]; exact hi, wz, ?_, rfl, ?_, ?_⟩, hmu, ?_⟩
        · rw [← he, hY]; simp only [List.append_assoc]
        · show (P' ++ (Y2 ++ (Y1 ++ (X' ++ S')))).length = L.length
          rw [← hQl, ← hQ2]; simp only [List.length_append]; omega
        · intro r hr
          refine hQ5 r ?_
          rw [← hQ2]
          simp only [List.mem_append] at hr ⊢
          grind
        · cbv
end Go.Proofs.Ytclehkgnacekkaa.Vm
end
section
namespace Go.Proofs.Ytclehkgnacekkaa.Vm
open Go.RowKit
set_option maxRecDepth 100000
set_option maxHeartbeats 4000000
def cmpB (a b : List UInt8) : Int := if Op.bytesLess a b = true then -1 else if Op.bytesLess b a = true then 1 else 0
theorem cmpB_neg (a b : List UInt8) : decide (cmpB a b < 0) = Op.bytesLess a b := by
  unfold cmpB
  split
  · simp_all
  · split <;> simp_all
def CmpS (fid : Nat) : Prop := ∀ (n m : ByteArray) (x1 x2 x3 x4 y1 y2 y3 y4 : D), Spec fid [.ag [.sc (.string n), x1, x2, x3, x4], .ag [.sc (.string m), y1, y2, y3, y4]] [.one (.sc (.int .i64 (cmpB n.toList m.toList)))]
def Ok5 (x : Rw) : Prop := ∃ n x1 x2 x3 x4, x = [.sc (.string n), x1, x2, x3, x4]
theorem Ok5.len {x : Rw} (h : Ok5 x) : x.length = 5 := by obtain ⟨n, x1, x2, x3, x4, rfl⟩ := h; rfl
theorem sortS_snoc (l : List Rw) (x : Rw) {m : List Rw} (hs : Srt ltR m) (ht : Sta ltR m (sortS ltR l ++ [x])) : m = sortS ltR (l ++ [x]) := sort_is swoR hs (ht.trans (Sta.append (sort_sta swoR l) (.refl _)))
theorem insert_s (fid : Nat) (hc : CmpS fid) (P D S : List Rw) (h5 : ∀ x ∈ P ++ (D ++ S), Ok5 x) (hN : (P ++ (D ++ S)).length ≤ 1048576) :
    SpecS 148 [.own 0, vi .i64 P.length, vi .i64 (P.length + D.length : Nat), .cl fid []] [.row false 86 (P ++ (D ++ S))] (fun res os => res = [] ∧ os = [.row false 86 (P ++ (sortS ltR D ++ S))]) := by
  obtain ⟨za, hza⟩ : ∃ z : Int, z = (P.length : Int) := ⟨_, rfl⟩
  obtain ⟨zb, hzb⟩ : ∃ z : Int, z = ((P.length + D.length : Nat) : Int) := ⟨_, rfl⟩
  obtain ⟨L, hL⟩ : ∃ L, L = P ++ (D ++ S) := ⟨_, rfl⟩
  obtain ⟨M, hM⟩ : ∃ M, M = P ++ (sortS ltR D ++ S) := ⟨_, rfl⟩
  rw [← hza, ← hzb, ← hM, ← hL]
  rw [← hL] at h5 hN
  have hLl : L.length = P.length + D.length + S.length := by rw [hL]; simp only [List.length_append]; omega
  refine specs_of Try.func148 rfl (by kernel_rfl) (by kernel_rfl) (by kernel_rfl) rfl rfl (by rintro _ _ ⟨_, rfl⟩; rfl) fun qa qb qc qd qe qf qg qh qi qj qk ql qm qo qp qs qt qu qv qx qy qz va vc vd ve vf vg vh vj vk vl vm vn vo vp vq vr vt hA K hK => ?_
  cbv
  repeat ((with_reducible apply next_at hA); cbv)
  try simp (maxSteps := 4000000) only [nc] at *
  obtain ⟨e1, e2, e3, e4, e5, e6, e7, e8, e9⟩ := ar_at hA
  obtain ⟨r1, r2, r3, r4⟩ := row_at hA
  obtain ⟨m1, m2, m3, m4⟩ := map_at hA
  have wi : qa .i64 (qb za 1) = ((P.length + 1 + 0 : Nat) : Int) := by rw [e1, e2, hza, IntWalk.i64_in _ (by omega)]; omega
  refine loop_at hA (γ := Int × List Rw) (fun x => [(8, vi .i64 x.1)]) (fun x => [(0, .row false 86 x.2)])
    (fun x => ∃ k : Nat, x.1 = ((P.length + 1 + k : Nat) : Int) ∧ (k = 0 ∨ k + 1 ≤ D.length) ∧ x.2 = P ++ (sortS ltR (D.take (k + 1)) ++ (D.drop (k + 1) ++ S)) ∧ x.2.length = L.length ∧ ∀ r ∈ x.2, r ∈ L) (fun x => L.length + 1 - x.1.toNat) (qa .i64 (qb za 1), L) ?_ ?_ ?_
  · refine ⟨0, wi, .inl rfl, ?_, rfl, fun r h => h⟩
    have : sortS ltR (D.take 1) = D.take 1 := by
      cases D with
      | nil => rfl
      | cons d D => rfl
    show L = _
    rw [this, hL, ← List.append_assoc (D.take 1), List.take_append_drop]
  · cbv
  · intro x hinv
    obtain ⟨z, Q⟩ := x
    cbv
    repeat ((with_reducible apply next_at hA); cbv)
    try simp (maxSteps := 4000000) only [nc] at *
    obtain ⟨k, hz, hk, hQ, hQl, hQm⟩ := hinv
    have hlt : qh z zb = decide (k + 1 < D.length) := by rw [e7, hz, hzb]; exact decide_eq_decide.2 (by omega)
    by_cases h9 : k + 1 < D.length
    · rw [decide_eq_true h9] at hlt
      obtain ⟨x, hx⟩ : ∃ x, D[k + 1]? = some x := ⟨_, List.getElem?_eq_getElem h9⟩
      obtain ⟨hxi, hxe⟩ := List.getElem?_eq_some_iff.1 hx
      obtain ⟨D1, hD1⟩ : ∃ D1, D1 = D.take (k + 1) := ⟨_, rfl⟩
      obtain ⟨D2, hD2⟩ : ∃ D2, D2 = D.drop (k + 1 + 1) := ⟨_, rfl⟩
      have hdrop : D.drop (k + 1) = x :: D2 := by rw [hD2, List.drop_eq_getElem_cons hxi, hxe]
      have htake : D.take (k + 1 + 1) = D1 ++ [x] := by rw [hD1]; exact take_one hx
      rw [← hD1, hdrop] at hQ
      obtain ⟨E, hE⟩ : ∃ E, E = sortS ltR D1 := ⟨_, rfl⟩
      rw [← hE] at hQ
      have hEl : E.length = k + 1 := by rw [hE, sortS_len, hD1, List.length_take]; omega
      have hEs : Srt ltR E := by rw [hE]; exact sort_srt swoR D1
      have hxm : x ∈ L := hQm x (by rw [hQ]; simp)
      obtain ⟨nx, x1, x2, x3, x4, hxx⟩ := h5 x hxm
      rw [hlt]
      cbv
      repeat ((with_reducible apply next_at hA); cbv)
      try simp (maxSteps := 4000000) only [nc] at *
      refine loop_at hA (γ := Int × List Rw) (fun x => [(9, vi .i64 x.1)]) (fun x => [(0, .row false 86 x.2)])
        (fun y => ∃ L1 L2 : List Rw, y.1 = ((P.length + L1.length : Nat) : Int) ∧ E = L1 ++ L2 ∧ (∀ r ∈ L2, ltR x r = true) ∧ y.2 = P ++ (L1 ++ (x :: (L2 ++ (D2 ++ S)))) ∧ y.2.length = L.length ∧ ∀ r ∈ y.2, r ∈ L) (fun y => y.1.toNat) (z, Q) ?_ ?_ ?_
      · exact ⟨E, [], by rw [hEl]; show z = _; rw [hz]; congr 1; omega, by simp, by simp, by rw [hQ]; simp, hQl, hQm⟩
      · cbv
      · intro y hinv
        obtain ⟨zj, N⟩ := y
        cbv
        repeat ((with_reducible apply next_at hA); cbv)
        try simp (maxSteps := 4000000) only [nc] at *
        obtain ⟨L1, L2, hj, hEE, hL2, hNN, hNl, hNm⟩ := hinv
        have hLAST := fun (h1 : ∀ y ∈ L1, ltR x y = false) => put_one_right swoR (x := x) (u1 := L1) (u2 := L2) (by rw [← hEE]; exact hEs) h1 hL2
        have hNl2 : N.length = P.length + L1.length + 1 + L2.length + D2.length + S.length := by rw [hNN]; simp only [List.length_append, List.length_cons]; omega
        have hz1 : qa .i64 (qb z 1) = ((P.length + 1 + (k + 1) : Nat) : Int) := by rw [e1, e2, hz, IntWalk.i64_in _ (by omega)]; omega
        have hmz : L.length + 1 - (qa .i64 (qb z 1)).toNat < L.length + 1 - z.toNat := by rw [hz1, hz]; omega
        have hdone : (∀ y ∈ L1, ltR x y = false) → N = P ++ (sortS ltR (D.take (k + 1 + 1)) ++ (D.drop (k + 1 + 1) ++ S)) := fun h => by
          obtain ⟨h1, h2⟩ := hLAST h
          have h3 : L1 ++ x :: L2 = sortS ltR (D1 ++ [x]) := sortS_snoc D1 x h1 (by rw [← hE, hEE]; exact h2)
          rw [htake, ← hD2, ← h3, hNN]
          simp
        rcases (show L1 = [] ∨ ∃ L y, L1 = L ++ [y] by simpa [List.concat_eq_append] using List.eq_nil_or_concat L1) with hnil | ⟨L0, y, hsn⟩
        · have hlt2 : qh za zj = false := by rw [e7, hza, hj, hnil]; simp
          rw [hlt2]
          cbv
          repeat ((with_reducible apply next_at hA); cbv)
          try simp (maxSteps := 4000000) only [nc] at *
          refine ⟨(qa .i64 (qb z 1), N), ⟨k + 1, hz1, .inr h9, hdone (by rw [hnil]; simp), hNl, hNm⟩, hmz, ?_⟩
          cbv
        · have hl1 : L1.length = L0.length + 1 := by rw [hsn]; simp
          have hlt2 : qh za zj = true := by rw [e7, hza, hj]; exact decide_eq_true (by omega)
          have hym : y ∈ L := hNm y (by rw [hNN, hsn]; simp)
          obtain ⟨ny, y1, y2, y3, y4, hyy⟩ := h5 y hym
          have wj : qa .i64 (qc zj 1) = ((P.length + L0.length : Nat) : Int) := by rw [e1, e3, hj, IntWalk.i64_in _ (by omega)]; omega
          have hNP : N = (P ++ L0) ++ y :: x :: (L2 ++ (D2 ++ S)) := by rw [hNN, hsn]; simp
          have hpl : (P ++ L0).length = P.length + L0.length := List.length_append
          have gx : qz N zj = some [.sc (.string nx), x1, x2, x3, x4] := by
            rw [r2, if_pos (by omega), hj, Int.toNat_natCast, hNP, List.getElem?_append_right (by omega), hpl, show P.length + L1.length - (P.length + L0.length) = 1 by omega, ← hxx]
            rfl
          have gy : qz N (qa .i64 (qc zj 1)) = some [.sc (.string ny), y1, y2, y3, y4] := by
            rw [wj, r2, if_pos (by omega), Int.toNat_natCast, hNP, List.getElem?_append_right (by omega), hpl, Nat.sub_self, ← hyy]
            rfl
          have gy2 : ∀ v, qz (vd N zj v) (qa .i64 (qc zj 1)) = some [.sc (.string ny), y1, y2, y3, y4] := fun v => by
            rw [← gy, r2, r2, m4, wj, hj, Int.toNat_natCast, Int.toNat_natCast, List.getElem?_set_ne (by omega)]
          have hcmp := hc nx ny x1 x2 x3 x4 y1 y2 y3 y4
          have hneg : qh (cmpB nx.toList ny.toList) 0 = ltR x y := by rw [e7, cmpB_neg, hxx, hyy]; rfl
          generalize cmpB nx.toList ny.toList = cv at *
          rw [hlt2]
          cbv
          repeat ((with_reducible apply next_at hA); cbv)
          try simp (maxSteps := 4000000) only [nc] at *
          repeat (first | (rw [gx]; cbv) | (rw [gy]; cbv) | (with_reducible apply next_at hA; cbv))
          refine calm_at hA _ hcmp ?_
          cbv
          cases hb : ltR x y
          · rw [hb] at hneg
            rw [hneg]
            cbv
            repeat ((with_reducible apply next_at hA); cbv)
            try simp (maxSteps := 4000000) only [nc] at *
            refine ⟨(qa .i64 (qb z 1), N), ⟨k + 1, hz1, .inr h9, hdone ?_, hNl, hNm⟩, hmz, ?_⟩
            · rw [hsn]
              exact all_le (by rw [← hsn]; exact (srt_append.1 (by rw [← hEE]; exact hEs)).1) hb
            · cbv
          · rw [hb] at hneg
            rw [hneg]
            cbv
            repeat ((with_reducible apply next_at hA); cbv)
            try simp (maxSteps := 4000000) only [nc] at *
            repeat (first | (rw [gx]; cbv) | (rw [gy]; cbv) | (rw [gy2]; cbv) | (with_reducible apply next_at hA; cbv))
            try simp only [nc] at *
            refine ⟨(qa .i64 (qc zj 1), vd (vd N zj [.sc (.string ny), y1, y2, y3, y4]) (qa .i64 (qc zj 1)) [.sc (.string nx), x1, x2, x3, x4]), ⟨L0, y :: L2, wj, by rw [hEE, hsn]; simp, ?_, ?_, ?_, ?_⟩, ?_, ?_⟩
            · intro r hr
              rcases List.mem_cons.1 hr with rfl | hr
              · exact hb
              · exact hL2 r hr
            · show vd (vd N zj _) _ _ = _
              rw [m4, m4, wj, hj, Int.toNat_natCast, Int.toNat_natCast, hNP, ← hxx, ← hyy, show P.length + L1.length = P.length + L0.length + 1 by omega, swap_adj _ _ _ _ hpl]
              simp
            · show (vd (vd N zj _) _ _).length = _
              rw [m4, m4, List.length_set, List.length_set]
              exact hNl
            · intro r hr
              have hr : r ∈ vd (vd N zj [.sc (.string ny), y1, y2, y3, y4]) (qa .i64 (qc zj 1)) [.sc (.string nx), x1, x2, x3, x4] := hr
              rw [m4, m4, ← hxx, ← hyy] at hr
              rcases List.mem_or_eq_of_mem_set hr with hr | rfl
              · rcases List.mem_or_eq_of_mem_set hr with hr | rfl
                · exact hNm r hr
                · exact hym
              · exact hxm
            · show (qa .i64 (qc zj 1)).toNat < zj.toNat
              rw [wj, hj]
              omega
            · cbv
    · rw [decide_eq_false h9] at hlt
      rw [hlt]
      cbv
      repeat ((with_reducible apply next_at hA); cbv)
      try simp (maxSteps := 4000000) only [nc] at *
      have e : Q = M := by rw [hQ, hM, List.take_of_length_le (by omega), List.drop_eq_nil_of_le (by omega)]; rfl
      rw [e]
      exact hK [] [.row false 86 M] ⟨rfl, rfl⟩
end Go.Proofs.Ytclehkgnacekkaa.Vm
end

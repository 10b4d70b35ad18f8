/- Part 20 of the proof: ShBld, VItoa, VShL, VRd, VDraw3, VSh1, VShB, VSh2, VSh3, VROf, VRCanon, VSchLaw, VSchLaw2, VFlat, VKCanon, VPRight4, VKSame, VSmOf, VBnd, VRAt, VRVars, VKVars, VSc1, VSc2, VSc3, VSc4, VOpen, VScOpen, VTyOpen, VPr1, VPr2. Conditions: none. -/
import Derived.Test.YtahpnackkmbmgaaGreatDoorS3
import Derived.Test.YtahpnackkmbmgaaGreatDoorS4
import Derived.Test.YtahpnackkmbmgaaGreatDoorS7
import Derived.Test.YtahpnackkmbmgaaGreatDoorS8
import Derived.Test.YtahpnackkmbmgaaGreatDoorS14
import Derived.Test.YtahpnackkmbmgaaGreatDoorS18
import Derived.Shelf.Strings.Builder1
import Derived.Shelf.Small.Strs
import Derived.Shelf.Strconv.Itoa0
import Derived.Shelf.Strconv.Itoa1
import Derived.Shelf.LaysM
import Derived.Shelf.Strconv.Itoa2
import Derived.Shelf.Strconv.Itoa3
import Derived.Test.YtahpnackkmbmgaaGreatDoorProg
import Derived.Lib.ItoaNum
import Derived.Lib.ItoaLen
import Derived.IntWalk
import Derived.Test.YtahpnackkmbmgaaGreatDoorRows
import Derived.Deep.Slices
import Derived.WideShapes
import Derived.ChangeArms
set_option linter.all false
set_option linter.unusedVariables false
set_option linter.unusedSimpArgs false
section
namespace Go.Proofs
open Go.Shelf
open Go.RowKit in
def Tryz.laysM171_ren : Go.Shelf.Ren := ⟨fun | 171 => 47 | 243 => 72 | 246 => 93 | 283 => 106 | 284 => 107 | 285 => 108 | 286 => 109 | 129 => 117 | 317 => 116 | 318 => 118 | 319 => 119 | 320 => 120 | 337 => 124 | 338 => 125 | n => n, fun | 3 => 3 | 9 => 9 | 2 => 2 | 4 => 4 | 171 => 141 | 0 => 0 | 53 => 142 | 37 => 32 | 5 => 5 | 173 => 145 | 212 => 154 | 51 => 155 | 20 => 20 | 213 => 156 | 46 => 149 | 232 => 161 | 233 => 162 | n => n, fun | 17 => 0 | 18 => 2 | 19 => 3 | n => n⟩
theorem Tryz.laysM171 : Go.Proofs.LaysM.n171 Tryz.prog Tryz.laysM171_ren := {
 mixed := by kernel_rfl
 f129 := Tryz.func117.trans (congrArg some (by kernel_rfl))
 f171 := Tryz.func47.trans (congrArg some (by kernel_rfl))
 f243 := Tryz.func72.trans (congrArg some (by kernel_rfl))
 f246 := Tryz.func93.trans (congrArg some (by kernel_rfl))
 f283 := Tryz.func106.trans (congrArg some (by kernel_rfl))
 f284 := Tryz.func107.trans (congrArg some (by kernel_rfl))
 f285 := Tryz.func108.trans (congrArg some (by kernel_rfl))
 f286 := Tryz.func109.trans (congrArg some (by kernel_rfl))
 f317 := Tryz.func116.trans (congrArg some (by kernel_rfl))
 f318 := Tryz.func118.trans (congrArg some (by kernel_rfl))
 f319 := Tryz.func119.trans (congrArg some (by kernel_rfl))
 f320 := Tryz.func120.trans (congrArg some (by kernel_rfl))
 f337 := Tryz.func124.trans (congrArg some (by kernel_rfl))
 f338 := Tryz.func125.trans (congrArg some (by kernel_rfl))
 t0 := Tryz.underlying0
 a0 := Tryz.isAgg0
 z0 := Tryz.sizeOf0
 v0 := Tryz.zeroValue0
 t2 := Tryz.underlying2
 a2 := Tryz.isAgg2
 z2 := Tryz.sizeOf2
 v2 := Tryz.zeroValue2
 t3 := Tryz.underlying3
 a3 := Tryz.isAgg3
 z3 := Tryz.sizeOf3
 v3 := Tryz.zeroValue3
 t4 := Tryz.underlying4
 a4 := Tryz.isAgg4
 z4 := Tryz.sizeOf4
 v4 := Tryz.zeroValue4
 t5 := Tryz.underlying5
 a5 := Tryz.isAgg5
 z5 := Tryz.sizeOf5
 v5 := Tryz.zeroValue5
 t9 := Tryz.underlying9
 a9 := Tryz.isAgg9
 z9 := Tryz.sizeOf9
 v9 := Tryz.zeroValue9
 t20 := Tryz.underlying20
 a20 := Tryz.isAgg20
 z20 := Tryz.sizeOf20
 v20 := Tryz.zeroValue20
 t37 := Tryz.underlying32
 a37 := Tryz.isAgg32
 z37 := Tryz.sizeOf32
 v37 := Tryz.zeroValue32
 t46 := Tryz.underlying149
 a46 := Tryz.isAgg149
 z46 := Tryz.sizeOf149
 v46 := Tryz.zeroValue149
 t51 := Tryz.underlying155
 a51 := Tryz.isAgg155
 z51 := Tryz.sizeOf155
 v51 := Tryz.zeroValue155
 t53 := Tryz.underlying142
 a53 := Tryz.isAgg142
 z53 := Tryz.sizeOf142
 v53 := Tryz.zeroValue142
 t171 := Tryz.underlying141
 a171 := Tryz.isAgg141
 z171 := Tryz.sizeOf141
 v171 := Tryz.zeroValue141
 t173 := Tryz.underlying145
 a173 := Tryz.isAgg145
 z173 := Tryz.sizeOf145
 v173 := Tryz.zeroValue145
 t212 := Tryz.underlying154
 a212 := Tryz.isAgg154
 z212 := Tryz.sizeOf154
 v212 := Tryz.zeroValue154
 t213 := Tryz.underlying156
 a213 := Tryz.isAgg156
 z213 := Tryz.sizeOf156
 t232 := Tryz.underlying161
 a232 := Tryz.isAgg161
 z232 := Tryz.sizeOf161
 v232 := Tryz.zeroValue161
 t233 := Tryz.underlying162
 a233 := Tryz.isAgg162
 z233 := Tryz.sizeOf162
 v233 := Tryz.zeroValue162
 g17 := by kernel_rfl
 g18 := by kernel_rfl
 g19 := by kernel_rfl
 i0 := by kernel_rfl
 i2 := by kernel_rfl
 i3 := by kernel_rfl
 i4 := by kernel_rfl
 i5 := by kernel_rfl
 i9 := by kernel_rfl
 i20 := by kernel_rfl
 i37 := by kernel_rfl
 i46 := by kernel_rfl
 i51 := by kernel_rfl
 i53 := by kernel_rfl
 i171 := by kernel_rfl
 i173 := by kernel_rfl
 i212 := by kernel_rfl
 i232 := by kernel_rfl
 i233 := by kernel_rfl
 m17 := by kernel_rfl
 m18 := by kernel_rfl
 m19 := by kernel_rfl }
open Go.RowKit Go.Sort Go.Lib in
theorem Tryz.strconv_Itoa (n : Int) (h0 : -9223372036854775808 ≤ n) (h1 : n ≤ 9223372036854775807) (w : World) (htab : Lib.TabIs Tryz.prog w "internal/strconv.uint64pow10" .u64 Lib.pow10Tab) :
  Calls Tryz.prog 47 #[.int .i64 n] w fun e w' => e = .returned (.string ⟨(Lib.itoa n).toArray⟩) ∧ ∃ k os, w' = grow (w.drewN k) os := Any.strconv_Itoa Tryz.laysM171 n h0 h1 w htab
end Go.Proofs
end
section
namespace Go.Proofs.YtahpnackkmbmgaaGreatDoor.Vm
open Go.RowKit
theorem tab_pow10 : ("internal/strconv.uint64pow10", IntKind.u64, Lib.pow10Tab) ∈ tabsOf := by
 rw [show Lib.pow10Tab = _ from (by decide : Lib.pow10Tab = [1, 10, 100, 1000, 10000, 100000, 1000000, 10000000, 100000000, 1000000000, 10000000000, 100000000000, 1000000000000, 10000000000000, 100000000000000, 1000000000000000, 10000000000000000, 100000000000000000, 1000000000000000000, 10000000000000000000])]
 unfold tabsOf
 simp
theorem itoa_c (n : Int) (h0 : -9223372036854775808 ≤ n) (h1 : n ≤ 9223372036854775807) : Spec 47 [.one (.sc (.int .i64 n))] [.one (.sc (.string ⟨(Lib.itoa n).toArray⟩))] := by
 refine ⟨by kernel_rfl, fun I w args hI hat => ?_⟩
 match args, hat with
 | [v1], ⟨h2, _⟩ =>
  have h2 : AtD I w v1 (.sc (.int .i64 n)) := h2
  cases h2
  refine (Tryz.strconv_Itoa n h0 h1 w (hI.2 _ tab_pow10).1).mono ?_
  rintro e w' ⟨rfl, k, os, rfl⟩
  exact ⟨_, rfl, .sc _ rfl, ⟨rfl, rfl, rfl, by simp [Sort.grow, World.drewN], fun k hk => by simp [Sort.grow, World.drewN, Array.getElem?_append, hk]⟩⟩
end Go.Proofs.YtahpnackkmbmgaaGreatDoor.Vm
end
section
namespace Go.Proofs.YtahpnackkmbmgaaGreatDoor.Vm
open Go.RowKit
theorem shape_in {W : ByteArray → Bool} {t : Ty} {s : Int} (h : shapeB W t s = true) : ∃ k, kidsS t.op = some k ∧ (decide (8 ≤ t.op) == (s == 114)) = true ∧ t.kids.length = k.length ∧ 0 ≤ t.n ∧ shapesB W t.kids k = true := by
 rw [shape_eq] at h
 cases hk : kidsS t.op with
 | none => unfold headB at h; rw [hk] at h; simp at h
 | some k =>
  unfold headB at h
  rw [hk] at h
  simp only [Bool.and_eq_true, decide_eq_true_eq, Option.getD_some] at h
  exact ⟨k, rfl, h.1.1, h.1.2.1, h.1.2.2.2.1, h.2⟩
theorem shape_ty {W : ByteArray → Bool} {t : Ty} (h : shapeB W t 116 = true) : 0 ≤ t.n ∧ (((t.op = 1 ∨ t.op = 2 ∨ t.op = 3 ∨ t.op = 7) ∧ t.kids = []) ∨ (t.op = 4 ∧ ∃ a b, t.kids = [a, b] ∧ shapeB W a 116 = true ∧ shapeB W b 116 = true) ∨ ((t.op = 5 ∨ t.op = 6) ∧ ∃ a, t.kids = [a] ∧ shapeB W a 114 = true)) := by
 obtain ⟨k, hk, h1, h2, h3, h4⟩ := shape_in h
 refine ⟨h3, ?_⟩
 have h1 : ¬ 8 ≤ t.op := fun h8 => by rw [decide_eq_true h8] at h1; exact absurd h1 (by decide)
 unfold kidsS at hk
 split at hk
 ·rename_i ho
  injection hk with hk; subst hk
  exact .inl ⟨by omega, List.eq_nil_of_length_eq_zero h2⟩
 ·split at hk
  ·rename_i ho
   injection hk with hk; subst hk
   match t.kids, h2, h4 with
   | [a, b], _, h4 => simp only [shapesB, Bool.and_eq_true] at h4; exact .inr (.inl ⟨ho, a, b, rfl, h4.1, h4.2.1⟩)
  ·split at hk
   ·rename_i ho
    injection hk with hk; subst hk
    match t.kids, h2, h4 with
    | [a], _, h4 => simp only [shapesB, Bool.and_eq_true] at h4; exact .inr (.inr ⟨ho, a, rfl, h4.1⟩)
   ·split at hk
    ·omega
    ·cases hk
theorem shape_rw {W : ByteArray → Bool} {t : Ty} (h : shapeB W t 114 = true) : 0 ≤ t.n ∧ (((t.op = 8 ∨ t.op = 9 ∨ t.op = 10) ∧ t.kids = []) ∨ (t.op = 11 ∧ ∃ a b, t.kids = [a, b] ∧ shapeB W a 116 = true ∧ shapeB W b 114 = true)) := by
 obtain ⟨k, hk, h1, h2, h3, h4⟩ := shape_in h
 refine ⟨h3, ?_⟩
 have h1 : 8 ≤ t.op := by
  by_cases h8 : 8 ≤ t.op
  ·exact h8
  ·rw [decide_eq_false h8] at h1; exact absurd h1 (by decide)
 unfold kidsS at hk
 split at hk
 ·rename_i ho
  injection hk with hk; subst hk
  exact .inl ⟨by omega, List.eq_nil_of_length_eq_zero h2⟩
 ·split at hk
  ·omega
  ·split at hk
   ·omega
   ·split at hk
    ·rename_i ho
     injection hk with hk; subst hk
     match t.kids, h2, h4 with
     | [a, b], _, h4 => simp only [shapesB, Bool.and_eq_true] at h4; exact .inr ⟨ho, a, b, rfl, h4.1, h4.2.1⟩
    ·cases hk
def rowW (g : Ty → List UInt8) : Bool → List (ByteArray × Ty) → List UInt8
 | _, [] => []
 | first, f :: fs => (if first = true then [] else [44]) ++ (f.1.data.toList ++ (58 :: (g f.2 ++ rowW g false fs)))
def tailW (t : Ty) : List UInt8 := if t.op = 9 then [124, 63] else if t.op = 10 then 124 :: 39 :: Lib.itoa t.n else []
def rowT (g : Ty → List UInt8) (t : Ty) : List UInt8 := rowW g true (fieldsS t) ++ tailW (tailS t)
def fromW (g : Ty → List UInt8) (t : Ty) : List UInt8 := if t.op = 4 then 40 :: (g t ++ [41]) else g t
def nodeW (g : Ty → List UInt8) (t : Ty) : List UInt8 :=
 if t.op = 1 then [73, 110, 116] else if t.op = 2 then [66, 111, 111, 108] else if t.op = 3 then [63] else if t.op = 7 then 39 :: Lib.itoa t.n else
 if t.op = 5 then (match t.kids with | [a] => 123 :: (rowT g a ++ [125]) | _ => []) else if t.op = 6 then (match t.kids with | [a] => 60 :: (rowT g a ++ [62]) | _ => []) else
 if t.op = 4 then (match t.kids with | [a, b] => fromW g a ++ (45 :: 62 :: g b) | _ => []) else []
def txtF : Nat → Ty → List UInt8
 | 0, _ => []
 | m + 1, t => nodeW (txtF m) t
def txtS (t : Ty) : List UInt8 := txtF t.parts.length t
theorem rowW_congr {g g' : Ty → List UInt8} : ∀ (fs : List (ByteArray × Ty)) (b : Bool), (∀ f ∈ fs, g f.2 = g' f.2) → rowW g b fs = rowW g' b fs
 | [], _, _ => rfl
 | f :: fs, b, h => by rw [rowW, rowW, h f (List.mem_cons_self ..), rowW_congr fs false fun x hx => h x (List.mem_cons_of_mem _ hx)]
theorem rowT_congr {g g' : Ty → List UInt8} (t : Ty) (h : ∀ x : Ty, x.parts.length < t.parts.length → g x = g' x) : rowT g t = rowT g' t := by
 unfold rowT
 rw [rowW_congr _ true fun f hf => h f.2 (fields_less _ t (Nat.le_refl _) f hf)]
theorem nodeW_congr {g g' : Ty → List UInt8} (t : Ty) (h : ∀ x : Ty, x.parts.length < t.parts.length → g x = g' x) : nodeW g t = nodeW g' t := by
 have hkl := kids_le t
 unfold nodeW
 match hk : t.kids with
 | [] => rfl
 | [a] =>
  have h1 := hkl.2 a (by rw [hk]; simp)
  dsimp only
  rw [rowT_congr a fun x hx => h x (by omega)]
 | [a, b] =>
  have h1 := hkl.2 a (by rw [hk]; simp)
  have h2 := hkl.2 b (by rw [hk]; simp)
  dsimp only
  unfold fromW
  rw [h a (by omega), h b (by omega)]
 | a :: b :: c :: l => rfl
theorem txt_fuel : ∀ (n m : Nat) (t : Ty), t.parts.length ≤ n → t.parts.length ≤ m → txtF n t = txtF m t
 | 0, _, t, h, _ => by have := parts_pos t; omega
 | _ + 1, 0, t, _, h => by have := parts_pos t; omega
 | n + 1, m + 1, t, h1, h2 => by rw [txtF, txtF]; exact nodeW_congr t fun x hx => txt_fuel n m x (by omega) (by omega)
theorem txt_eq (t : Ty) : txtS t = nodeW txtS t := by
 unfold txtS
 have := parts_pos t
 obtain ⟨m, hm⟩ : ∃ m, t.parts.length = m + 1 := ⟨t.parts.length - 1, by omega⟩
 rw [hm, txtF]
 exact nodeW_congr t fun x hx => txt_fuel m _ x (by omega) (Nat.le_refl _)
theorem rowT_at {g : Ty → List UInt8} (b : Bool) {t x y : Ty} (ho : t.op = 11) (hk : t.kids = [x, y]) : rowW g b (fieldsS t) ++ tailW (tailS t) = (if b = true then [] else [44]) ++ (t.name.data.toList ++ (58 :: (g x ++ (rowW g false (fieldsS y) ++ tailW (tailS y))))) := by
 obtain ⟨op, nm, n, ks⟩ := t
 have ho : op = 11 := ho
 have hk : ks = [x, y] := hk
 subst ho; subst hk
 rw [fieldsS, if_pos rfl, tailS, if_pos rfl, rowW]
 simp [Ty.name]
end Go.Proofs.YtahpnackkmbmgaaGreatDoor.Vm
end
section
namespace Go.Proofs.YtahpnackkmbmgaaGreatDoor.Vm
open Go.RowKit
section
variable {qa : IntKind → Int → Int} {qb : Int → Int → Int} {qc : Int → Int → Int} {qd : Int → Int → Int} {qe : Int → Int → Int} {qf : Int → Int → Int} {qg : BinOp → IntKind → Int → IntKind → Int → Option Int} {qh : Int → Int → Bool} {qi : Int → Int → Bool} {qj : Int → Int → Bool} {qk : Int → Prop → Prop} {ql : List UInt8 → List UInt8 → Bool} {qm : List UInt8 → List UInt8 → Bool} {qo : ByteArray → List UInt8} {qp : ByteArray → ByteArray → ByteArray} {qq : ByteArray → ByteArray → Prop → Prop} {qs : ByteArray → Int} {qt : ByteArray → Int → Option Int} {qu : ByteArray → Int → Int → Option ByteArray} {qv : List (List D) → Option ByteArray} {qw : ByteArray → List (List D)} {qx : Int → Nat → Option Nat} {qy : List (List D) → Int} {qz : List (List D) → Int → Option (List D)} {va : List (List D) → Int → Int → Option (List (List D))} {vc : List (List D) → List (List D) → List (List D)} {vd : List (List D) → Int → List D → List (List D)} {ve : List (List D) → List (List D) → Prop → Prop} {vf : List (R × R) → R → Option R} {vg : List (R × R) → R → R → List (R × R)} {vh : Int → List D → (List (List D) → Prop) → Prop} {vj : Nat → List R → (List R → Prop) → Prop} {vk : Nat → List V → List O → (V → Prop) → Prop} {vl : Nat → List V → S → (V → S → Prop) → Prop} {vm : Nat → List V → List Nat → S → (V → S → Prop) → Prop} {vn : Nat → (Bool → Prop) → Prop} {vo : Nat → (Bool → Prop) → Prop} {vp : Nat → (List V → List O → Prop) → List V → S → Prop} {vq : (S → Prop) → S → Prop} {vr : Op → Option Nat → S → (S → Prop) → Prop} {vt : Array Oper → S → (S → Prop) → Prop} {vu : Code → (S → (X → S → Prop) → Prop) → S → (X → S → Prop) → Prop}
end
end Go.Proofs.YtahpnackkmbmgaaGreatDoor.Vm
end
section
namespace Go.Proofs.YtahpnackkmbmgaaGreatDoor.Vm
open Go.RowKit
def isRd : Op → Bool
 | .move _ => true
 | .load _ _ => true
 | .fieldAddr _ _ _ => true
 | .field _ _ _ => true
 | .indexAddr _ _ _ => true
 | .extract _ _ => true
 | _ => false
def isRdO : Oper → Bool
 | ⟨_, op, _, _, _, none⟩ => isRd op
 | _ => false
def SemO (ops : Array Oper) (o : Oper) (s : S) (K1 : S → Prop) : Prop := ∀ (I0 : Nat → Nat → Prop) (X : Nat → Prop) (w0 : W0) (a : Act) (w : World) (ro : Option Nat) (n : Nat) (Q : Exit → Act → World → Prop) (Kw : Act → World → Prop), okOp Tryz.prog o.op = true → Rel I0 X w0 s a w → (∀ s' a' w', Rel I0 X w0 s' a' w' → K1 s' → Kw a' w') →
 if Region.wanted o (yielded ops a.tmps) then o.wpIn (FW ro) n Tryz.prog a w Kw Q else (∀ f, o.about Tryz.prog w a.eval = some f → (FW ro).fn f) ∧ Kw (a.put o.dst undef) w
theorem SemO.mono {ops : Array Oper} {o : Oper} {s : S} {K K' : S → Prop} (h : SemO ops o s K) (hK : ∀ s, K s → K' s) : SemO ops o s K' :=
 fun I0 X w0 a w ro n Q Kw hop hr hk => h I0 X w0 a w ro n Q Kw hop hr fun s' a' w' h1 h2 => hk s' a' w' h1 (hK s' h2)
def exG (ops : Array Oper) (o : Oper) (s : S) (K : S → Prop) : Prop := if isRdO o = true then exec1 real (dstsOf ops.toList) o s K else SemO ops o s K
theorem exG.mono {ops : Array Oper} {o : Oper} {s : S} {K K' : S → Prop} (h : exG ops o s K) (hK : ∀ s, K s → K' s) : exG ops o s K' := by
 unfold exG at h ⊢
 split
 ·rename_i hr
  rw [if_pos hr] at h
  exact exec1_mono2 hK h
 ·rename_i hr
  rw [if_neg hr] at h
  exact h.mono hK
section
variable {I0 : Nat → Nat → Prop} {X : Nat → Prop} {w0 : W0}
end
section
variable {qa : IntKind → Int → Int} {qb : Int → Int → Int} {qc : Int → Int → Int} {qd : Int → Int → Int} {qe : Int → Int → Int} {qf : Int → Int → Int} {qg : BinOp → IntKind → Int → IntKind → Int → Option Int} {qh : Int → Int → Bool} {qi : Int → Int → Bool} {qj : Int → Int → Bool} {qk : Int → Prop → Prop} {ql : List UInt8 → List UInt8 → Bool} {qm : List UInt8 → List UInt8 → Bool} {qo : ByteArray → List UInt8} {qp : ByteArray → ByteArray → ByteArray} {qq : ByteArray → ByteArray → Prop → Prop} {qs : ByteArray → Int} {qt : ByteArray → Int → Option Int} {qu : ByteArray → Int → Int → Option ByteArray} {qv : List (List D) → Option ByteArray} {qw : ByteArray → List (List D)} {qx : Int → Nat → Option Nat} {qy : List (List D) → Int} {qz : List (List D) → Int → Option (List D)} {va : List (List D) → Int → Int → Option (List (List D))} {vc : List (List D) → List (List D) → List (List D)} {vd : List (List D) → Int → List D → List (List D)} {ve : List (List D) → List (List D) → Prop → Prop} {vf : List (R × R) → R → Option R} {vg : List (R × R) → R → R → List (R × R)} {vh : Int → List D → (List (List D) → Prop) → Prop} {vj : Nat → List R → (List R → Prop) → Prop} {vk : Nat → List V → List O → (V → Prop) → Prop} {vl : Nat → List V → S → (V → S → Prop) → Prop} {vm : Nat → List V → List Nat → S → (V → S → Prop) → Prop} {vn : Nat → (Bool → Prop) → Prop} {vo : Nat → (Bool → Prop) → Prop} {vp : Nat → (List V → List O → Prop) → List V → S → Prop} {vq : (S → Prop) → S → Prop} {vr : Op → Option Nat → S → (S → Prop) → Prop} {vt : Array Oper → S → (S → Prop) → Prop} {vu : Code → (S → (X → S → Prop) → Prop) → S → (X → S → Prop) → Prop}
end
end Go.Proofs.YtahpnackkmbmgaaGreatDoor.Vm
end
section
namespace Go.Proofs.YtahpnackkmbmgaaGreatDoor.Vm
open Go.RowKit
set_option maxRecDepth 100000
set_option maxHeartbeats 4000000
def WrU (f : Nat) (t : Ty) (out : List UInt8) : Prop := ∀ l : List UInt8, l.length + out.length ≤ 137438953472 → SpecO f [.ptr 0 0, .ag (ofD (cT t))] (penU l) (fun res os => res = [] ∧ os = penU (l ++ out))
theorem penU_eq (l : List UInt8) : penU l = [.box [.ptr 0 0, .own 1], .row false 5 (rU l)] := rfl
theorem write_leaf (t : Ty) (hop : t.op = 1 ∨ t.op = 2 ∨ t.op = 3) : WrU 25 t (txtS t) := by
 intro l hl
 rw [txt_eq] at hl ⊢
 unfold nodeW at hl ⊢
 have c1 := wsU_s l ⟨#[73, 110, 116]⟩
 have c2 := wsU_s l ⟨#[66, 111, 111, 108]⟩
 have c3 := wbU_s l 63
 obtain ⟨op, nm, n, ks⟩ := t
 simp only [Ty.op] at hop hl ⊢
 rw [cT]
 generalize rT ks = K
 rcases hop with rfl | rfl | rfl
 ·replace c1 := c1 (by rw [show (⟨#[73, 110, 116]⟩ : ByteArray).size = 3 from rfl]; simpa using hl)
  show SpecO _ _ _ (fun res os => res = [] ∧ os = penU (l ++ btl ⟨#[73, 110, 116]⟩))
  clear c2 c3
  rw [penU_eq] at *
  rw [penU_eq] at *
  generalize rU (l ++ btl ⟨#[73, 110, 116]⟩) = R1 at *
  generalize rU l = R0 at *
  clear hl
  refine speco_of Tryz.func25 rfl (by kernel_rfl) (by kernel_rfl) (by kernel_rfl) fun qa qb qc qd qe qf qg qh qi qj qk ql qm qo qp qq qs qt qu qv qw qx qy qz va vc vd ve vf vg vh vj vk vl vm vn vo vp vq vr vt vu hA => ?_
  obtain ⟨e1, e2, e3, e4, e5, e6, e7, e8, e9⟩ := ar_at hA
  have h1 : qj 1 1 = true := e9 _ _
  cbv
  repeat (first | (with_reducible apply next_at hA; cbv) | (rw [h1]; cbv))
  try cbv
  repeat (first | (with_reducible apply next_at hA; cbv) | (rw [h1]; cbv))
  try simp (maxSteps := 4000000) only [nc] at *
  refine callo_at hA [0, 1] c1 ⟨rfl, rfl, rfl, rfl, rfl, rfl, rfl⟩ ?_
  rintro _ _ ⟨rfl, rfl⟩
  cbv
  repeat (first | (with_reducible apply next_at hA; cbv))
  try cbv
  repeat (first | (with_reducible apply next_at hA; cbv))
  try simp (maxSteps := 4000000) only [nc] at *
  exact keep_is hA [0, 1] ⟨rfl, rfl, rfl, rfl, rfl, rfl, rfl, rfl⟩ ⟨rfl, rfl⟩
 ·replace c2 := c2 (by rw [show (⟨#[66, 111, 111, 108]⟩ : ByteArray).size = 4 from rfl]; simpa using hl)
  show SpecO _ _ _ (fun res os => res = [] ∧ os = penU (l ++ btl ⟨#[66, 111, 111, 108]⟩))
  clear c1 c3
  rw [penU_eq] at *
  rw [penU_eq] at *
  generalize rU (l ++ btl ⟨#[66, 111, 111, 108]⟩) = R1 at *
  generalize rU l = R0 at *
  clear hl
  refine speco_of Tryz.func25 rfl (by kernel_rfl) (by kernel_rfl) (by kernel_rfl) fun qa qb qc qd qe qf qg qh qi qj qk ql qm qo qp qq qs qt qu qv qw qx qy qz va vc vd ve vf vg vh vj vk vl vm vn vo vp vq vr vt vu hA => ?_
  obtain ⟨e1, e2, e3, e4, e5, e6, e7, e8, e9⟩ := ar_at hA
  have h1 : qj 2 1 = false := e9 _ _
  have h2 : qj 2 2 = true := e9 _ _
  cbv
  repeat (first | (with_reducible apply next_at hA; cbv) | (rw [h1]; cbv) | (rw [h2]; cbv))
  try cbv
  repeat (first | (with_reducible apply next_at hA; cbv) | (rw [h1]; cbv) | (rw [h2]; cbv))
  try simp (maxSteps := 4000000) only [nc] at *
  refine callo_at hA [0, 1] c2 ⟨rfl, rfl, rfl, rfl, rfl, rfl, rfl⟩ ?_
  rintro _ _ ⟨rfl, rfl⟩
  cbv
  repeat (first | (with_reducible apply next_at hA; cbv))
  try cbv
  repeat (first | (with_reducible apply next_at hA; cbv))
  try simp (maxSteps := 4000000) only [nc] at *
  exact keep_is hA [0, 1] ⟨rfl, rfl, rfl, rfl, rfl, rfl, rfl, rfl⟩ ⟨rfl, rfl⟩
 ·replace c3 := c3 (by simpa using hl)
  show SpecO _ _ _ (fun res os => res = [] ∧ os = penU (l ++ [63]))
  replace c3 : SpecO 46 [.ptr 0 0, vi .u8 63] _ _ := c3
  clear c1 c2
  rw [penU_eq] at *
  rw [penU_eq] at *
  generalize rU (l ++ [63]) = R1 at *
  generalize rU l = R0 at *
  clear hl
  refine speco_of Tryz.func25 rfl (by kernel_rfl) (by kernel_rfl) (by kernel_rfl) fun qa qb qc qd qe qf qg qh qi qj qk ql qm qo qp qq qs qt qu qv qw qx qy qz va vc vd ve vf vg vh vj vk vl vm vn vo vp vq vr vt vu hA => ?_
  obtain ⟨e1, e2, e3, e4, e5, e6, e7, e8, e9⟩ := ar_at hA
  have h1 : qj 3 1 = false := e9 _ _
  have h2 : qj 3 2 = false := e9 _ _
  have h3 : qj 3 3 = true := e9 _ _
  cbv
  repeat (first | (with_reducible apply next_at hA; cbv) | (rw [h1]; cbv) | (rw [h2]; cbv) | (rw [h3]; cbv))
  try cbv
  repeat (first | (with_reducible apply next_at hA; cbv) | (rw [h1]; cbv) | (rw [h2]; cbv) | (rw [h3]; cbv))
  try simp (maxSteps := 4000000) only [nc] at *
  refine callo_at hA [0, 1] c3 ⟨rfl, rfl, rfl, rfl, rfl, rfl, rfl⟩ ?_
  rintro _ _ ⟨rfl, rfl⟩
  cbv
  repeat (first | (with_reducible apply next_at hA; cbv))
  try cbv
  repeat (first | (with_reducible apply next_at hA; cbv))
  try simp (maxSteps := 4000000) only [nc] at *
  exact keep_is hA [0, 1] ⟨rfl, rfl, rfl, rfl, rfl, rfl, rfl, rfl⟩ ⟨rfl, rfl⟩
theorem write_var (nm : ByteArray) (n : Int) (ks : List Ty) (h0 : 0 ≤ n) (h1 : n ≤ 9223372036854775807) : WrU 25 (.mk 7 nm n ks) (39 :: Lib.itoa n) := by
 intro l hl
 have c1 := wsU_s l (⟨#[39]⟩ ++ ⟨(Lib.itoa n).toArray⟩)
 have hi := itoa_c n (by omega) h1
 have hb : btl (⟨#[39]⟩ ++ ⟨(Lib.itoa n).toArray⟩ : ByteArray) = 39 :: Lib.itoa n := by unfold btl; simp
 have hz : (⟨#[39]⟩ ++ ⟨(Lib.itoa n).toArray⟩ : ByteArray).size = (39 :: Lib.itoa n).length := by rw [← hb, btl_size]
 replace c1 := c1 (by rw [hz]; exact hl)
 rw [hb] at c1
 have hfit : (⟨#[39]⟩ : ByteArray).size + (⟨(Lib.itoa n).toArray⟩ : ByteArray).size ≤ 4611686018427387904 := by
  have h2 : (⟨#[39]⟩ ++ ⟨(Lib.itoa n).toArray⟩ : ByteArray).size = (⟨#[39]⟩ : ByteArray).size + (⟨(Lib.itoa n).toArray⟩ : ByteArray).size := by simp
  rw [← h2, hz]; omega
 rw [cT]
 generalize rT ks = K
 clear hz hb
 rw [penU_eq] at *
 rw [penU_eq] at *
 generalize rU (l ++ 39 :: Lib.itoa n) = R1 at *
 generalize rU l = R0 at *
 clear hl
 generalize (⟨(Lib.itoa n).toArray⟩ : ByteArray) = D at *
 obtain ⟨S, hS⟩ : ∃ S, S = (⟨#[39]⟩ ++ D : ByteArray) := ⟨_, rfl⟩
 rw [← hS] at c1
 refine speco_of Tryz.func25 rfl (by kernel_rfl) (by kernel_rfl) (by kernel_rfl) fun qa qb qc qd qe qf qg qh qi qj qk ql qm qo qp qq qs qt qu qv qw qx qy qz va vc vd ve vf vg vh vj vk vl vm vn vo vp vq vr vt vu hA => ?_
 obtain ⟨e1, e2, e3, e4, e5, e6, e7, e8, e9⟩ := ar_at hA
 obtain ⟨s1, s2, s3, s4, s5, s6, s7⟩ := str_at hA
 have h1 : qj 7 1 = false := e9 _ _
 have h2 : qj 7 2 = false := e9 _ _
 have h3 : qj 7 3 = false := e9 _ _
 have h7 : qj 7 7 = true := e9 _ _
 have hc : qp ⟨#[39]⟩ D = S := by rw [s4, hS]
 cbv
 repeat (first | (with_reducible apply next_at hA; cbv) | (rw [h1]; cbv) | (rw [h2]; cbv) | (rw [h3]; cbv) | (rw [h7]; cbv) | (refine call_at hA _ hi rfl ?_; cbv) | (refine calm_at hA _ hi ?_; cbv))
 try cbv
 repeat (first | (with_reducible apply next_at hA; cbv) | (rw [h1]; cbv) | (rw [h2]; cbv) | (rw [h3]; cbv) | (rw [h7]; cbv) | (refine call_at hA _ hi rfl ?_; cbv) | (refine calm_at hA _ hi ?_; cbv))
 try simp (maxSteps := 4000000) only [nc] at *
 refine fits_at hA hfit ?_
 cbv
 rw [hc]
 cbv
 repeat (first | (with_reducible apply next_at hA; cbv))
 try cbv
 repeat (first | (with_reducible apply next_at hA; cbv))
 try simp (maxSteps := 4000000) only [nc] at *
 refine callo_at hA [0, 1] c1 ⟨rfl, rfl, rfl, rfl, rfl, rfl, rfl⟩ ?_
 rintro _ _ ⟨rfl, rfl⟩
 cbv
 repeat (first | (with_reducible apply next_at hA; cbv))
 try cbv
 repeat (first | (with_reducible apply next_at hA; cbv))
 try simp (maxSteps := 4000000) only [nc] at *
 exact keep_is hA [0, 1] ⟨rfl, rfl, rfl, rfl, rfl, rfl, rfl, rfl⟩ ⟨rfl, rfl⟩
end Go.Proofs.YtahpnackkmbmgaaGreatDoor.Vm
end
section
namespace Go.Proofs.YtahpnackkmbmgaaGreatDoor.Vm
open Go.RowKit
def Mod (t : Ty) : Prop := ∀ x ∈ t.parts, x.name.size ≤ 32 ∧ 0 ≤ x.n ∧ x.n ≤ 9223372036854775807
theorem Mod.kid {t x : Ty} (h : Mod t) (hx : x ∈ t.kids) : Mod x := fun y hy => h y (by rw [parts_kids]; exact List.mem_cons_of_mem _ (List.mem_flatMap.2 ⟨x, hx, hy⟩))
theorem Mod.self {t : Ty} (h : Mod t) : t.name.size ≤ 32 ∧ 0 ≤ t.n ∧ t.n ≤ 9223372036854775807 := h t (by rw [parts_eq]; exact List.mem_cons_self ..)
theorem parts_one {t a : Ty} (h : t.kids = [a]) : t.parts.length = 1 + a.parts.length := by rw [parts_kids, h]; simp; omega
theorem parts_two {t a b : Ty} (h : t.kids = [a, b]) : t.parts.length = 1 + a.parts.length + b.parts.length := by rw [parts_kids, h]; simp; omega
theorem row_end {t : Ty} (h : ¬ (t.op = 11 ∧ ∃ a b, t.kids = [a, b])) : fieldsS t = [] ∧ tailS t = t := by
 obtain ⟨op, nm, n, ks⟩ := t
 match ks, h with
 | [], _ => exact ⟨rfl, rfl⟩
 | [a], _ => exact ⟨rfl, rfl⟩
 | a :: b :: c :: l, _ => exact ⟨rfl, rfl⟩
 | [a, b], h =>
  have h : op ≠ 11 := fun e => h ⟨e, a, b, rfl⟩
  unfold fieldsS tailS
  rw [if_neg h, if_neg h]
  exact ⟨rfl, rfl⟩
theorem tailW_len (t : Ty) (h : 0 ≤ t.n ∧ t.n ≤ 9223372036854775807) : (tailW t).length ≤ 23 := by
 have h1 := Lib.itoa_length_le t.n (by omega) h.2
 unfold tailW
 split
 ·simp
 ·split
  ·simp; omega
  ·simp
theorem txt_len : ∀ (m : Nat) (t : Ty), t.parts.length ≤ m → Mod t → (txtS t).length ≤ 64 * t.parts.length ∧ ∀ b, (rowW txtS b (fieldsS t) ++ tailW (tailS t)).length ≤ 64 * t.parts.length := by
 intro m
 induction m with
 | zero => intro t h; have := parts_pos t; omega
 | succ m ih =>
  intro t hm hM
  have hkl := kids_le t
  have hp := parts_pos t
  have hs := hM.self
  constructor
  ·rw [txt_eq]
   unfold nodeW
   split
   ·simp; omega
   split
   ·simp; omega
   split
   ·simp; omega
   split
   ·have h1 := Lib.itoa_length_le t.n (by omega) hs.2.2
    simp; omega
   split
   ·split
    ·rename_i a hk
     have h1 := (ih a (by have := hkl.2 a (by rw [hk]; simp); omega) (hM.kid (by rw [hk]; simp))).2 true
     have h2 := parts_one hk
     unfold rowT
     simp only [List.length_cons, List.length_append, List.length_nil] at h1 ⊢
     omega
    ·simp
   split
   ·split
    ·rename_i a hk
     have h1 := (ih a (by have := hkl.2 a (by rw [hk]; simp); omega) (hM.kid (by rw [hk]; simp))).2 true
     have h2 := parts_one hk
     unfold rowT
     simp only [List.length_cons, List.length_append, List.length_nil] at h1 ⊢
     omega
    ·simp
   split
   ·split
    ·rename_i a b hk
     have h1 := (ih a (by have := hkl.2 a (by rw [hk]; simp); omega) (hM.kid (by rw [hk]; simp))).1
     have h2 := (ih b (by have := hkl.2 b (by rw [hk]; simp); omega) (hM.kid (by rw [hk]; simp))).1
     have h3 := parts_two hk
     unfold fromW
     split <;> simp only [List.length_cons, List.length_append, List.length_nil] <;> omega
    ·simp
   ·simp
  ·intro b
   by_cases h : t.op = 11 ∧ ∃ a b, t.kids = [a, b]
   ·obtain ⟨h11, x, y, hk⟩ := h
    have h1 := (ih x (by have := hkl.2 x (by rw [hk]; simp); omega) (hM.kid (by rw [hk]; simp))).1
    have h2 := (ih y (by have := hkl.2 y (by rw [hk]; simp); omega) (hM.kid (by rw [hk]; simp))).2 false
    have h3 := parts_two hk
    have h4 : t.name.data.toList.length ≤ 32 := hs.1
    rw [rowT_at b h11 hk]
    simp only [List.length_append, List.length_cons] at h2 ⊢
    have h5 : (if b = true then ([] : List UInt8) else [44]).length ≤ 1 := by split <;> simp
    omega
   ·obtain ⟨h1, h2⟩ := row_end h
    rw [h1, h2]
    have h3 := tailW_len t hs.2
    simp only [rowW, List.nil_append]
    omega
theorem txt_le {t : Ty} (h : Mod t) : (txtS t).length ≤ 64 * t.parts.length := (txt_len _ t (Nat.le_refl _) h).1
theorem row_le {t : Ty} (h : Mod t) (b : Bool) : (rowW txtS b (fieldsS t) ++ tailW (tailS t)).length ≤ 64 * t.parts.length := (txt_len _ t (Nat.le_refl _) h).2 b
theorem rowW_snoc (g : Ty → List UInt8) : ∀ (l : List (ByteArray × Ty)) (b : Bool) (f : ByteArray × Ty), rowW g b (l ++ [f]) = rowW g b l ++ ((if (b && l.isEmpty) = true then [] else [44]) ++ (f.1.data.toList ++ 58 :: g f.2))
 | [], b, f => by simp [rowW]
 | x :: l, b, f => by
  rw [List.cons_append, rowW, rowW, rowW_snoc g l false f]
  simp
theorem canon_tail {t : Ty} (hs : Spine t) (h11 : t.op = 11) : fieldsS (canonS t) = (sortS ltF (fieldsS t)).map (fun f => (f.1, canonS f.2)) ∧ tailS (canonS t) = tailS t := by
 rw [canon_row h11]
 exact rowS_fields (tail_not hs) _
end Go.Proofs.YtahpnackkmbmgaaGreatDoor.Vm
end
section
namespace Go.Proofs.YtahpnackkmbmgaaGreatDoor.Vm
open Go.RowKit
set_option maxRecDepth 100000
set_option maxHeartbeats 4000000
theorem cT_of (t : Ty) : cT t = [.sc (.int .u8 t.op), .sc (.string t.name), .sc (.int .i64 t.n), .sl 4 (rT t.kids)] := by cases t; rw [cT]; rfl
theorem row_u (W : ByteArray → Bool) (t : Ty) (hs : shapeB W t 114 = true) (hn : ∀ x ∈ t.parts, x.n ≤ 9223372036854775807) (hW : ∀ x : Ty, x.parts.length < t.parts.length → x ∈ t.parts → shapeB W x 116 = true → WrU 25 x (txtS x)) : WrU 48 t (rowT txtS t) := by
 intro l hl
 rw [cT_of]
 obtain ⟨op0, hop0⟩ : ∃ o, o = t.op := ⟨_, rfl⟩
 obtain ⟨nm0, hnm0⟩ : ∃ o, o = t.name := ⟨_, rfl⟩
 obtain ⟨n0, hn0⟩ : ∃ o, o = t.n := ⟨_, rfl⟩
 obtain ⟨K0, hK0⟩ : ∃ o, o = rT t.kids := ⟨_, rfl⟩
 obtain ⟨R0, hR0⟩ : ∃ o, o = rU l := ⟨_, rfl⟩
 obtain ⟨RE, hRE⟩ : ∃ o, o = rU (l ++ rowT txtS t) := ⟨_, rfl⟩
 rw [penU_eq, penU_eq, ← hop0, ← hnm0, ← hn0, ← hK0, ← hR0, ← hRE]
 refine speco_of Tryz.func48 rfl (by kernel_rfl) (by kernel_rfl) (by kernel_rfl) fun qa qb qc qd qe qf qg qh qi qj qk ql qm qo qp qq qs qt qu qv qw qx qy qz va vc vd ve vf vg vh vj vk vl vm vn vo vp vq vr vt vu hA => ?_
 obtain ⟨e1, e2, e3, e4, e5, e6, e7, e8, e9⟩ := ar_at hA
 obtain ⟨r1, r2, r3, r4⟩ := row_at hA
 obtain ⟨s1, s2, s3, s4, s5, s6, s7⟩ := str_at hA
 cbv
 repeat (first | (with_reducible apply next_at hA; cbv))
 try cbv
 repeat (first | (with_reducible apply next_at hA; cbv))
 try simp (maxSteps := 4000000) only [nc] at *
 refine loop_at hA (γ := Bool × Int × ByteArray × Int × List (List D) × List (List D) × Nat) (fun x => [(4, .d (.sc (.bool x.1)))]) (fun x => [(1, .row false 5 x.2.2.2.2.2.1), (2, .box [.d (.sc (.int .u8 x.2.1)), .d (.sc (.string x.2.2.1)), .d (.sc (.int .i64 x.2.2.2.1)), .d (.sl 4 x.2.2.2.2.1)])])
  (fun x => ∃ (y : Ty) (pre : List UInt8), x.2 = (y.op, y.name, y.n, rT y.kids, rU pre, y.parts.length) ∧ shapeB W y 114 = true ∧ y ∈ t.parts ∧ y.parts.length ≤ t.parts.length ∧ pre ++ (rowW txtS x.1 (fieldsS y) ++ tailW (tailS y)) = l ++ rowT txtS t)
  (fun x => x.2.2.2.2.2.2) (true, op0, nm0, n0, K0, R0, t.parts.length) ?_ ?_ ?_
 ·exact ⟨t, l, by rw [hop0, hnm0, hn0, hK0, hR0], hs, by rw [parts_eq]; exact List.mem_cons_self .., Nat.le_refl _, rfl⟩
 ·cbv
 ·intro x hinv
  obtain ⟨b, op, nm, n, K, R, N⟩ := x
  cbv
  repeat ((with_reducible apply next_at hA); cbv)
  obtain ⟨y, pre, heq, hsy, hym, hle, hby⟩ := hinv
  simp only [Prod.mk.injEq] at heq
  obtain ⟨hop, hnm, hnn, hK, hR, hN⟩ := heq
  replace hby : pre ++ (rowW txtS b (fieldsS y) ++ tailW (tailS y)) = l ++ rowT txtS t := hby
  obtain ⟨hy0, hys⟩ := shape_rw hsy
  have hyn := hn y hym
  have hlen : pre.length + (rowW txtS b (fieldsS y) ++ tailW (tailS y)).length ≤ 137438953472 := by
   have := congrArg List.length hby
   simp only [List.length_append] at this ⊢
   omega
  have h11 : qj op 11 = decide (op = 11) := e9 _ _
  by_cases hc : y.op = 11
  ·rw [hop, decide_eq_true hc, ← hop] at h11
   obtain ⟨-, a, c, hk, hsa, hsc⟩ : y.op = 11 ∧ ∃ a b, y.kids = [a, b] ∧ shapeB W a 116 = true ∧ shapeB W b 114 = true := by
    rcases hys with ⟨h, _⟩ | h
    ·omega
    ·exact h
   have hkl := kids_le y
   have hpa := hkl.2 a (by rw [hk]; simp)
   have hpc := hkl.2 c (by rw [hk]; simp)
   have hma : a ∈ t.parts := parts_trans (by rw [parts_kids]; exact List.mem_cons_of_mem _ (List.mem_flatMap.2 ⟨a, by rw [hk]; simp, by rw [parts_eq]; exact List.mem_cons_self ..⟩)) hym
   have hmc : c ∈ t.parts := parts_trans (by rw [parts_kids]; exact List.mem_cons_of_mem _ (List.mem_flatMap.2 ⟨c, by rw [hk]; simp, by rw [parts_eq]; exact List.mem_cons_self ..⟩)) hym
   have hwa := hW a (by omega) hma hsa
   have hat := rowT_at (g := txtS) b hc hk
   rw [hat] at hby hlen
   have hlc : (cT c) = [.sc (.int .u8 c.op), .sc (.string c.name), .sc (.int .i64 c.n), .sl 4 (rT c.kids)] := cT_of c
   have hnml : y.name.data.toList.length = y.name.size := rfl
   simp only [List.length_append, List.length_cons] at hlen
   obtain ⟨a0, a1, a2, a3, ha⟩ := cT_four a
   obtain ⟨P1, hP1⟩ : ∃ P, P = pre ++ (if b = true then [] else [44]) := ⟨_, rfl⟩
   have hl1 : P1.length = pre.length + (if b = true then ([] : List UInt8) else [44]).length := by rw [hP1, List.length_append]
   have c1 := wbU_s pre 44
   have c2 := wsU_s P1 nm (by rw [hnm, ← hnml]; omega)
   have c3 := wbU_s (P1 ++ btl nm) 58 (by rw [List.length_append, btl_size, hnm, ← hnml]; omega)
   have c4 := hwa (P1 ++ btl nm ++ [58]) (by rw [List.length_append, List.length_append, btl_size, hnm, ← hnml]; simp only [List.length_cons, List.length_nil]; omega)
   have hnew : (P1 ++ btl nm ++ [58] ++ txtS a) ++ (rowW txtS false (fieldsS c) ++ tailW (tailS c)) = l ++ rowT txtS t := by
    rw [← hby, hP1, hnm]
    show _ = pre ++ ((if b = true then [] else [44]) ++ (btl y.name ++ 58 :: (txtS a ++ (rowW txtS false (fieldsS c) ++ tailW (tailS c)))))
    simp
   rw [ha] at c4
   rw [penU_eq] at c1 c2 c3 c4
   rw [penU_eq] at c1 c2 c3 c4
   have g0 : qz K 0 = some [a0, a1, a2, a3] := by rw [r2, if_pos (by omega), hK, hk, rT, ha]; rfl
   obtain ⟨cop, hcop⟩ : ∃ o, o = c.op := ⟨_, rfl⟩
   obtain ⟨cnm, hcnm⟩ : ∃ o, o = c.name := ⟨_, rfl⟩
   obtain ⟨cn, hcn⟩ : ∃ o, o = c.n := ⟨_, rfl⟩
   obtain ⟨cK, hcK⟩ : ∃ o, o = rT c.kids := ⟨_, rfl⟩
   have g1 : qz K 1 = some [.sc (.int .u8 cop), .sc (.string cnm), .sc (.int .i64 cn), .sl 4 cK] := by rw [r2, if_pos (by omega), hK, hk, rT, rT, hlc, hcop, hcnm, hcn, hcK]; rfl
   obtain ⟨cN, hcN⟩ : ∃ o, o = c.parts.length := ⟨_, rfl⟩
   have hmu : cN < N := by rw [hcN, hN]; exact hpc
   obtain ⟨R4, hR4⟩ : ∃ o, o = rU (P1 ++ btl nm ++ [58] ++ txtS a) := ⟨_, rfl⟩
   have fin : ∃ (y : Ty) (pre : List UInt8), (cop, cnm, cn, cK, R4, cN) = (y.op, y.name, y.n, rT y.kids, rU pre, y.parts.length) ∧ shapeB W y 114 = true ∧ y ∈ t.parts ∧ y.parts.length ≤ t.parts.length ∧ pre ++ (rowW txtS false (fieldsS y) ++ tailW (tailS y)) = l ++ rowT txtS t :=
    ⟨c, P1 ++ btl nm ++ [58] ++ txtS a, by rw [hcop, hcnm, hcn, hcK, hR4, hcN], hsc, hmc, by omega, hnew⟩
   rw [← hR4] at c4
   rw [← hR] at c1
   rw [h11]
   cases b with
   | true =>
    have hP : P1 = pre := by rw [hP1]; simp
    rw [hP, ← hR] at c2
    rw [hP] at c3 c4
    clear c1
    generalize rU (pre ++ btl nm) = R2 at *
    generalize rU (pre ++ btl nm ++ [58]) = R3 at *
    clear hR4 hwa hW hn hl hs hnew hP hP1 hat hby hl1 hlen
    cbv
    repeat (first | (with_reducible apply next_at hA; cbv) | (rw [g0]; cbv) | (rw [g1]; cbv) | (refine callo_at hA [0, 1] c2 ⟨rfl, rfl, rfl, rfl, rfl, rfl, rfl⟩ ?_; rintro _ _ ⟨rfl, rfl⟩; cbv) | (refine callo_at hA [0, 1] c3 ⟨rfl, rfl, rfl, rfl, rfl, rfl, rfl⟩ ?_; rintro _ _ ⟨rfl, rfl⟩; cbv) | (refine callo_at hA [0, 1] c4 ⟨rfl, rfl, rfl, rfl, rfl, rfl, rfl⟩ ?_; rintro _ _ ⟨rfl, rfl⟩; cbv))
    try cbv
    repeat (first | (with_reducible apply next_at hA; cbv) | (rw [g0]; cbv) | (rw [g1]; cbv) | (refine callo_at hA [0, 1] c2 ⟨rfl, rfl, rfl, rfl, rfl, rfl, rfl⟩ ?_; rintro _ _ ⟨rfl, rfl⟩; cbv) | (refine callo_at hA [0, 1] c3 ⟨rfl, rfl, rfl, rfl, rfl, rfl, rfl⟩ ?_; rintro _ _ ⟨rfl, rfl⟩; cbv) | (refine callo_at hA [0, 1] c4 ⟨rfl, rfl, rfl, rfl, rfl, rfl, rfl⟩ ?_; rintro _ _ ⟨rfl, rfl⟩; cbv))
    try simp (maxSteps := 4000000) only [nc] at *
    refine ⟨(false, cop, cnm, cn, cK, R4, cN), fin, hmu, ?_⟩
    cbv
   | false =>
    have hP : P1 = pre ++ [44] := by rw [hP1]; simp
    rw [hP] at c2 c3 c4
    replace c1 : SpecO 46 [.ptr 0 0, vi .u8 44] _ _ := c1 (by simp at hlen; omega)
    generalize rU (pre ++ [44]) = R1 at *
    generalize rU (pre ++ [44] ++ btl nm) = R2 at *
    generalize rU (pre ++ [44] ++ btl nm ++ [58]) = R3 at *
    clear hR4 hwa hW hn hl hs hnew hP hP1 hat hby hl1 hlen
    cbv
    repeat (first | (with_reducible apply next_at hA; cbv) | (rw [g0]; cbv) | (rw [g1]; cbv) | (refine callo_at hA [0, 1] c1 ⟨rfl, rfl, rfl, rfl, rfl, rfl, rfl⟩ ?_; rintro _ _ ⟨rfl, rfl⟩; cbv) | (refine callo_at hA [0, 1] c2 ⟨rfl, rfl, rfl, rfl, rfl, rfl, rfl⟩ ?_; rintro _ _ ⟨rfl, rfl⟩; cbv) | (refine callo_at hA [0, 1] c3 ⟨rfl, rfl, rfl, rfl, rfl, rfl, rfl⟩ ?_; rintro _ _ ⟨rfl, rfl⟩; cbv) | (refine callo_at hA [0, 1] c4 ⟨rfl, rfl, rfl, rfl, rfl, rfl, rfl⟩ ?_; rintro _ _ ⟨rfl, rfl⟩; cbv))
    try cbv
    repeat (first | (with_reducible apply next_at hA; cbv) | (rw [g0]; cbv) | (rw [g1]; cbv) | (refine callo_at hA [0, 1] c1 ⟨rfl, rfl, rfl, rfl, rfl, rfl, rfl⟩ ?_; rintro _ _ ⟨rfl, rfl⟩; cbv) | (refine callo_at hA [0, 1] c2 ⟨rfl, rfl, rfl, rfl, rfl, rfl, rfl⟩ ?_; rintro _ _ ⟨rfl, rfl⟩; cbv) | (refine callo_at hA [0, 1] c3 ⟨rfl, rfl, rfl, rfl, rfl, rfl, rfl⟩ ?_; rintro _ _ ⟨rfl, rfl⟩; cbv) | (refine callo_at hA [0, 1] c4 ⟨rfl, rfl, rfl, rfl, rfl, rfl, rfl⟩ ?_; rintro _ _ ⟨rfl, rfl⟩; cbv))
    try simp (maxSteps := 4000000) only [nc] at *
    refine ⟨(false, cop, cnm, cn, cK, R4, cN), fin, hmu, ?_⟩
    cbv
  ·rw [hop, decide_eq_false hc, ← hop] at h11
   have hy8 : y.op = 8 ∨ y.op = 9 ∨ y.op = 10 := by
    rcases hys with ⟨h, _⟩ | ⟨h, _⟩
    ·exact h
    ·exact absurd h hc
   obtain ⟨hf0, ht0⟩ := fields_end hc
   rw [hf0, ht0] at hby hlen
   simp only [rowW, List.nil_append] at hby hlen
   rw [← hby] at hRE
   rw [h11]
   unfold tailW at hRE hlen
   rcases hy8 with ho | ho | ho
   ·have h9 : qj op 9 = false := by rw [e9, hop, ho]; rfl
    have h10 : qj op 10 = false := by rw [e9, hop, ho]; rfl
    rw [if_neg (by omega), if_neg (by omega), List.append_nil, ← hR] at hRE
    cbv
    repeat (first | (with_reducible apply next_at hA; cbv) | (rw [h9]; cbv) | (rw [h10]; cbv))
    try cbv
    repeat (first | (with_reducible apply next_at hA; cbv) | (rw [h9]; cbv) | (rw [h10]; cbv))
    try simp (maxSteps := 4000000) only [nc] at *
    exact keep_is hA [0, 1] ⟨rfl, rfl, rfl, rfl, rfl, rfl, rfl, rfl⟩ ⟨rfl, by rw [hRE]⟩
   ·have h9 : qj op 9 = true := by rw [e9, hop, ho]; rfl
    rw [if_pos ho] at hRE hlen
    have c1 := wsU_s pre ⟨#[124, 63]⟩ (by rw [show (⟨#[124, 63]⟩ : ByteArray).size = 2 from rfl]; simpa using hlen)
    rw [show btl ⟨#[124, 63]⟩ = [124, 63] from rfl] at c1
    rw [penU_eq] at c1
    rw [penU_eq, ← hR, ← hRE] at c1
    cbv
    repeat (first | (with_reducible apply next_at hA; cbv) | (rw [h9]; cbv))
    try cbv
    repeat (first | (with_reducible apply next_at hA; cbv) | (rw [h9]; cbv))
    try simp (maxSteps := 4000000) only [nc] at *
    refine callo_at hA [0, 1] c1 ⟨rfl, rfl, rfl, rfl, rfl, rfl, rfl⟩ ?_
    rintro _ _ ⟨rfl, rfl⟩
    cbv
    repeat (first | (with_reducible apply next_at hA; cbv))
    try cbv
    repeat (first | (with_reducible apply next_at hA; cbv))
    try simp (maxSteps := 4000000) only [nc] at *
    exact keep_is hA [0, 1] ⟨rfl, rfl, rfl, rfl, rfl, rfl, rfl, rfl⟩ ⟨rfl, rfl⟩
   ·have h9 : qj op 9 = false := by rw [e9, hop, ho]; rfl
    have h10 : qj op 10 = true := by rw [e9, hop, ho]; rfl
    rw [if_neg (by omega), if_pos ho] at hRE hlen
    rw [← hnn] at hRE hlen hy0 hyn
    have hi := itoa_c n (by omega) hyn
    have hb : btl (⟨#[124, 39]⟩ ++ ⟨(Lib.itoa n).toArray⟩ : ByteArray) = 124 :: 39 :: Lib.itoa n := by unfold btl; simp
    have hz : (⟨#[124, 39]⟩ ++ ⟨(Lib.itoa n).toArray⟩ : ByteArray).size = (124 :: 39 :: Lib.itoa n).length := by rw [← hb, btl_size]
    have c1 := wsU_s pre (⟨#[124, 39]⟩ ++ ⟨(Lib.itoa n).toArray⟩) (by rw [hz]; exact hlen)
    rw [hb] at c1
    have hfit : (⟨#[124, 39]⟩ : ByteArray).size + (⟨(Lib.itoa n).toArray⟩ : ByteArray).size ≤ 4611686018427387904 := by
     have h2 : (⟨#[124, 39]⟩ ++ ⟨(Lib.itoa n).toArray⟩ : ByteArray).size = (⟨#[124, 39]⟩ : ByteArray).size + (⟨(Lib.itoa n).toArray⟩ : ByteArray).size := by simp
     rw [← h2, hz]; omega
    rw [penU_eq] at c1
    rw [penU_eq, ← hR, ← hRE] at c1
    clear hz hb hlen
    generalize (⟨(Lib.itoa n).toArray⟩ : ByteArray) = D at *
    obtain ⟨S, hS⟩ : ∃ S, S = (⟨#[124, 39]⟩ ++ D : ByteArray) := ⟨_, rfl⟩
    rw [← hS] at c1
    have hc2 : qp ⟨#[124, 39]⟩ D = S := by rw [s4, hS]
    cbv
    repeat (first | (with_reducible apply next_at hA; cbv) | (rw [h9]; cbv) | (rw [h10]; cbv) | (refine call_at hA _ hi rfl ?_; cbv) | (refine calm_at hA _ hi ?_; cbv))
    try cbv
    repeat (first | (with_reducible apply next_at hA; cbv) | (rw [h9]; cbv) | (rw [h10]; cbv) | (refine call_at hA _ hi rfl ?_; cbv) | (refine calm_at hA _ hi ?_; cbv))
    try simp (maxSteps := 4000000) only [nc] at *
    refine fits_at hA hfit ?_
    cbv
    rw [hc2]
    cbv
    repeat (first | (with_reducible apply next_at hA; cbv))
    try cbv
    repeat (first | (with_reducible apply next_at hA; cbv))
    try simp (maxSteps := 4000000) only [nc] at *
    refine callo_at hA [0, 1] c1 ⟨rfl, rfl, rfl, rfl, rfl, rfl, rfl⟩ ?_
    rintro _ _ ⟨rfl, rfl⟩
    cbv
    repeat (first | (with_reducible apply next_at hA; cbv))
    try cbv
    repeat (first | (with_reducible apply next_at hA; cbv))
    try simp (maxSteps := 4000000) only [nc] at *
    exact keep_is hA [0, 1] ⟨rfl, rfl, rfl, rfl, rfl, rfl, rfl, rfl⟩ ⟨rfl, rfl⟩
end Go.Proofs.YtahpnackkmbmgaaGreatDoor.Vm
end
section
namespace Go.Proofs.YtahpnackkmbmgaaGreatDoor.Vm
open Go.RowKit
set_option maxRecDepth 100000
set_option maxHeartbeats 4000000
theorem lies_pen : Lies 58 := by unfold Lies; kernel_rfl
def WrF (f : Nat) (t : Ty) (out : List UInt8) : Prop := out.length ≤ 137438953472 → SpecO f [.ptr 0 0, .ag (ofD (cT t))] [penO 58] (fun res os => res = [] ∧ os = penU out)
theorem penO_eq (T : Nat) : [penO T] = [.ob T [.pointer none, .slice none 0 0]] := rfl
theorem from_noU (t : Ty) (hop : t.op ≠ 4) (hw : WrU 25 t (txtS t)) : WrU 49 t (fromW txtS t) := by
 intro l hl
 unfold fromW at hl ⊢
 rw [if_neg hop] at hl ⊢
 have c1 := hw l hl
 rw [cT_of] at c1 ⊢
 obtain ⟨op, hop0⟩ : ∃ o, o = t.op := ⟨_, rfl⟩
 rw [← hop0] at c1 hop ⊢
 generalize t.name = nm at *
 generalize t.n = n at *
 generalize rT t.kids = K at *
 try rw [penU_eq] at c1
 try rw [penU_eq] at c1
 try rw [penO_eq] at c1
 try rw [penU_eq] at ⊢
 try rw [penU_eq] at ⊢
 try rw [penO_eq] at ⊢
 generalize rU (l ++ txtS t) = R1 at *
 generalize rU l = R0 at *
 clear hl hw hop0
 refine speco_of Tryz.func49 rfl (by kernel_rfl) (by kernel_rfl) (by kernel_rfl) fun qa qb qc qd qe qf qg qh qi qj qk ql qm qo qp qq qs qt qu qv qw qx qy qz va vc vd ve vf vg vh vj vk vl vm vn vo vp vq vr vt vu hA => ?_
 obtain ⟨e1, e2, e3, e4, e5, e6, e7, e8, e9⟩ := ar_at hA
 obtain ⟨r1, r2, r3, r4⟩ := row_at hA
 obtain ⟨s1, s2, s3, s4, s5, s6, s7⟩ := str_at hA
 have h4 : qj op 4 = false := by rw [e9]; simpa using hop
 cbv
 repeat (first | (with_reducible apply next_at hA; cbv) | (rw [h4]; cbv) | (refine callo_at hA [0, 1] c1 ⟨rfl, rfl, rfl, rfl, rfl, rfl, rfl⟩ ?_; rintro _ _ ⟨rfl, rfl⟩; cbv))
 try cbv
 repeat (first | (with_reducible apply next_at hA; cbv) | (rw [h4]; cbv) | (refine callo_at hA [0, 1] c1 ⟨rfl, rfl, rfl, rfl, rfl, rfl, rfl⟩ ?_; rintro _ _ ⟨rfl, rfl⟩; cbv))
 try simp (maxSteps := 4000000) only [nc] at *
 exact keep_is hA [0, 1] ⟨rfl, rfl, rfl, rfl, rfl, rfl, rfl, rfl⟩ ⟨rfl, rfl⟩
theorem from_fnU (t : Ty) (hop : t.op = 4) (hw : WrU 25 t (txtS t)) : WrU 49 t (fromW txtS t) := by
 intro l hl
 unfold fromW at hl ⊢
 rw [if_pos hop] at hl ⊢
 simp only [List.length_cons, List.length_append, List.length_nil] at hl
 have c1 := wbU_s (l) 40 (by omega)
 have c2 := hw (l ++ [40]) (by simp only [List.length_cons, List.length_append, List.length_nil]; omega)
 have c3 := wbU_s (l ++ [40] ++ txtS t) 41 (by simp only [List.length_cons, List.length_append, List.length_nil]; omega)
 rw [show l ++ (40 :: (txtS t ++ [41])) = l ++ [40] ++ txtS t ++ [41] by simp]
 rw [cT_of] at c2 ⊢
 obtain ⟨op, hop0⟩ : ∃ o, o = t.op := ⟨_, rfl⟩
 rw [← hop0] at c2 hop ⊢
 generalize t.name = nm at *
 generalize t.n = n at *
 generalize rT t.kids = K at *
 try rw [penU_eq] at c1
 try rw [penU_eq] at c1
 try rw [penO_eq] at c1
 try rw [penU_eq] at c2
 try rw [penU_eq] at c2
 try rw [penO_eq] at c2
 try rw [penU_eq] at c3
 try rw [penU_eq] at c3
 try rw [penO_eq] at c3
 try rw [penU_eq] at ⊢
 try rw [penU_eq] at ⊢
 try rw [penO_eq] at ⊢
 replace c1 : SpecO 46 [.ptr 0 0, vi .u8 40] _ _ := c1
 replace c3 : SpecO 46 [.ptr 0 0, vi .u8 41] _ _ := c3
 generalize rU (l ++ [40] ++ txtS t ++ [41]) = R3 at *
 generalize rU (l ++ [40] ++ txtS t) = R2 at *
 generalize rU (l ++ [40]) = R1 at *
 generalize rU l = R0 at *
 clear hl hw hop0
 refine speco_of Tryz.func49 rfl (by kernel_rfl) (by kernel_rfl) (by kernel_rfl) fun qa qb qc qd qe qf qg qh qi qj qk ql qm qo qp qq qs qt qu qv qw qx qy qz va vc vd ve vf vg vh vj vk vl vm vn vo vp vq vr vt vu hA => ?_
 obtain ⟨e1, e2, e3, e4, e5, e6, e7, e8, e9⟩ := ar_at hA
 obtain ⟨r1, r2, r3, r4⟩ := row_at hA
 obtain ⟨s1, s2, s3, s4, s5, s6, s7⟩ := str_at hA
 have h4 : qj op 4 = true := by rw [e9, hop]; rfl
 cbv
 repeat (first | (with_reducible apply next_at hA; cbv) | (rw [h4]; cbv) | (refine callo_at hA [0, 1] c1 ⟨rfl, rfl, rfl, rfl, rfl, rfl, rfl⟩ ?_; rintro _ _ ⟨rfl, rfl⟩; cbv) | (refine callo_at hA [0, 1] c2 ⟨rfl, rfl, rfl, rfl, rfl, rfl, rfl⟩ ?_; rintro _ _ ⟨rfl, rfl⟩; cbv) | (refine callo_at hA [0, 1] c3 ⟨rfl, rfl, rfl, rfl, rfl, rfl, rfl⟩ ?_; rintro _ _ ⟨rfl, rfl⟩; cbv))
 try cbv
 repeat (first | (with_reducible apply next_at hA; cbv) | (rw [h4]; cbv) | (refine callo_at hA [0, 1] c1 ⟨rfl, rfl, rfl, rfl, rfl, rfl, rfl⟩ ?_; rintro _ _ ⟨rfl, rfl⟩; cbv) | (refine callo_at hA [0, 1] c2 ⟨rfl, rfl, rfl, rfl, rfl, rfl, rfl⟩ ?_; rintro _ _ ⟨rfl, rfl⟩; cbv) | (refine callo_at hA [0, 1] c3 ⟨rfl, rfl, rfl, rfl, rfl, rfl, rfl⟩ ?_; rintro _ _ ⟨rfl, rfl⟩; cbv))
 try simp (maxSteps := 4000000) only [nc] at *
 exact keep_is hA [0, 1] ⟨rfl, rfl, rfl, rfl, rfl, rfl, rfl, rfl⟩ ⟨rfl, rfl⟩
theorem write_recU (nm : ByteArray) (n : Int) (a : Ty) (hw : WrU 48 a (rowT txtS a)) : WrU 25 (.mk 5 nm n [a]) (txtS (.mk 5 nm n [a])) := by
 intro l hl
 have ht : txtS (.mk 5 nm n [a]) = 123 :: (rowT txtS a ++ [125]) := by rw [txt_eq]; rfl
 rw [ht] at hl ⊢
 simp only [List.length_cons, List.length_append, List.length_nil] at hl
 have c1 := wbU_s (l) 123 (by omega)
 have c2 := hw (l ++ [123]) (by simp only [List.length_cons, List.length_append, List.length_nil]; omega)
 have c3 := wbU_s (l ++ [123] ++ rowT txtS a) 125 (by simp only [List.length_cons, List.length_append, List.length_nil]; omega)
 rw [show l ++ (123 :: (rowT txtS a ++ [125])) = l ++ [123] ++ rowT txtS a ++ [125] by simp]
 rw [cT, rT, rT]
 obtain ⟨a0, a1, a2, a3, ha⟩ := cT_four a
 rw [ha] at c2 ⊢
 try rw [penU_eq] at c1
 try rw [penU_eq] at c1
 try rw [penO_eq] at c1
 try rw [penU_eq] at c2
 try rw [penU_eq] at c2
 try rw [penO_eq] at c2
 try rw [penU_eq] at c3
 try rw [penU_eq] at c3
 try rw [penO_eq] at c3
 try rw [penU_eq] at ⊢
 try rw [penU_eq] at ⊢
 try rw [penO_eq] at ⊢
 replace c1 : SpecO 46 [.ptr 0 0, vi .u8 123] _ _ := c1
 replace c3 : SpecO 46 [.ptr 0 0, vi .u8 125] _ _ := c3
 generalize rU (l ++ [123] ++ rowT txtS a ++ [125]) = R3 at *
 generalize rU (l ++ [123] ++ rowT txtS a) = R2 at *
 generalize rU (l ++ [123]) = R1 at *
 generalize rU l = R0 at *
 clear hl hw ht
 obtain ⟨K, hK⟩ : ∃ K, K = [[a0, a1, a2, a3]] := ⟨_, rfl⟩
 rw [← hK]
 refine speco_of Tryz.func25 rfl (by kernel_rfl) (by kernel_rfl) (by kernel_rfl) fun qa qb qc qd qe qf qg qh qi qj qk ql qm qo qp qq qs qt qu qv qw qx qy qz va vc vd ve vf vg vh vj vk vl vm vn vo vp vq vr vt vu hA => ?_
 obtain ⟨e1, e2, e3, e4, e5, e6, e7, e8, e9⟩ := ar_at hA
 obtain ⟨r1, r2, r3, r4⟩ := row_at hA
 obtain ⟨s1, s2, s3, s4, s5, s6, s7⟩ := str_at hA
 have h1 : qj 5 1 = false := e9 _ _
 have h2 : qj 5 2 = false := e9 _ _
 have h3 : qj 5 3 = false := e9 _ _
 have h7 : qj 5 7 = false := e9 _ _
 have h5 : qj 5 5 = true := e9 _ _
 have g0 : qz K 0 = some [a0, a1, a2, a3] := by rw [r2, hK]; rfl
 cbv
 repeat (first | (with_reducible apply next_at hA; cbv) | (rw [h1]; cbv) | (rw [h2]; cbv) | (rw [h3]; cbv) | (rw [h7]; cbv) | (rw [h5]; cbv) | (rw [g0]; cbv) | (refine callo_at hA [0, 1] c1 ⟨rfl, rfl, rfl, rfl, rfl, rfl, rfl⟩ ?_; rintro _ _ ⟨rfl, rfl⟩; cbv) | (refine callo_at hA [0, 1] c2 ⟨rfl, rfl, rfl, rfl, rfl, rfl, rfl⟩ ?_; rintro _ _ ⟨rfl, rfl⟩; cbv) | (refine callo_at hA [0, 1] c3 ⟨rfl, rfl, rfl, rfl, rfl, rfl, rfl⟩ ?_; rintro _ _ ⟨rfl, rfl⟩; cbv))
 try cbv
 repeat (first | (with_reducible apply next_at hA; cbv) | (rw [h1]; cbv) | (rw [h2]; cbv) | (rw [h3]; cbv) | (rw [h7]; cbv) | (rw [h5]; cbv) | (rw [g0]; cbv) | (refine callo_at hA [0, 1] c1 ⟨rfl, rfl, rfl, rfl, rfl, rfl, rfl⟩ ?_; rintro _ _ ⟨rfl, rfl⟩; cbv) | (refine callo_at hA [0, 1] c2 ⟨rfl, rfl, rfl, rfl, rfl, rfl, rfl⟩ ?_; rintro _ _ ⟨rfl, rfl⟩; cbv) | (refine callo_at hA [0, 1] c3 ⟨rfl, rfl, rfl, rfl, rfl, rfl, rfl⟩ ?_; rintro _ _ ⟨rfl, rfl⟩; cbv))
 try simp (maxSteps := 4000000) only [nc] at *
 exact keep_is hA [0, 1] ⟨rfl, rfl, rfl, rfl, rfl, rfl, rfl, rfl⟩ ⟨rfl, rfl⟩
theorem write_vntU (nm : ByteArray) (n : Int) (a : Ty) (hw : WrU 48 a (rowT txtS a)) : WrU 25 (.mk 6 nm n [a]) (txtS (.mk 6 nm n [a])) := by
 intro l hl
 have ht : txtS (.mk 6 nm n [a]) = 60 :: (rowT txtS a ++ [62]) := by rw [txt_eq]; rfl
 rw [ht] at hl ⊢
 simp only [List.length_cons, List.length_append, List.length_nil] at hl
 have c1 := wbU_s (l) 60 (by omega)
 have c2 := hw (l ++ [60]) (by simp only [List.length_cons, List.length_append, List.length_nil]; omega)
 have c3 := wbU_s (l ++ [60] ++ rowT txtS a) 62 (by simp only [List.length_cons, List.length_append, List.length_nil]; omega)
 rw [show l ++ (60 :: (rowT txtS a ++ [62])) = l ++ [60] ++ rowT txtS a ++ [62] by simp]
 rw [cT, rT, rT]
 obtain ⟨a0, a1, a2, a3, ha⟩ := cT_four a
 rw [ha] at c2 ⊢
 try rw [penU_eq] at c1
 try rw [penU_eq] at c1
 try rw [penO_eq] at c1
 try rw [penU_eq] at c2
 try rw [penU_eq] at c2
 try rw [penO_eq] at c2
 try rw [penU_eq] at c3
 try rw [penU_eq] at c3
 try rw [penO_eq] at c3
 try rw [penU_eq] at ⊢
 try rw [penU_eq] at ⊢
 try rw [penO_eq] at ⊢
 replace c1 : SpecO 46 [.ptr 0 0, vi .u8 60] _ _ := c1
 replace c3 : SpecO 46 [.ptr 0 0, vi .u8 62] _ _ := c3
 generalize rU (l ++ [60] ++ rowT txtS a ++ [62]) = R3 at *
 generalize rU (l ++ [60] ++ rowT txtS a) = R2 at *
 generalize rU (l ++ [60]) = R1 at *
 generalize rU l = R0 at *
 clear hl hw ht
 obtain ⟨K, hK⟩ : ∃ K, K = [[a0, a1, a2, a3]] := ⟨_, rfl⟩
 rw [← hK]
 refine speco_of Tryz.func25 rfl (by kernel_rfl) (by kernel_rfl) (by kernel_rfl) fun qa qb qc qd qe qf qg qh qi qj qk ql qm qo qp qq qs qt qu qv qw qx qy qz va vc vd ve vf vg vh vj vk vl vm vn vo vp vq vr vt vu hA => ?_
 obtain ⟨e1, e2, e3, e4, e5, e6, e7, e8, e9⟩ := ar_at hA
 obtain ⟨r1, r2, r3, r4⟩ := row_at hA
 obtain ⟨s1, s2, s3, s4, s5, s6, s7⟩ := str_at hA
 have h1 : qj 6 1 = false := e9 _ _
 have h2 : qj 6 2 = false := e9 _ _
 have h3 : qj 6 3 = false := e9 _ _
 have h7 : qj 6 7 = false := e9 _ _
 have h5 : qj 6 5 = false := e9 _ _
 have h6 : qj 6 6 = true := e9 _ _
 have g0 : qz K 0 = some [a0, a1, a2, a3] := by rw [r2, hK]; rfl
 cbv
 repeat (first | (with_reducible apply next_at hA; cbv) | (rw [h1]; cbv) | (rw [h2]; cbv) | (rw [h3]; cbv) | (rw [h7]; cbv) | (rw [h5]; cbv) | (rw [h6]; cbv) | (rw [g0]; cbv) | (refine callo_at hA [0, 1] c1 ⟨rfl, rfl, rfl, rfl, rfl, rfl, rfl⟩ ?_; rintro _ _ ⟨rfl, rfl⟩; cbv) | (refine callo_at hA [0, 1] c2 ⟨rfl, rfl, rfl, rfl, rfl, rfl, rfl⟩ ?_; rintro _ _ ⟨rfl, rfl⟩; cbv) | (refine callo_at hA [0, 1] c3 ⟨rfl, rfl, rfl, rfl, rfl, rfl, rfl⟩ ?_; rintro _ _ ⟨rfl, rfl⟩; cbv))
 try cbv
 repeat (first | (with_reducible apply next_at hA; cbv) | (rw [h1]; cbv) | (rw [h2]; cbv) | (rw [h3]; cbv) | (rw [h7]; cbv) | (rw [h5]; cbv) | (rw [h6]; cbv) | (rw [g0]; cbv) | (refine callo_at hA [0, 1] c1 ⟨rfl, rfl, rfl, rfl, rfl, rfl, rfl⟩ ?_; rintro _ _ ⟨rfl, rfl⟩; cbv) | (refine callo_at hA [0, 1] c2 ⟨rfl, rfl, rfl, rfl, rfl, rfl, rfl⟩ ?_; rintro _ _ ⟨rfl, rfl⟩; cbv) | (refine callo_at hA [0, 1] c3 ⟨rfl, rfl, rfl, rfl, rfl, rfl, rfl⟩ ?_; rintro _ _ ⟨rfl, rfl⟩; cbv))
 try simp (maxSteps := 4000000) only [nc] at *
 exact keep_is hA [0, 1] ⟨rfl, rfl, rfl, rfl, rfl, rfl, rfl, rfl⟩ ⟨rfl, rfl⟩
theorem write_funU (nm : ByteArray) (n : Int) (a b : Ty) (hf : WrU 49 a (fromW txtS a)) (hw : WrU 25 b (txtS b)) : WrU 25 (.mk 4 nm n [a, b]) (txtS (.mk 4 nm n [a, b])) := by
 intro l hl
 have ht : txtS (.mk 4 nm n [a, b]) = fromW txtS a ++ (45 :: 62 :: txtS b) := by rw [txt_eq]; rfl
 rw [ht] at hl ⊢
 simp only [List.length_cons, List.length_append, List.length_nil] at hl
 have c1 := hf l (by omega)
 have c2 := wsU_s (l ++ fromW txtS a) ⟨#[45, 62]⟩ (by rw [show (⟨#[45, 62]⟩ : ByteArray).size = 2 from rfl]; first | omega | (simp only [List.length_cons, List.length_append, List.length_nil]; omega))
 rw [show btl ⟨#[45, 62]⟩ = [45, 62] from rfl] at c2
 have c3 := hw (l ++ fromW txtS a ++ [45, 62]) (by simp only [List.length_cons, List.length_append, List.length_nil]; omega)
 rw [show l ++ (fromW txtS a ++ (45 :: 62 :: txtS b)) = l ++ fromW txtS a ++ [45, 62] ++ txtS b by simp]
 rw [cT, rT, rT, rT]
 obtain ⟨a0, a1, a2, a3, ha⟩ := cT_four a
 obtain ⟨b0, b1, b2, b3, hb⟩ := cT_four b
 rw [ha] at c1 ⊢
 rw [hb] at c3 ⊢
 try rw [penU_eq] at c1
 try rw [penU_eq] at c1
 try rw [penO_eq] at c1
 try rw [penU_eq] at c2
 try rw [penU_eq] at c2
 try rw [penO_eq] at c2
 try rw [penU_eq] at c3
 try rw [penU_eq] at c3
 try rw [penO_eq] at c3
 try rw [penU_eq] at ⊢
 try rw [penU_eq] at ⊢
 try rw [penO_eq] at ⊢
 generalize rU (l ++ fromW txtS a ++ [45, 62] ++ txtS b) = R3 at *
 generalize rU (l ++ fromW txtS a ++ [45, 62]) = R2 at *
 generalize rU (l ++ fromW txtS a) = R1 at *
 generalize rU l = R0 at *
 clear hl hf hw ht
 obtain ⟨K, hK⟩ : ∃ K, K = [[a0, a1, a2, a3], [b0, b1, b2, b3]] := ⟨_, rfl⟩
 rw [← hK]
 refine speco_of Tryz.func25 rfl (by kernel_rfl) (by kernel_rfl) (by kernel_rfl) fun qa qb qc qd qe qf qg qh qi qj qk ql qm qo qp qq qs qt qu qv qw qx qy qz va vc vd ve vf vg vh vj vk vl vm vn vo vp vq vr vt vu hA => ?_
 obtain ⟨e1, e2, e3, e4, e5, e6, e7, e8, e9⟩ := ar_at hA
 obtain ⟨r1, r2, r3, r4⟩ := row_at hA
 obtain ⟨s1, s2, s3, s4, s5, s6, s7⟩ := str_at hA
 have h1 : qj 4 1 = false := e9 _ _
 have h2 : qj 4 2 = false := e9 _ _
 have h3 : qj 4 3 = false := e9 _ _
 have h7 : qj 4 7 = false := e9 _ _
 have h5 : qj 4 5 = false := e9 _ _
 have h6 : qj 4 6 = false := e9 _ _
 have h4 : qj 4 4 = true := e9 _ _
 have g0 : qz K 0 = some [a0, a1, a2, a3] := by rw [r2, hK]; rfl
 have g1 : qz K 1 = some [b0, b1, b2, b3] := by rw [r2, hK]; rfl
 cbv
 repeat (first | (with_reducible apply next_at hA; cbv) | (rw [h1]; cbv) | (rw [h2]; cbv) | (rw [h3]; cbv) | (rw [h7]; cbv) | (rw [h5]; cbv) | (rw [h6]; cbv) | (rw [h4]; cbv) | (rw [g0]; cbv) | (rw [g1]; cbv) | (refine callo_at hA [0, 1] c1 ⟨rfl, rfl, rfl, rfl, rfl, rfl, rfl⟩ ?_; rintro _ _ ⟨rfl, rfl⟩; cbv) | (refine callo_at hA [0, 1] c2 ⟨rfl, rfl, rfl, rfl, rfl, rfl, rfl⟩ ?_; rintro _ _ ⟨rfl, rfl⟩; cbv) | (refine callo_at hA [0, 1] c3 ⟨rfl, rfl, rfl, rfl, rfl, rfl, rfl⟩ ?_; rintro _ _ ⟨rfl, rfl⟩; cbv))
 try cbv
 repeat (first | (with_reducible apply next_at hA; cbv) | (rw [h1]; cbv) | (rw [h2]; cbv) | (rw [h3]; cbv) | (rw [h7]; cbv) | (rw [h5]; cbv) | (rw [h6]; cbv) | (rw [h4]; cbv) | (rw [g0]; cbv) | (rw [g1]; cbv) | (refine callo_at hA [0, 1] c1 ⟨rfl, rfl, rfl, rfl, rfl, rfl, rfl⟩ ?_; rintro _ _ ⟨rfl, rfl⟩; cbv) | (refine callo_at hA [0, 1] c2 ⟨rfl, rfl, rfl, rfl, rfl, rfl, rfl⟩ ?_; rintro _ _ ⟨rfl, rfl⟩; cbv) | (refine callo_at hA [0, 1] c3 ⟨rfl, rfl, rfl, rfl, rfl, rfl, rfl⟩ ?_; rintro _ _ ⟨rfl, rfl⟩; cbv))
 try simp (maxSteps := 4000000) only [nc] at *
 exact keep_is hA [0, 1] ⟨rfl, rfl, rfl, rfl, rfl, rfl, rfl, rfl⟩ ⟨rfl, rfl⟩
theorem from_noF (t : Ty) (hop : t.op ≠ 4) (hw : WrF 25 t (txtS t)) : WrF 49 t (fromW txtS t) := by
 intro hl
 unfold fromW at hl ⊢
 rw [if_neg hop] at hl ⊢
 have c1 := hw hl
 rw [cT_of] at c1 ⊢
 obtain ⟨op, hop0⟩ : ∃ o, o = t.op := ⟨_, rfl⟩
 rw [← hop0] at c1 hop ⊢
 generalize t.name = nm at *
 generalize t.n = n at *
 generalize rT t.kids = K at *
 try rw [penU_eq] at c1
 try rw [penU_eq] at c1
 try rw [penO_eq] at c1
 try rw [penU_eq] at ⊢
 try rw [penU_eq] at ⊢
 try rw [penO_eq] at ⊢
 generalize rU (txtS t) = R1 at *
 skip
 clear hl hw hop0
 refine speco_of Tryz.func49 rfl (by kernel_rfl) (by kernel_rfl) (by kernel_rfl) fun qa qb qc qd qe qf qg qh qi qj qk ql qm qo qp qq qs qt qu qv qw qx qy qz va vc vd ve vf vg vh vj vk vl vm vn vo vp vq vr vt vu hA => ?_
 obtain ⟨e1, e2, e3, e4, e5, e6, e7, e8, e9⟩ := ar_at hA
 obtain ⟨r1, r2, r3, r4⟩ := row_at hA
 obtain ⟨s1, s2, s3, s4, s5, s6, s7⟩ := str_at hA
 have h4 : qj op 4 = false := by rw [e9]; simpa using hop
 cbv
 repeat (first | (with_reducible apply next_at hA; cbv) | (rw [h4]; cbv) | (refine callo_at hA [0] c1 ⟨rfl, rfl, rfl, rfl, rfl, rfl, rfl⟩ ?_; rintro _ _ ⟨rfl, rfl⟩; cbv))
 try cbv
 repeat (first | (with_reducible apply next_at hA; cbv) | (rw [h4]; cbv) | (refine callo_at hA [0] c1 ⟨rfl, rfl, rfl, rfl, rfl, rfl, rfl⟩ ?_; rintro _ _ ⟨rfl, rfl⟩; cbv))
 try simp (maxSteps := 4000000) only [nc] at *
 exact keep_is hA [0, 2] ⟨rfl, rfl, rfl, rfl, rfl, rfl, rfl, rfl⟩ ⟨rfl, rfl⟩
theorem from_fnF (t : Ty) (hop : t.op = 4) (hw : WrU 25 t (txtS t)) : WrF 49 t (fromW txtS t) := by
 intro hl
 unfold fromW at hl ⊢
 rw [if_pos hop] at hl ⊢
 simp only [List.length_cons, List.length_append, List.length_nil] at hl
 have c1 := wbF_s _ lies_pen 40
 have c2 := hw ([40]) (by simp only [List.length_cons, List.length_append, List.length_nil]; omega)
 have c3 := wbU_s ([40] ++ txtS t) 41 (by simp only [List.length_cons, List.length_append, List.length_nil]; omega)
 rw [show (40 :: (txtS t ++ [41])) = [40] ++ txtS t ++ [41] by simp]
 rw [cT_of] at c2 ⊢
 obtain ⟨op, hop0⟩ : ∃ o, o = t.op := ⟨_, rfl⟩
 rw [← hop0] at c2 hop ⊢
 generalize t.name = nm at *
 generalize t.n = n at *
 generalize rT t.kids = K at *
 try rw [penU_eq] at c1
 try rw [penU_eq] at c1
 try rw [penO_eq] at c1
 try rw [penU_eq] at c2
 try rw [penU_eq] at c2
 try rw [penO_eq] at c2
 try rw [penU_eq] at c3
 try rw [penU_eq] at c3
 try rw [penO_eq] at c3
 try rw [penU_eq] at ⊢
 try rw [penU_eq] at ⊢
 try rw [penO_eq] at ⊢
 replace c1 : SpecO 46 [.ptr 0 0, vi .u8 40] _ _ := c1
 replace c3 : SpecO 46 [.ptr 0 0, vi .u8 41] _ _ := c3
 generalize rU ([40] ++ txtS t ++ [41]) = R3 at *
 generalize rU ([40] ++ txtS t) = R2 at *
 generalize rU ([40]) = R1 at *
 skip
 clear hl hw hop0
 refine speco_of Tryz.func49 rfl (by kernel_rfl) (by kernel_rfl) (by kernel_rfl) fun qa qb qc qd qe qf qg qh qi qj qk ql qm qo qp qq qs qt qu qv qw qx qy qz va vc vd ve vf vg vh vj vk vl vm vn vo vp vq vr vt vu hA => ?_
 obtain ⟨e1, e2, e3, e4, e5, e6, e7, e8, e9⟩ := ar_at hA
 obtain ⟨r1, r2, r3, r4⟩ := row_at hA
 obtain ⟨s1, s2, s3, s4, s5, s6, s7⟩ := str_at hA
 have h4 : qj op 4 = true := by rw [e9, hop]; rfl
 cbv
 repeat (first | (with_reducible apply next_at hA; cbv) | (rw [h4]; cbv) | (refine callo_at hA [0] c1 ⟨rfl, rfl, rfl, rfl, rfl, rfl, rfl⟩ ?_; rintro _ _ ⟨rfl, rfl⟩; cbv) | (refine callo_at hA [0, 2] c2 ⟨rfl, rfl, rfl, rfl, rfl, rfl, rfl⟩ ?_; rintro _ _ ⟨rfl, rfl⟩; cbv) | (refine callo_at hA [0, 2] c3 ⟨rfl, rfl, rfl, rfl, rfl, rfl, rfl⟩ ?_; rintro _ _ ⟨rfl, rfl⟩; cbv))
 try cbv
 repeat (first | (with_reducible apply next_at hA; cbv) | (rw [h4]; cbv) | (refine callo_at hA [0] c1 ⟨rfl, rfl, rfl, rfl, rfl, rfl, rfl⟩ ?_; rintro _ _ ⟨rfl, rfl⟩; cbv) | (refine callo_at hA [0, 2] c2 ⟨rfl, rfl, rfl, rfl, rfl, rfl, rfl⟩ ?_; rintro _ _ ⟨rfl, rfl⟩; cbv) | (refine callo_at hA [0, 2] c3 ⟨rfl, rfl, rfl, rfl, rfl, rfl, rfl⟩ ?_; rintro _ _ ⟨rfl, rfl⟩; cbv))
 try simp (maxSteps := 4000000) only [nc] at *
 exact keep_is hA [0, 2] ⟨rfl, rfl, rfl, rfl, rfl, rfl, rfl, rfl⟩ ⟨rfl, rfl⟩
theorem write_recF (nm : ByteArray) (n : Int) (a : Ty) (hw : WrU 48 a (rowT txtS a)) : WrF 25 (.mk 5 nm n [a]) (txtS (.mk 5 nm n [a])) := by
 intro hl
 have ht : txtS (.mk 5 nm n [a]) = 123 :: (rowT txtS a ++ [125]) := by rw [txt_eq]; rfl
 rw [ht] at hl ⊢
 simp only [List.length_cons, List.length_append, List.length_nil] at hl
 have c1 := wbF_s _ lies_pen 123
 have c2 := hw ([123]) (by simp only [List.length_cons, List.length_append, List.length_nil]; omega)
 have c3 := wbU_s ([123] ++ rowT txtS a) 125 (by simp only [List.length_cons, List.length_append, List.length_nil]; omega)
 rw [show (123 :: (rowT txtS a ++ [125])) = [123] ++ rowT txtS a ++ [125] by simp]
 rw [cT, rT, rT]
 obtain ⟨a0, a1, a2, a3, ha⟩ := cT_four a
 rw [ha] at c2 ⊢
 try rw [penU_eq] at c1
 try rw [penU_eq] at c1
 try rw [penO_eq] at c1
 try rw [penU_eq] at c2
 try rw [penU_eq] at c2
 try rw [penO_eq] at c2
 try rw [penU_eq] at c3
 try rw [penU_eq] at c3
 try rw [penO_eq] at c3
 try rw [penU_eq] at ⊢
 try rw [penU_eq] at ⊢
 try rw [penO_eq] at ⊢
 replace c1 : SpecO 46 [.ptr 0 0, vi .u8 123] _ _ := c1
 replace c3 : SpecO 46 [.ptr 0 0, vi .u8 125] _ _ := c3
 generalize rU ([123] ++ rowT txtS a ++ [125]) = R3 at *
 generalize rU ([123] ++ rowT txtS a) = R2 at *
 generalize rU ([123]) = R1 at *
 skip
 clear hl hw ht
 obtain ⟨K, hK⟩ : ∃ K, K = [[a0, a1, a2, a3]] := ⟨_, rfl⟩
 rw [← hK]
 refine speco_of Tryz.func25 rfl (by kernel_rfl) (by kernel_rfl) (by kernel_rfl) fun qa qb qc qd qe qf qg qh qi qj qk ql qm qo qp qq qs qt qu qv qw qx qy qz va vc vd ve vf vg vh vj vk vl vm vn vo vp vq vr vt vu hA => ?_
 obtain ⟨e1, e2, e3, e4, e5, e6, e7, e8, e9⟩ := ar_at hA
 obtain ⟨r1, r2, r3, r4⟩ := row_at hA
 obtain ⟨s1, s2, s3, s4, s5, s6, s7⟩ := str_at hA
 have h1 : qj 5 1 = false := e9 _ _
 have h2 : qj 5 2 = false := e9 _ _
 have h3 : qj 5 3 = false := e9 _ _
 have h7 : qj 5 7 = false := e9 _ _
 have h5 : qj 5 5 = true := e9 _ _
 have g0 : qz K 0 = some [a0, a1, a2, a3] := by rw [r2, hK]; rfl
 cbv
 repeat (first | (with_reducible apply next_at hA; cbv) | (rw [h1]; cbv) | (rw [h2]; cbv) | (rw [h3]; cbv) | (rw [h7]; cbv) | (rw [h5]; cbv) | (rw [g0]; cbv) | (refine callo_at hA [0] c1 ⟨rfl, rfl, rfl, rfl, rfl, rfl, rfl⟩ ?_; rintro _ _ ⟨rfl, rfl⟩; cbv) | (refine callo_at hA [0, 2] c2 ⟨rfl, rfl, rfl, rfl, rfl, rfl, rfl⟩ ?_; rintro _ _ ⟨rfl, rfl⟩; cbv) | (refine callo_at hA [0, 2] c3 ⟨rfl, rfl, rfl, rfl, rfl, rfl, rfl⟩ ?_; rintro _ _ ⟨rfl, rfl⟩; cbv))
 try cbv
 repeat (first | (with_reducible apply next_at hA; cbv) | (rw [h1]; cbv) | (rw [h2]; cbv) | (rw [h3]; cbv) | (rw [h7]; cbv) | (rw [h5]; cbv) | (rw [g0]; cbv) | (refine callo_at hA [0] c1 ⟨rfl, rfl, rfl, rfl, rfl, rfl, rfl⟩ ?_; rintro _ _ ⟨rfl, rfl⟩; cbv) | (refine callo_at hA [0, 2] c2 ⟨rfl, rfl, rfl, rfl, rfl, rfl, rfl⟩ ?_; rintro _ _ ⟨rfl, rfl⟩; cbv) | (refine callo_at hA [0, 2] c3 ⟨rfl, rfl, rfl, rfl, rfl, rfl, rfl⟩ ?_; rintro _ _ ⟨rfl, rfl⟩; cbv))
 try simp (maxSteps := 4000000) only [nc] at *
 exact keep_is hA [0, 2] ⟨rfl, rfl, rfl, rfl, rfl, rfl, rfl, rfl⟩ ⟨rfl, rfl⟩
theorem write_vntF (nm : ByteArray) (n : Int) (a : Ty) (hw : WrU 48 a (rowT txtS a)) : WrF 25 (.mk 6 nm n [a]) (txtS (.mk 6 nm n [a])) := by
 intro hl
 have ht : txtS (.mk 6 nm n [a]) = 60 :: (rowT txtS a ++ [62]) := by rw [txt_eq]; rfl
 rw [ht] at hl ⊢
 simp only [List.length_cons, List.length_append, List.length_nil] at hl
 have c1 := wbF_s _ lies_pen 60
 have c2 := hw ([60]) (by simp only [List.length_cons, List.length_append, List.length_nil]; omega)
 have c3 := wbU_s ([60] ++ rowT txtS a) 62 (by simp only [List.length_cons, List.length_append, List.length_nil]; omega)
 rw [show (60 :: (rowT txtS a ++ [62])) = [60] ++ rowT txtS a ++ [62] by simp]
 rw [cT, rT, rT]
 obtain ⟨a0, a1, a2, a3, ha⟩ := cT_four a
 rw [ha] at c2 ⊢
 try rw [penU_eq] at c1
 try rw [penU_eq] at c1
 try rw [penO_eq] at c1
 try rw [penU_eq] at c2
 try rw [penU_eq] at c2
 try rw [penO_eq] at c2
 try rw [penU_eq] at c3
 try rw [penU_eq] at c3
 try rw [penO_eq] at c3
 try rw [penU_eq] at ⊢
 try rw [penU_eq] at ⊢
 try rw [penO_eq] at ⊢
 replace c1 : SpecO 46 [.ptr 0 0, vi .u8 60] _ _ := c1
 replace c3 : SpecO 46 [.ptr 0 0, vi .u8 62] _ _ := c3
 generalize rU ([60] ++ rowT txtS a ++ [62]) = R3 at *
 generalize rU ([60] ++ rowT txtS a) = R2 at *
 generalize rU ([60]) = R1 at *
 skip
 clear hl hw ht
 obtain ⟨K, hK⟩ : ∃ K, K = [[a0, a1, a2, a3]] := ⟨_, rfl⟩
 rw [← hK]
 refine speco_of Tryz.func25 rfl (by kernel_rfl) (by kernel_rfl) (by kernel_rfl) fun qa qb qc qd qe qf qg qh qi qj qk ql qm qo qp qq qs qt qu qv qw qx qy qz va vc vd ve vf vg vh vj vk vl vm vn vo vp vq vr vt vu hA => ?_
 obtain ⟨e1, e2, e3, e4, e5, e6, e7, e8, e9⟩ := ar_at hA
 obtain ⟨r1, r2, r3, r4⟩ := row_at hA
 obtain ⟨s1, s2, s3, s4, s5, s6, s7⟩ := str_at hA
 have h1 : qj 6 1 = false := e9 _ _
 have h2 : qj 6 2 = false := e9 _ _
 have h3 : qj 6 3 = false := e9 _ _
 have h7 : qj 6 7 = false := e9 _ _
 have h5 : qj 6 5 = false := e9 _ _
 have h6 : qj 6 6 = true := e9 _ _
 have g0 : qz K 0 = some [a0, a1, a2, a3] := by rw [r2, hK]; rfl
 cbv
 repeat (first | (with_reducible apply next_at hA; cbv) | (rw [h1]; cbv) | (rw [h2]; cbv) | (rw [h3]; cbv) | (rw [h7]; cbv) | (rw [h5]; cbv) | (rw [h6]; cbv) | (rw [g0]; cbv) | (refine callo_at hA [0] c1 ⟨rfl, rfl, rfl, rfl, rfl, rfl, rfl⟩ ?_; rintro _ _ ⟨rfl, rfl⟩; cbv) | (refine callo_at hA [0, 2] c2 ⟨rfl, rfl, rfl, rfl, rfl, rfl, rfl⟩ ?_; rintro _ _ ⟨rfl, rfl⟩; cbv) | (refine callo_at hA [0, 2] c3 ⟨rfl, rfl, rfl, rfl, rfl, rfl, rfl⟩ ?_; rintro _ _ ⟨rfl, rfl⟩; cbv))
 try cbv
 repeat (first | (with_reducible apply next_at hA; cbv) | (rw [h1]; cbv) | (rw [h2]; cbv) | (rw [h3]; cbv) | (rw [h7]; cbv) | (rw [h5]; cbv) | (rw [h6]; cbv) | (rw [g0]; cbv) | (refine callo_at hA [0] c1 ⟨rfl, rfl, rfl, rfl, rfl, rfl, rfl⟩ ?_; rintro _ _ ⟨rfl, rfl⟩; cbv) | (refine callo_at hA [0, 2] c2 ⟨rfl, rfl, rfl, rfl, rfl, rfl, rfl⟩ ?_; rintro _ _ ⟨rfl, rfl⟩; cbv) | (refine callo_at hA [0, 2] c3 ⟨rfl, rfl, rfl, rfl, rfl, rfl, rfl⟩ ?_; rintro _ _ ⟨rfl, rfl⟩; cbv))
 try simp (maxSteps := 4000000) only [nc] at *
 exact keep_is hA [0, 2] ⟨rfl, rfl, rfl, rfl, rfl, rfl, rfl, rfl⟩ ⟨rfl, rfl⟩
theorem write_funF (nm : ByteArray) (n : Int) (a b : Ty) (hf : WrF 49 a (fromW txtS a)) (hw : WrU 25 b (txtS b)) : WrF 25 (.mk 4 nm n [a, b]) (txtS (.mk 4 nm n [a, b])) := by
 intro hl
 have ht : txtS (.mk 4 nm n [a, b]) = fromW txtS a ++ (45 :: 62 :: txtS b) := by rw [txt_eq]; rfl
 rw [ht] at hl ⊢
 simp only [List.length_cons, List.length_append, List.length_nil] at hl
 have c1 := hf (by omega)
 have c2 := wsU_s (fromW txtS a) ⟨#[45, 62]⟩ (by rw [show (⟨#[45, 62]⟩ : ByteArray).size = 2 from rfl]; first | omega | (simp only [List.length_cons, List.length_append, List.length_nil]; omega))
 rw [show btl ⟨#[45, 62]⟩ = [45, 62] from rfl] at c2
 have c3 := hw (fromW txtS a ++ [45, 62]) (by simp only [List.length_cons, List.length_append, List.length_nil]; omega)
 rw [show (fromW txtS a ++ (45 :: 62 :: txtS b)) = fromW txtS a ++ [45, 62] ++ txtS b by simp]
 rw [cT, rT, rT, rT]
 obtain ⟨a0, a1, a2, a3, ha⟩ := cT_four a
 obtain ⟨b0, b1, b2, b3, hb⟩ := cT_four b
 rw [ha] at c1 ⊢
 rw [hb] at c3 ⊢
 try rw [penU_eq] at c1
 try rw [penU_eq] at c1
 try rw [penO_eq] at c1
 try rw [penU_eq] at c2
 try rw [penU_eq] at c2
 try rw [penO_eq] at c2
 try rw [penU_eq] at c3
 try rw [penU_eq] at c3
 try rw [penO_eq] at c3
 try rw [penU_eq] at ⊢
 try rw [penU_eq] at ⊢
 try rw [penO_eq] at ⊢
 generalize rU (fromW txtS a ++ [45, 62] ++ txtS b) = R3 at *
 generalize rU (fromW txtS a ++ [45, 62]) = R2 at *
 generalize rU (fromW txtS a) = R1 at *
 skip
 clear hl hf hw ht
 obtain ⟨K, hK⟩ : ∃ K, K = [[a0, a1, a2, a3], [b0, b1, b2, b3]] := ⟨_, rfl⟩
 rw [← hK]
 refine speco_of Tryz.func25 rfl (by kernel_rfl) (by kernel_rfl) (by kernel_rfl) fun qa qb qc qd qe qf qg qh qi qj qk ql qm qo qp qq qs qt qu qv qw qx qy qz va vc vd ve vf vg vh vj vk vl vm vn vo vp vq vr vt vu hA => ?_
 obtain ⟨e1, e2, e3, e4, e5, e6, e7, e8, e9⟩ := ar_at hA
 obtain ⟨r1, r2, r3, r4⟩ := row_at hA
 obtain ⟨s1, s2, s3, s4, s5, s6, s7⟩ := str_at hA
 have h1 : qj 4 1 = false := e9 _ _
 have h2 : qj 4 2 = false := e9 _ _
 have h3 : qj 4 3 = false := e9 _ _
 have h7 : qj 4 7 = false := e9 _ _
 have h5 : qj 4 5 = false := e9 _ _
 have h6 : qj 4 6 = false := e9 _ _
 have h4 : qj 4 4 = true := e9 _ _
 have g0 : qz K 0 = some [a0, a1, a2, a3] := by rw [r2, hK]; rfl
 have g1 : qz K 1 = some [b0, b1, b2, b3] := by rw [r2, hK]; rfl
 cbv
 repeat (first | (with_reducible apply next_at hA; cbv) | (rw [h1]; cbv) | (rw [h2]; cbv) | (rw [h3]; cbv) | (rw [h7]; cbv) | (rw [h5]; cbv) | (rw [h6]; cbv) | (rw [h4]; cbv) | (rw [g0]; cbv) | (rw [g1]; cbv) | (refine callo_at hA [0] c1 ⟨rfl, rfl, rfl, rfl, rfl, rfl, rfl⟩ ?_; rintro _ _ ⟨rfl, rfl⟩; cbv) | (refine callo_at hA [0, 2] c2 ⟨rfl, rfl, rfl, rfl, rfl, rfl, rfl⟩ ?_; rintro _ _ ⟨rfl, rfl⟩; cbv) | (refine callo_at hA [0, 2] c3 ⟨rfl, rfl, rfl, rfl, rfl, rfl, rfl⟩ ?_; rintro _ _ ⟨rfl, rfl⟩; cbv))
 try cbv
 repeat (first | (with_reducible apply next_at hA; cbv) | (rw [h1]; cbv) | (rw [h2]; cbv) | (rw [h3]; cbv) | (rw [h7]; cbv) | (rw [h5]; cbv) | (rw [h6]; cbv) | (rw [h4]; cbv) | (rw [g0]; cbv) | (rw [g1]; cbv) | (refine callo_at hA [0] c1 ⟨rfl, rfl, rfl, rfl, rfl, rfl, rfl⟩ ?_; rintro _ _ ⟨rfl, rfl⟩; cbv) | (refine callo_at hA [0, 2] c2 ⟨rfl, rfl, rfl, rfl, rfl, rfl, rfl⟩ ?_; rintro _ _ ⟨rfl, rfl⟩; cbv) | (refine callo_at hA [0, 2] c3 ⟨rfl, rfl, rfl, rfl, rfl, rfl, rfl⟩ ?_; rintro _ _ ⟨rfl, rfl⟩; cbv))
 try simp (maxSteps := 4000000) only [nc] at *
 exact keep_is hA [0, 2] ⟨rfl, rfl, rfl, rfl, rfl, rfl, rfl, rfl⟩ ⟨rfl, rfl⟩
theorem write_leaf1F (nm : ByteArray) (n : Int) (ks : List Ty) : WrF 25 (.mk 1 nm n ks) (txtS (.mk 1 nm n ks)) := by
 intro hl
 have ht : txtS (.mk 1 nm n ks) = [73, 110, 116] := by rw [txt_eq]; rfl
 rw [ht]
 have c1 := wsF_s _ lies_pen ⟨#[73, 110, 116]⟩ (by show ([73, 110, 116] : List UInt8).length ≤ _; simp)
 rw [show btl ⟨#[73, 110, 116]⟩ = [73, 110, 116] from rfl] at c1
 rw [cT]
 generalize rT ks = K
 rw [penU_eq, penO_eq] at c1 ⊢
 generalize rU [73, 110, 116] = R1 at *
 refine speco_of Tryz.func25 rfl (by kernel_rfl) (by kernel_rfl) (by kernel_rfl) fun qa qb qc qd qe qf qg qh qi qj qk ql qm qo qp qq qs qt qu qv qw qx qy qz va vc vd ve vf vg vh vj vk vl vm vn vo vp vq vr vt vu hA => ?_
 obtain ⟨e1, e2, e3, e4, e5, e6, e7, e8, e9⟩ := ar_at hA
 obtain ⟨r1, r2, r3, r4⟩ := row_at hA
 obtain ⟨s1, s2, s3, s4, s5, s6, s7⟩ := str_at hA
 have h1 : qj 1 1 = true := e9 _ _
 cbv
 repeat (first | (with_reducible apply next_at hA; cbv) | (rw [h1]; cbv) | (refine callo_at hA [0] c1 ⟨rfl, rfl, rfl, rfl, rfl, rfl, rfl⟩ ?_; rintro _ _ ⟨rfl, rfl⟩; cbv))
 try cbv
 repeat (first | (with_reducible apply next_at hA; cbv) | (rw [h1]; cbv) | (refine callo_at hA [0] c1 ⟨rfl, rfl, rfl, rfl, rfl, rfl, rfl⟩ ?_; rintro _ _ ⟨rfl, rfl⟩; cbv))
 try simp (maxSteps := 4000000) only [nc] at *
 exact keep_is hA [0, 2] ⟨rfl, rfl, rfl, rfl, rfl, rfl, rfl, rfl⟩ ⟨rfl, rfl⟩
theorem write_leaf2F (nm : ByteArray) (n : Int) (ks : List Ty) : WrF 25 (.mk 2 nm n ks) (txtS (.mk 2 nm n ks)) := by
 intro hl
 have ht : txtS (.mk 2 nm n ks) = [66, 111, 111, 108] := by rw [txt_eq]; rfl
 rw [ht]
 have c1 := wsF_s _ lies_pen ⟨#[66, 111, 111, 108]⟩ (by show ([66, 111, 111, 108] : List UInt8).length ≤ _; simp)
 rw [show btl ⟨#[66, 111, 111, 108]⟩ = [66, 111, 111, 108] from rfl] at c1
 rw [cT]
 generalize rT ks = K
 rw [penU_eq, penO_eq] at c1 ⊢
 generalize rU [66, 111, 111, 108] = R1 at *
 refine speco_of Tryz.func25 rfl (by kernel_rfl) (by kernel_rfl) (by kernel_rfl) fun qa qb qc qd qe qf qg qh qi qj qk ql qm qo qp qq qs qt qu qv qw qx qy qz va vc vd ve vf vg vh vj vk vl vm vn vo vp vq vr vt vu hA => ?_
 obtain ⟨e1, e2, e3, e4, e5, e6, e7, e8, e9⟩ := ar_at hA
 obtain ⟨r1, r2, r3, r4⟩ := row_at hA
 obtain ⟨s1, s2, s3, s4, s5, s6, s7⟩ := str_at hA
 have h1 : qj 2 1 = false := e9 _ _
 have h2 : qj 2 2 = true := e9 _ _
 cbv
 repeat (first | (with_reducible apply next_at hA; cbv) | (rw [h1]; cbv) | (rw [h2]; cbv) | (refine callo_at hA [0] c1 ⟨rfl, rfl, rfl, rfl, rfl, rfl, rfl⟩ ?_; rintro _ _ ⟨rfl, rfl⟩; cbv))
 try cbv
 repeat (first | (with_reducible apply next_at hA; cbv) | (rw [h1]; cbv) | (rw [h2]; cbv) | (refine callo_at hA [0] c1 ⟨rfl, rfl, rfl, rfl, rfl, rfl, rfl⟩ ?_; rintro _ _ ⟨rfl, rfl⟩; cbv))
 try simp (maxSteps := 4000000) only [nc] at *
 exact keep_is hA [0, 2] ⟨rfl, rfl, rfl, rfl, rfl, rfl, rfl, rfl⟩ ⟨rfl, rfl⟩
theorem write_leaf3F (nm : ByteArray) (n : Int) (ks : List Ty) : WrF 25 (.mk 3 nm n ks) (txtS (.mk 3 nm n ks)) := by
 intro hl
 have ht : txtS (.mk 3 nm n ks) = [63] := by rw [txt_eq]; rfl
 rw [ht]
 have c1 := wbF_s _ lies_pen 63
 replace c1 : SpecO 46 [.ptr 0 0, vi .u8 63] _ _ := c1
 rw [cT]
 generalize rT ks = K
 rw [penU_eq, penO_eq] at c1 ⊢
 generalize rU [63] = R1 at *
 refine speco_of Tryz.func25 rfl (by kernel_rfl) (by kernel_rfl) (by kernel_rfl) fun qa qb qc qd qe qf qg qh qi qj qk ql qm qo qp qq qs qt qu qv qw qx qy qz va vc vd ve vf vg vh vj vk vl vm vn vo vp vq vr vt vu hA => ?_
 obtain ⟨e1, e2, e3, e4, e5, e6, e7, e8, e9⟩ := ar_at hA
 obtain ⟨r1, r2, r3, r4⟩ := row_at hA
 obtain ⟨s1, s2, s3, s4, s5, s6, s7⟩ := str_at hA
 have h1 : qj 3 1 = false := e9 _ _
 have h2 : qj 3 2 = false := e9 _ _
 have h3 : qj 3 3 = true := e9 _ _
 cbv
 repeat (first | (with_reducible apply next_at hA; cbv) | (rw [h1]; cbv) | (rw [h2]; cbv) | (rw [h3]; cbv) | (refine callo_at hA [0] c1 ⟨rfl, rfl, rfl, rfl, rfl, rfl, rfl⟩ ?_; rintro _ _ ⟨rfl, rfl⟩; cbv))
 try cbv
 repeat (first | (with_reducible apply next_at hA; cbv) | (rw [h1]; cbv) | (rw [h2]; cbv) | (rw [h3]; cbv) | (refine callo_at hA [0] c1 ⟨rfl, rfl, rfl, rfl, rfl, rfl, rfl⟩ ?_; rintro _ _ ⟨rfl, rfl⟩; cbv))
 try simp (maxSteps := 4000000) only [nc] at *
 exact keep_is hA [0, 2] ⟨rfl, rfl, rfl, rfl, rfl, rfl, rfl, rfl⟩ ⟨rfl, rfl⟩
theorem write_varF (nm : ByteArray) (n : Int) (ks : List Ty) (h0 : 0 ≤ n) (h1 : n ≤ 9223372036854775807) : WrF 25 (.mk 7 nm n ks) (txtS (.mk 7 nm n ks)) := by
 intro hl
 have ht : txtS (.mk 7 nm n ks) = 39 :: Lib.itoa n := by rw [txt_eq]; rfl
 rw [ht] at hl ⊢
 have hi := itoa_c n (by omega) h1
 have hb : btl (⟨#[39]⟩ ++ ⟨(Lib.itoa n).toArray⟩ : ByteArray) = 39 :: Lib.itoa n := by unfold btl; simp
 have hz : (⟨#[39]⟩ ++ ⟨(Lib.itoa n).toArray⟩ : ByteArray).size = (39 :: Lib.itoa n).length := by rw [← hb, btl_size]
 have c1 := wsF_s _ lies_pen (⟨#[39]⟩ ++ ⟨(Lib.itoa n).toArray⟩) (by rw [hz]; exact hl)
 rw [hb] at c1
 have hfit : (⟨#[39]⟩ : ByteArray).size + (⟨(Lib.itoa n).toArray⟩ : ByteArray).size ≤ 4611686018427387904 := by
  have h2 : (⟨#[39]⟩ ++ ⟨(Lib.itoa n).toArray⟩ : ByteArray).size = (⟨#[39]⟩ : ByteArray).size + (⟨(Lib.itoa n).toArray⟩ : ByteArray).size := by simp
  rw [← h2, hz]; omega
 rw [cT]
 generalize rT ks = K
 rw [penU_eq, penO_eq] at c1 ⊢
 generalize rU (39 :: Lib.itoa n) = R1 at *
 clear hl hz hb ht
 generalize (⟨(Lib.itoa n).toArray⟩ : ByteArray) = D at *
 obtain ⟨S, hS⟩ : ∃ S, S = (⟨#[39]⟩ ++ D : ByteArray) := ⟨_, rfl⟩
 rw [← hS] at c1
 refine speco_of Tryz.func25 rfl (by kernel_rfl) (by kernel_rfl) (by kernel_rfl) fun qa qb qc qd qe qf qg qh qi qj qk ql qm qo qp qq qs qt qu qv qw qx qy qz va vc vd ve vf vg vh vj vk vl vm vn vo vp vq vr vt vu hA => ?_
 obtain ⟨e1, e2, e3, e4, e5, e6, e7, e8, e9⟩ := ar_at hA
 obtain ⟨r1, r2, r3, r4⟩ := row_at hA
 obtain ⟨s1, s2, s3, s4, s5, s6, s7⟩ := str_at hA
 have h1 : qj 7 1 = false := e9 _ _
 have h2 : qj 7 2 = false := e9 _ _
 have h3 : qj 7 3 = false := e9 _ _
 have h7 : qj 7 7 = true := e9 _ _
 have hc : qp ⟨#[39]⟩ D = S := by rw [s4, hS]
 cbv
 repeat (first | (with_reducible apply next_at hA; cbv) | (rw [h1]; cbv) | (rw [h2]; cbv) | (rw [h3]; cbv) | (rw [h7]; cbv) | (refine call_at hA _ hi rfl ?_; cbv) | (refine calm_at hA _ hi ?_; cbv))
 try cbv
 repeat (first | (with_reducible apply next_at hA; cbv) | (rw [h1]; cbv) | (rw [h2]; cbv) | (rw [h3]; cbv) | (rw [h7]; cbv) | (refine call_at hA _ hi rfl ?_; cbv) | (refine calm_at hA _ hi ?_; cbv))
 try simp (maxSteps := 4000000) only [nc] at *
 refine fits_at hA hfit ?_
 cbv
 rw [hc]
 cbv
 repeat (first | (with_reducible apply next_at hA; cbv) | (refine callo_at hA [0] c1 ⟨rfl, rfl, rfl, rfl, rfl, rfl, rfl⟩ ?_; rintro _ _ ⟨rfl, rfl⟩; cbv))
 try cbv
 repeat (first | (with_reducible apply next_at hA; cbv) | (refine callo_at hA [0] c1 ⟨rfl, rfl, rfl, rfl, rfl, rfl, rfl⟩ ?_; rintro _ _ ⟨rfl, rfl⟩; cbv))
 try simp (maxSteps := 4000000) only [nc] at *
 exact keep_is hA [0, 2] ⟨rfl, rfl, rfl, rfl, rfl, rfl, rfl, rfl⟩ ⟨rfl, rfl⟩
theorem Mod.part {t x : Ty} (h : Mod t) (hx : x ∈ t.parts) : Mod x := fun y hy => h y (parts_trans hy hx)
theorem write_all (W : ByteArray → Bool) : ∀ (m : Nat) (t : Ty), t.parts.length ≤ m → shapeB W t 116 = true → Mod t → WrU 25 t (txtS t) ∧ WrF 25 t (txtS t) := by
 intro m
 induction m with
 | zero => intro t h; have := parts_pos t; omega
 | succ m ih =>
  intro t hm hs hM
  have hkl := kids_le t
  have hself := hM.self
  obtain ⟨h0, hc⟩ := shape_ty hs
  have hfrom : ∀ a : Ty, WrU 25 a (txtS a) ∧ WrF 25 a (txtS a) → WrU 49 a (fromW txtS a) ∧ WrF 49 a (fromW txtS a) := fun a ha => by
   by_cases h4 : a.op = 4
   ·exact ⟨from_fnU a h4 ha.1, from_fnF a h4 ha.1⟩
   ·exact ⟨from_noU a h4 ha.1, from_noF a h4 ha.2⟩
  have hrow : ∀ a : Ty, a ∈ t.kids → shapeB W a 114 = true → WrU 48 a (rowT txtS a) := fun a ha hsa => by
   have h1 := hkl.2 a ha
   exact row_u W a hsa (fun x hx => ((hM.kid ha) x hx).2.2) fun x hx hxm hxs => (ih x (by omega) hxs ((hM.kid ha).part hxm)).1
  rw [Ty.eta t] at hm hs hM ⊢
  rcases hc with ⟨hop, hk⟩ | ⟨hop, a, b, hk, hsa, hsb⟩ | ⟨hop, a, hk, hsa⟩
  ·rcases hop with h | h | h | h
   ·exact ⟨write_leaf _ (.inl h), by rw [h]; exact write_leaf1F _ _ _⟩
   ·exact ⟨write_leaf _ (.inr (.inl h)), by rw [h]; exact write_leaf2F _ _ _⟩
   ·exact ⟨write_leaf _ (.inr (.inr h)), by rw [h]; exact write_leaf3F _ _ _⟩
   ·rw [h]
    refine ⟨?_, write_varF _ _ _ h0 hself.2.2⟩
    have h1 := write_var t.name t.n t.kids h0 hself.2.2
    rw [show txtS (.mk 7 t.name t.n t.kids) = 39 :: Lib.itoa t.n by rw [txt_eq]; rfl]
    exact h1
  ·have ha := ih a (by have := hkl.2 a (by rw [hk]; simp); rw [← Ty.eta t] at hm; omega) hsa (by rw [← Ty.eta t] at hM; exact hM.kid (by rw [hk]; simp))
   have hb := ih b (by have := hkl.2 b (by rw [hk]; simp); rw [← Ty.eta t] at hm; omega) hsb (by rw [← Ty.eta t] at hM; exact hM.kid (by rw [hk]; simp))
   rw [hop, hk]
   exact ⟨write_funU _ _ a b (hfrom a ha).1 hb.1, write_funF _ _ a b (hfrom a ha).2 hb.1⟩
  ·have hr := hrow a (by rw [hk]; simp) hsa
   rw [hk]
   rcases hop with h | h
   ·rw [h]; exact ⟨write_recU _ _ a hr, write_recF _ _ a hr⟩
   ·rw [h]; exact ⟨write_vntU _ _ a hr, write_vntF _ _ a hr⟩
end Go.Proofs.YtahpnackkmbmgaaGreatDoor.Vm
end
section
namespace Go.Proofs.YtahpnackkmbmgaaGreatDoor.Vm
open Go.RowKit
set_option maxRecDepth 100000
set_option maxHeartbeats 4000000
end Go.Proofs.YtahpnackkmbmgaaGreatDoor.Vm
end
section
namespace Go.Proofs.YtahpnackkmbmgaaGreatDoor.Vm
open Go.RowKit
set_option maxRecDepth 100000
set_option maxHeartbeats 4000000
def cfS (f : ByteArray × Ty) : ByteArray × Ty := (f.1, canonS f.2)
theorem fieldsS_len : ∀ (n : Nat) (t : Ty), t.parts.length ≤ n → (fieldsS t).length < t.parts.length := by
 intro n
 induction n with
 | zero => intro t h; have := parts_pos t; omega
 | succ n ih =>
  intro t h
  have hp := parts_pos t
  obtain ⟨op, nm, k, ks⟩ := t
  match ks with
  | [] => exact hp
  | [x] => exact hp
  | x :: y :: z :: l => exact hp
  | [x, r] =>
   have hk := kids_le (.mk op nm k [x, r])
   have hr := hk.2 r (by simp [Ty.kids])
   unfold fieldsS
   by_cases h11 : op = 11
   ·rw [if_pos h11, List.length_cons]
    have := ih r (by omega)
    omega
   ·rw [if_neg h11]; exact hp
end Go.Proofs.YtahpnackkmbmgaaGreatDoor.Vm
end
section
namespace Go.Proofs.YtahpnackkmbmgaaGreatDoor.Vm
section
variable {W : ByteArray → Bool}
theorem shape_parts {t : Ty} {s : Int} (h : shapeB W t s = true) : ∃ k, kidsS t.op = some k ∧ (decide (8 ≤ t.op) == (s == 114)) = true ∧ t.kids.length = k.length ∧ (if t.op = 11 then W t.name else decide (t.name.toList = [])) = true ∧ 0 ≤ t.n ∧ (t.op = 7 ∨ t.op = 10 ∨ t.n = 0) ∧ shapesB W t.kids k = true := by
 cases hk : kidsS t.op with
 | none => rw [shape_none hk] at h; cases h
 | some k =>
  obtain ⟨op, nm, n, kids⟩ := t
  rw [shape_some (k := k) (by exact hk)] at h
  unfold c3B c4B at h
  simp only [Bool.and_eq_true, Bool.or_eq_true, decide_eq_true_eq] at h
  obtain ⟨⟨h1, h2, h3, h4, h5⟩, h6⟩ := h
  exact ⟨k, rfl, h1, h2, h3, h4, by simpa [or_assoc, Ty.op, Ty.n] using h5, h6⟩
theorem shape_mk {op : Int} {nm : ByteArray} {n : Int} {kids : List Ty} {s : Int} {k : List Int} (h0 : kidsS op = some k) (h1 : (decide (8 ≤ op) == (s == 114)) = true) (h2 : kids.length = k.length) (h3 : (if op = 11 then W nm else decide (nm.toList = [])) = true) (h4 : 0 ≤ n) (h5 : op = 7 ∨ op = 10 ∨ n = 0) (h6 : shapesB W kids k = true) :
  shapeB W (.mk op nm n kids) s = true := by
 rw [shape_some h0]
 unfold c3B c4B
 simp only [Bool.and_eq_true, Bool.or_eq_true, decide_eq_true_eq]
 exact ⟨⟨h1, h2, h3, h4, by simpa [or_assoc] using h5⟩, h6⟩
theorem shape_row {t : Ty} {s : Int} (h : shapeB W t s = true) (h11 : t.op = 11) : s = 114 ∧ ∃ a b, t.kids = [a, b] ∧ t.n = 0 ∧ W t.name = true ∧ shapeB W a 116 = true ∧ shapeB W b 114 = true := by
 obtain ⟨k, hk, h1, h2, h3, h4, h5, h6⟩ := shape_parts h
 rw [h11] at hk h1 h3 h5
 have : kidsS 11 = some [116, 114] := by decide
 rw [this] at hk
 injection hk with hk
 subst hk
 rw [if_pos rfl] at h3
 have hs : s = 114 := by
  have h8 : decide ((8 : Int) ≤ 11) = true := by decide
  rw [h8] at h1
  simpa using h1
 refine ⟨hs, ?_⟩
 match t.kids, h2, h6 with
 | [a, b], _, h6 =>
  rw [shapesB, shapesB, shapesB] at h6
  simp only [Bool.and_eq_true, and_true] at h6
  refine ⟨a, b, rfl, ?_, h3, h6.1, h6.2⟩
  rcases h5 with h | h | h
  ·exact absurd h (by decide)
  ·exact absurd h (by decide)
  ·exact h
theorem shape_row_mk {nm : ByteArray} {a b : Ty} (h3 : W nm = true) (ha : shapeB W a 116 = true) (hb : shapeB W b 114 = true) : shapeB W (.mk 11 nm 0 [a, b]) 114 = true := by
 refine shape_mk (k := [116, 114]) (by decide) (by decide) rfl (by rw [if_pos rfl]; exact h3) (by omega) (.inr (.inr rfl)) ?_
 rw [shapesB, shapesB, shapesB, ha, hb]
 rfl
theorem fields_shape : ∀ {t : Ty}, shapeB W t 114 = true → (∀ f ∈ fieldsS t, W f.1 = true ∧ shapeB W f.2 116 = true) ∧ shapeB W (tailS t) 114 = true := by
 intro t
 induction t using Ty.ind with
 | h t ih =>
  intro h
  by_cases h11 : t.op = 11
  ·obtain ⟨_, a, b, hk, hn, hw, ha, hb⟩ := shape_row h h11
   have hsp : Spine t := shape_spine W t _ h t (by rw [parts_eq]; exact List.mem_cons_self ..)
   obtain ⟨a', b', hk', hsb, hf, ht⟩ := fields_step hsp h11
   rw [hk] at hk'
   injection hk' with e1 e2
   injection e2 with e2 _
   subst e1
   subst e2
   have hb' := ih b (by rw [hk]; simp) hb
   rw [hf, ht]
   refine ⟨fun f hf => ?_, hb'.2⟩
   rcases List.mem_cons.1 hf with rfl | hf
   ·exact ⟨hw, ha⟩
   ·exact hb'.1 f hf
  ·obtain ⟨h1, h2⟩ := fields_end h11
   rw [h1, h2]
   exact ⟨by simp, h⟩
theorem rowS_shape {tl : Ty} (ht : shapeB W tl 114 = true) : ∀ {fs : List (ByteArray × Ty)}, (∀ f ∈ fs, W f.1 = true ∧ shapeB W f.2 116 = true) → shapeB W (rowS fs tl) 114 = true
 | [], _ => ht
 | f :: fs, h => by
  rw [rowS_op_ne]
  have h1 := h f (List.mem_cons_self ..)
  exact shape_row_mk h1.1 h1.2 (rowS_shape ht fun g hg => h g (List.mem_cons_of_mem _ hg))
theorem shape_spineAll {t : Ty} {s : Int} (h : shapeB W t s = true) : SpineAll t := shape_spine W t s h
theorem shapes_get : ∀ {ts : List Ty} {ks : List Int}, shapesB W ts ks = true → ∀ (i : Nat) (t : Ty) (k : Int), ts[i]? = some t → ks[i]? = some k → shapeB W t k = true
 | [], _, _, i, t, k, h, _ => by simp at h
 | _ :: _, [], h, i, t, k, _, hk => by simp at hk
 | x :: xs, y :: ys, h, i, t, k, ht, hk => by
  rw [shapesB, Bool.and_eq_true] at h
  cases i with
  | zero => simp at ht hk; subst ht; subst hk; exact h.1
  | succ i => exact shapes_get h.2 i t k (by simpa using ht) (by simpa using hk)
theorem shapes_map {f : Ty → Ty} : ∀ {ts : List Ty} {ks : List Int}, shapesB W ts ks = true → (∀ x ∈ ts, ∀ k, shapeB W x k = true → shapeB W (f x) k = true) → shapesB W (ts.map f) ks = true
 | [], ks, _, _ => by cases ks <;> rfl
 | x :: xs, [], h, _ => by rw [shapesB] at h; cases h
 | x :: xs, y :: ys, h, hf => by
  rw [shapesB, Bool.and_eq_true] at h
  rw [List.map_cons, shapesB, Bool.and_eq_true]
  exact ⟨hf x (List.mem_cons_self ..) y h.1, shapes_map h.2 fun z hz => hf z (List.mem_cons_of_mem _ hz)⟩
theorem canon_shape : ∀ (n : Nat) (t : Ty) (s : Int), t.parts.length ≤ n → shapeB W t s = true → shapeB W (canonS t) s = true := by
 intro n
 induction n with
 | zero => intro t s h; have := parts_pos t; omega
 | succ n ih =>
  intro t s hn h
  by_cases h11 : t.op = 11
  ·have hr := shape_row h h11
   obtain ⟨rfl, -⟩ := hr
   obtain ⟨hf, ht⟩ := fields_shape h
   rw [canon_row h11]
   refine rowS_shape ht fun f hf' => ?_
   obtain ⟨g, hg, rfl⟩ := List.mem_map.1 hf'
   have h1 := fields_less _ t (Nat.le_refl _) g (sortS_mem hg)
   have h2 := hf g (sortS_mem hg)
   exact ⟨h2.1, ih g.2 116 (by omega) h2.2⟩
  ·rw [canon_node h11]
   obtain ⟨k, hk, h1, h2, h3, h4, h5, h6⟩ := shape_parts h
   refine shape_mk hk h1 (by rw [List.length_map]; exact h2) h3 h4 h5 (shapes_map h6 fun x hx k hxk => ?_)
   have h7 := (kids_le t).2 x hx
   exact ih x k (by omega) hxk
end
section
variable {W : ByteArray → Bool}
def Both (W : ByteArray → Bool) (g s : Ty) : Prop := ∃ c, shapeB W g c = true ∧ shapeB W s c = true
theorem Both.kids {g s : Ty} (h : Both W g s) (he : g.op = s.op) : g.kids.length = s.kids.length ∧ ∀ (i : Nat) (x y : Ty), g.kids[i]? = some x → s.kids[i]? = some y → Both W x y := by
 obtain ⟨c, hg, hs⟩ := h
 obtain ⟨k, hk, _, h2, _, _, _, h6⟩ := shape_parts hg
 obtain ⟨k', hk', _, h2', _, _, _, h6'⟩ := shape_parts hs
 rw [← he, hk] at hk'
 injection hk' with hk'
 subst hk'
 refine ⟨by rw [h2, h2'], fun i x y hx hy => ?_⟩
 have hi : i < k.length := by rw [← h2]; exact (List.getElem?_eq_some_iff.1 hx).1
 exact ⟨k[i], shapes_get h6 i x _ hx (List.getElem?_eq_getElem hi), shapes_get h6' i y _ hy (List.getElem?_eq_getElem hi)⟩
theorem part_len {t x : Ty} (h : x ∈ t.parts) : x.parts.length ≤ t.parts.length := by
 induction t using Ty.ind with
 | h t ih =>
  rw [parts_kids] at h
  rcases List.mem_cons.1 h with rfl | h
  ·exact Nat.le_refl _
  ·obtain ⟨k, hk, hx⟩ := List.mem_flatMap.1 h
   have h1 := ih k hk hx
   have h2 := (kids_le t).2 k hk
   omega
end
end Go.Proofs.YtahpnackkmbmgaaGreatDoor.Vm
end
section
namespace Go.Proofs.YtahpnackkmbmgaaGreatDoor.Vm
theorem swoF : Swo ltF := ⟨fun _ => bytes_irr _, fun _ _ _ => bytes_tra _ _ _, fun _ _ _ => bytes_neg _ _ _⟩
theorem sortS_self {l : List (ByteArray × Ty)} (h : Srt ltF l) : sortS ltF l = l := (sort_is swoF h (.refl l)).symm
def cF (f : ByteArray × Ty) : ByteArray × Ty := (f.1, canonS f.2)
theorem srt_cF {l : List (ByteArray × Ty)} (h : Srt ltF l) : Srt ltF (l.map cF) := List.pairwise_map.2 h
theorem canon_end {t : Ty} (h : t.op ≠ 11) (hk : t.kids = []) : canonS t = t := by
 rw [canon_node h, hk, List.map_nil]
 obtain ⟨op, nm, n, ks⟩ := t
 simp only [Ty.kids] at hk
 subst hk
 rfl
theorem canon_rowS {l : List (ByteArray × Ty)} (h : Srt ltF l) {tl : Ty} (ht : tl.op ≠ 11) (hk : tl.kids = []) : canonS (rowS l tl) = rowS (l.map cF) tl := by
 cases l with
 | nil => exact canon_end ht hk
 | cons f l =>
  have h11 : (rowS (f :: l) tl).op = 11 := rowS_len_op (by simp)
  rw [canon_row h11, (rowS_fields ht (f :: l)).1, (rowS_fields ht (f :: l)).2, sortS_self h]
  rfl
section
variable {W : ByteArray → Bool}
theorem end_kids {t : Ty} (h : shapeB W t 114 = true) (h11 : t.op ≠ 11) : t.kids = [] ∧ (t.op = 8 ∨ t.op = 9 ∨ t.op = 10) := by
 obtain ⟨k, hk, h1, h2, -⟩ := shape_parts h
 have h8 : 8 ≤ t.op := by simpa using h1
 unfold kidsS at hk
 split at hk
 ·injection hk with hk
  subst hk
  exact ⟨List.eq_nil_of_length_eq_zero h2, by omega⟩
 ·repeat' split at hk
  all_goals first | omega | cases hk
theorem tail_end {t : Ty} (h : shapeB W t 114 = true) : (tailS t).op ≠ 11 ∧ (tailS t).kids = [] ∧ ((tailS t).op = 8 ∨ (tailS t).op = 9 ∨ (tailS t).op = 10) := by
 have h1 := tail_not (shape_spineAll h).self
 have h2 := end_kids (fields_shape h).2 h1
 exact ⟨h1, h2.1, h2.2⟩
theorem fields_canon {t : Ty} (h : shapeB W t 114 = true) : fieldsS (canonS t) = (sortS ltF (fieldsS t)).map cF ∧ tailS (canonS t) = tailS t := by
 have ht := tail_end h
 by_cases h11 : t.op = 11
 ·rw [canon_row h11]
  exact rowS_fields ht.1 _
 ·obtain ⟨h1, h2⟩ := fields_end h11
  rw [canon_end h11 (end_kids h h11).1, h1, h2]
  exact ⟨rfl, rfl⟩
theorem canon_row_is {t : Ty} (h : shapeB W t 114 = true) : canonS t = rowS ((sortS ltF (fieldsS t)).map cF) (tailS t) := by
 by_cases h11 : t.op = 11
 ·exact canon_row h11
 ·obtain ⟨h1, h2⟩ := fields_end h11
  rw [canon_end h11 (end_kids h h11).1, h1, h2]
  rfl
theorem canon_idem : ∀ (n : Nat) (t : Ty) (s : Int), t.parts.length ≤ n → shapeB W t s = true → canonS (canonS t) = canonS t := by
 intro n
 induction n with
 | zero => intro t s h; have := parts_pos t; omega
 | succ n ih =>
  intro t s hn h
  by_cases h11 : t.op = 11
  ·obtain ⟨rfl, -⟩ := shape_row h h11
   have ht := tail_end h
   rw [canon_row_is h, canon_rowS (srt_cF (sort_srt swoF _)) ht.1 ht.2.1, List.map_map]
   congr 1
   refine List.map_congr_left fun f hf => ?_
   have hm := sortS_mem hf
   have h1 := fields_less _ t (Nat.le_refl _) f hm
   have h2 := (fields_shape h).1 f hm
   show (f.1, canonS (canonS f.2)) = (f.1, canonS f.2)
   rw [ih f.2 116 (by omega) h2.2]
  ·rw [canon_node h11, canon_node (by exact h11)]
   simp only [Ty.op, Ty.name, Ty.n, Ty.kids]
   rw [List.map_map]
   congr 1
   obtain ⟨k, hk, h1, h2, h3, h4, h5, h6⟩ := shape_parts h
   refine List.map_congr_left fun x hx => ?_
   obtain ⟨i, hi⟩ := List.mem_iff_getElem?.1 hx
   have hil : i < k.length := by rw [← h2]; exact (List.getElem?_eq_some_iff.1 hi).1
   have hxs := shapes_get h6 i x _ hi (List.getElem?_eq_getElem hil)
   have := (kids_le t).2 x hx
   exact ih x _ (by omega) hxs
end
section
variable {W : ByteArray → Bool}
end
def Cn (t : Ty) : Prop := canonS t = t
section
variable {W : ByteArray → Bool}
theorem cn_fields {t : Ty} (h : shapeB W t 114 = true) (hc : Cn t) : Srt ltF (fieldsS t) ∧ ∀ f ∈ fieldsS t, Cn f.2 := by
 have h1 := (fields_canon h).1
 rw [hc] at h1
 have h2 : Srt ltF (fieldsS t) := by rw [h1]; exact srt_cF (sort_srt swoF _)
 refine ⟨h2, fun f hf => ?_⟩
 have h3 := hf
 rw [h1, sortS_self h2] at h3
 obtain ⟨g, hg, rfl⟩ := List.mem_map.1 h3
 exact canon_idem _ g.2 116 (Nat.le_refl _) ((fields_shape h).1 g hg).2
end
def keys (c : List (Int × Ty)) : List Int := c.map (·.1)
def Kept (c c' : List (Int × Ty)) : Prop := ((keys c).Nodup → (keys c').Nodup) ∧ ∀ k ∈ keys c, k ∈ keys c'
theorem Kept.trans {a b c : List (Int × Ty)} (h : Kept a b) (k : Kept b c) : Kept a c := ⟨fun x => k.1 (h.1 x), fun n x => k.2 n (h.2 n x)⟩
section
variable {W : ByteArray → Bool}
theorem var_kids {t : Ty} {s : Int} (h : shapeB W t s = true) (hv : t.op = 7 ∨ t.op = 10) : t.kids = [] := by
 obtain ⟨k, hk, h1, h2, -⟩ := shape_parts h
 unfold kidsS at hk
 rw [if_pos (by omega)] at hk
 injection hk with hk
 subst hk
 exact List.eq_nil_of_length_eq_zero h2
theorem isVar_iff {t : Ty} : isVar t = true ↔ t.op = 7 ∨ t.op = 10 := by unfold isVar; simp
end
end Go.Proofs.YtahpnackkmbmgaaGreatDoor.Vm
end
section
namespace Go.Proofs.YtahpnackkmbmgaaGreatDoor.Vm
open Go.RowKit
set_option maxRecDepth 100000
set_option maxHeartbeats 4000000
theorem sort_rF (fs : List (ByteArray × Ty)) : sortS ltR (rF fs) = rF (sortS ltF fs) := sortS_map (f := fun x : ByteArray × Ty => D.sc (.string x.1) :: cT x.2) (fun _ _ => rfl) fs
theorem ok5_rF (fs : List (ByteArray × Ty)) : ∀ x ∈ rF fs, Ok5 x := fun x hx => by
 obtain ⟨f, _, rfl⟩ := List.mem_map.1 hx
 obtain ⟨c0, c1, c2, c3, h⟩ := cT_four f.2
 exact ⟨f.1, c0, c1, c2, c3, by show D.sc (.string f.1) :: cT f.2 = _; rw [h]⟩
theorem rF_snoc (fs : List (ByteArray × Ty)) (f : ByteArray × Ty) : rF (fs ++ [f]) = rF fs ++ [.sc (.string f.1) :: cT f.2] := by unfold rF; rw [List.map_append]; rfl
theorem flat_s (t : Ty) (hs : Spine t) (hN : t.parts.length ≤ 1048576) : SpecO 74 [.ag (ofD (cT t))] [] (fun res os' => res = [.own 0, .ag (ofD (cT (tailS t)))] ∧ os' = [.row false 85 (rF (sortS ltF (fieldsS t)))]) := by
 have hso := sorted_s 95 flat1_c (rF (fieldsS t)) (ok5_rF _) (by rw [rF_len]; have := fieldsS_len _ t (Nat.le_refl _); omega)
 rw [sort_rF] at hso
 obtain ⟨Q, hQ⟩ : ∃ Q, Q = rF (sortS ltF (fieldsS t)) := ⟨_, rfl⟩
 obtain ⟨M, hM⟩ : ∃ M, M = rF (fieldsS t) := ⟨_, rfl⟩
 rw [← hQ, ← hM] at hso
 rw [← hQ]
 obtain ⟨q0, q1, q2, q3, hq⟩ := cT_four (tailS t)
 rw [hq]
 obtain ⟨op, nm, n, ks⟩ := t
 generalize ht : Ty.mk op nm n ks = t at *
 have hc : cT t = [.sc (.int .u8 op), .sc (.string nm), .sc (.int .i64 n), .sl 4 (rT ks)] := by rw [← ht, cT]
 obtain ⟨K0, hK0⟩ : ∃ K, K = rT ks := ⟨_, rfl⟩
 rw [hc, ← hK0]
 refine speco_of Tryz.func74 rfl (by kernel_rfl) (by kernel_rfl) (by kernel_rfl) fun qa qb qc qd qe qf qg qh qi qj qk ql qm qo qp qq qs qt qu qv qw qx qy qz va vc vd ve vf vg vh vj vk vl vm vn vo vp vq vr vt vu hA => ?_
 cbv
 repeat (first | (refine own_at hA 4 85 false rfl ?_; cbv) | (with_reducible apply next_at hA; cbv))
 obtain ⟨e1, e2, e3, e4, e5, e6, e7, e8, e9⟩ := ar_at hA
 obtain ⟨r1, r2, r3, r4⟩ := row_at hA
 refine loop_at hA (γ := Ty × Int × ByteArray × Int × List (List D) × List (List D)) (fun x => [(4, .own 2)]) (fun x => [(0, .box [.d (.sc (.int .u8 x.2.1)), .d (.sc (.string x.2.2.1)), .d (.sc (.int .i64 x.2.2.2.1)), .d (.sl 4 x.2.2.2.2.1)]), (2, .row false 85 x.2.2.2.2.2)])
  (fun x => ∃ ks fs, x.1 = .mk x.2.1 x.2.2.1 x.2.2.2.1 ks ∧ x.2.2.2.2.1 = rT ks ∧ Spine x.1 ∧ x.2.2.2.2.2 = rF fs ∧ fs ++ fieldsS x.1 = fieldsS t ∧ tailS x.1 = tailS t ∧ fs.length + x.1.parts.length ≤ 1048576) (fun x => x.1.parts.length) (t, op, nm, n, K0, []) ?_ ?_ ?_
 ·exact ⟨ks, [], ht.symm, hK0, hs, rfl, rfl, rfl, by simpa using hN⟩
 ·cbv
 ·intro x hinv
  obtain ⟨r, op, nm, n, K, L⟩ := x
  cbv
  repeat ((with_reducible apply next_at hA); cbv)
  try simp (maxSteps := 4000000) only [nc] at *
  obtain ⟨ks, fs, hr, hK, hsr, hL, hfs, htl, hlen⟩ := hinv
  have h11 : qj op 11 = decide (op = 11) := e9 _ _
  by_cases hop : op = 11
  ·rw [decide_eq_true hop] at h11
   obtain ⟨a, b, hk, hsb, hfb, htb⟩ := fields_step hsr (by rw [hr]; exact hop)
   have hnmr : r.name = nm := by rw [hr]; rfl
   rw [hnmr] at hfb
   have hks : ks = [a, b] := by rw [← hk, hr]; rfl
   obtain ⟨a0, a1, a2, a3, ha⟩ := cT_four a
   obtain ⟨op', nm', n', ks'⟩ := b
   generalize hb : Ty.mk op' nm' n' ks' = b at *
   have hcb : cT b = [.sc (.int .u8 op'), .sc (.string nm'), .sc (.int .i64 n'), .sl 4 (rT ks')] := by rw [← hb, cT]
   obtain ⟨K', hK'⟩ : ∃ K, K = rT ks' := ⟨_, rfl⟩
   rw [← hK'] at hcb
   have g0 : qz K 0 = some [a0, a1, a2, a3] := by rw [r2, if_pos (by omega), hK, hks]; exact congrArg some ha
   have g1 : qz K 1 = some [.sc (.int .u8 op'), .sc (.string nm'), .sc (.int .i64 n'), .sl 4 K'] := by rw [r2, if_pos (by omega), hK, hks]; exact congrArg some hcb
   have hLl : L.length ≤ 1048576 := by rw [hL, rF_len]; omega
   have hbl : b.parts.length < r.parts.length := (kids_le r).2 b (by rw [hk]; simp)
   have hnew : vc L [[.sc (.string nm), a0, a1, a2, a3]] = rF (fs ++ [(nm, a)]) := by rw [r4, rF_snoc, hL, ha]
   rw [h11]
   cbv
   repeat (first | (with_reducible apply next_at hA; cbv) | (rw [g0]; cbv) | (rw [g1]; cbv) | (refine lit_at hA true ?_; cbv) | (refine room_at hA (by simp only [r4, List.length_append, List.length_cons, List.length_nil]; omega) ?_; cbv))
   try cbv
   repeat (first | (with_reducible apply next_at hA; cbv) | (rw [g0]; cbv) | (rw [g1]; cbv) | (refine lit_at hA true ?_; cbv) | (refine room_at hA (by simp only [r4, List.length_append, List.length_cons, List.length_nil]; omega) ?_; cbv))
   try simp (maxSteps := 4000000) only [nc] at *
   refine ⟨(b, op', nm', n', K', vc L [[.sc (.string nm), a0, a1, a2, a3]]), ⟨ks', fs ++ [(nm, a)], hb.symm, hK', hsb, hnew, by rw [← hfs, hfb]; simp, by rw [← htl, htb], by rw [List.length_append]; show fs.length + 1 + b.parts.length ≤ _; omega⟩, hbl, ?_⟩
   cbv
  ·rw [decide_eq_false hop] at h11
   obtain ⟨hf0, ht0⟩ := fields_end (t := r) (by rw [hr]; exact hop)
   rw [hf0, List.append_nil] at hfs
   have hLM : L = M := by rw [hL, hM, hfs]
   rw [ht0, hr] at htl
   rw [← htl, cT, ← hK] at hq
   rw [h11, hLM]
   cases hq
   cbv
   repeat ((with_reducible apply next_at hA); cbv)
   refine calls_at hA [2] hso ⟨rfl, rfl, rfl, rfl, rfl, rfl, rfl⟩ ?_
   rintro res os2 ⟨rfl, rfl⟩
   cbv
   repeat ((with_reducible apply next_at hA); cbv)
   exact keep_is hA [2] ⟨rfl, rfl, rfl, rfl, rfl, rfl, rfl, rfl⟩ ⟨rfl, rfl⟩
end Go.Proofs.YtahpnackkmbmgaaGreatDoor.Vm
end
section
namespace Go.Proofs.YtahpnackkmbmgaaGreatDoor.Vm
open Go.RowKit
set_option maxRecDepth 100000
set_option maxHeartbeats 4000000
theorem joinD_is (tl : Ty) : ∀ fs : List (ByteArray × Ty), joinD (rF fs) (cT tl) = cT (rowS fs tl)
 | [] => rfl
 | f :: fs => by
  rw [rowS_op_ne, cT]
  have ih := joinD_is tl fs
  show joinD ((.sc (.string f.1) :: cT f.2) :: rF fs) (cT tl) = _
  rw [joinD, ih]
  rfl
theorem canonP_s : ∀ (m : Nat) (t : Ty), t.parts.length ≤ m → m ≤ 1048576 → (∀ x ∈ t.parts, Spine x) → Spec 51 [.ag (cT t)] [.ag (cT (canonS t))] := by
 intro m
 induction m with
 | zero => intro t h; have := parts_pos t; omega
 | succ m ih =>
  intro t hm hm2 hsp
  have hself : t ∈ t.parts := by rw [parts_eq]; exact List.mem_cons_self ..
  have hkl := kids_le t
  obtain ⟨op, nm, n, ks⟩ := t
  generalize ht : Ty.mk op nm n ks = t at *
  have hc : cT t = [.sc (.int .u8 op), .sc (.string nm), .sc (.int .i64 n), .sl 4 (rT ks)] := by rw [← ht, cT]
  have hks : t.kids = ks := by rw [← ht]; rfl
  rw [hks] at hkl
  by_cases hop : op = 11
  ·have hF := flat_s t (hsp t hself) (by omega)
   have hcr := canon_row (t := t) (by rw [← ht]; exact hop)
   have hfs : ∀ f ∈ sortS ltF (fieldsS t), f.2.parts.length ≤ m ∧ SpineAll f.2 := fun f hf => by
    have h1 := sortS_mem hf
    have h2 := fields_less _ t (Nat.le_refl _) f h1
    have h3 := fields_mem _ t (Nat.le_refl _) f h1
    exact ⟨by omega, fun x hx => hsp x (parts_trans hx h3)⟩
   have hih : ∀ f ∈ sortS ltF (fieldsS t), Spec 51 [.ag (cT f.2)] [.ag (cT (canonS f.2))] := fun f hf => ih f.2 (hfs f hf).1 (by omega) (hfs f hf).2
   have hlen : (sortS ltF (fieldsS t)).length ≤ 1048576 := by
    rw [sortS_len]
    have := fieldsS_len _ t (Nat.le_refl _)
    omega
   have htl : (tailS t).parts.length ≤ 1048576 := by
    have h1 := spine_parts _ t (Nat.le_refl _) (hsp t hself)
    omega
   rw [hc] at hF ⊢
   obtain ⟨K0, hK0⟩ : ∃ K, K = rT ks := ⟨_, rfl⟩
   rw [← hK0] at hF ⊢
   generalize sortS ltF (fieldsS t) = L at *
   have hj := joinD_is (tailS t) (L.map cfS)
   rw [show rowS (L.map cfS) (tailS t) = canonS t from hcr.symm] at hj
   have hct := copied_s (tailS t) htl
   have hcf : ∀ r ∈ rF (L.map cfS), ∃ nm c0 c1 c2 c3, r = [nm, c0, c1, c2, c3] ∧ Spec 89 [.ag [c0, c1, c2, c3]] [.ag [c0, c1, c2, c3]] := fun r hr => by
    obtain ⟨f, hf, rfl⟩ := List.mem_map.1 hr
    obtain ⟨f0, hf0, rfl⟩ := List.mem_map.1 hf
    have h1 := hfs f0 hf0
    have h2 := canon_len _ f0.2 (Nat.le_refl _) h1.2
    have h3 := copied_s (canonS f0.2) (by omega)
    obtain ⟨c0, c1, c2, c3, hcc⟩ := cT_four (canonS f0.2)
    rw [hcc] at h3
    exact ⟨_, c0, c1, c2, c3, by show D.sc _ :: cT (canonS f0.2) = _; rw [hcc], h3⟩
   obtain ⟨y0, y1, y2, y3, hy⟩ := cT_four (canonS t)
   obtain ⟨q0, q1, q2, q3, hq⟩ := cT_four (tailS t)
   rw [hq] at hF hct hj
   rw [hy] at hj ⊢
   have hJ := join_s (rF (L.map cfS)) q0 q1 q2 q3 (by rw [rF_len, List.length_map]; omega) hct hcf
   rw [hj] at hJ
   obtain ⟨M0, hM0⟩ : ∃ M, M = rF L := ⟨_, rfl⟩
   rw [← hM0] at hF
   refine spec_of Tryz.func51 rfl (by kernel_rfl) (by kernel_rfl) (by kernel_rfl) fun qa qb qc qd qe qf qg qh qi qj qk ql qm qo qp qq qs qt qu qv qw qx qy qz va vc vd ve vf vg vh vj vk vl vm vn vo vp vq vr vt vu hA => ?_
   cbv
   repeat ((with_reducible apply next_at hA); cbv)
   have h11 : qj op 11 = decide (op = 11) := by have e := ar_at hA; exact e.2.2.2.2.2.2.2.2 _ _
   rw [decide_eq_true hop] at h11
   rw [h11]
   cbv
   repeat ((with_reducible apply next_at hA); cbv)
   refine callo_at hA [] hF ⟨rfl, rfl, rfl, rfl, rfl, rfl, rfl⟩ ?_
   rintro res os2 ⟨rfl, rfl⟩
   cbv
   repeat ((with_reducible apply next_at hA); cbv)
   obtain ⟨e1, e2, e3, e4, e5, e6, e7, e8, e9⟩ := ar_at hA
   obtain ⟨r1, r2, r3, r4⟩ := row_at hA
   obtain ⟨m1, m2, m3, m4⟩ := map_at hA
   refine loop_at hA (γ := Int × List (List D)) (fun x => [(19, vi .i64 x.1), (12, .jk), (14, .jk)]) (fun x => [(2, .row false 85 x.2)]) (fun x => ∃ k : Nat, x.1 = (k : Int) ∧ k ≤ L.length ∧ x.2 = rF ((L.take k).map cfS ++ L.drop k)) (fun x => L.length - x.1.toNat) (0, M0) ?_ ?_ ?_
   ·exact ⟨0, rfl, Nat.zero_le _, hM0⟩
   ·cbv
   ·intro x hinv
    obtain ⟨z, M⟩ := x
    cbv
    repeat ((with_reducible apply next_at hA); cbv)
    try simp (maxSteps := 4000000) only [nc] at *
    obtain ⟨k, hz, hk, hM⟩ := hinv
    have hll : qy M0 = ((L.length : Nat) : Int) := by rw [r1, hM0, rF_len]
    have hlt : qh z (qy M0) = decide (k < L.length) := by rw [e7, hll, hz]; exact decide_eq_decide.2 (by omega)
    by_cases h9 : k < L.length
    ·rw [decide_eq_true h9] at hlt
     obtain ⟨x, hx⟩ : ∃ x, L[k]? = some x := ⟨_, List.getElem?_eq_getElem h9⟩
     have hspx := hih x (List.mem_of_getElem? hx)
     have hxe : ((L.take k).map cfS ++ L.drop k)[k]? = some x := by
      rw [List.getElem?_append_right (by simp; omega)]
      simp
      rw [Nat.min_eq_left (by omega), Nat.sub_self, Nat.add_zero]
      exact hx
     have hset : ((L.take k).map cfS ++ L.drop k).set k (cfS x) = (L.take (k + 1)).map cfS ++ L.drop (k + 1) := by
      obtain ⟨hi, e⟩ := List.getElem?_eq_some_iff.1 hx
      have e0 : k - ((L.take k).map cfS).length = 0 := by rw [List.length_map, List.length_take]; omega
      rw [List.set_append_right _ _ (by rw [List.length_map, List.length_take]; omega), List.take_add_one, hx, List.map_append, List.append_assoc, List.drop_eq_getElem_cons hi, e0]
      rfl
     obtain ⟨xn, xt⟩ := x
     obtain ⟨x0, x1, x2, x3, hxx⟩ := cT_four xt
     obtain ⟨v0, v1, v2, v3, hvv⟩ := cT_four (canonS xt)
     simp only at hspx
     rw [hxx, hvv] at hspx
     have gx : qz M z = some [.sc (.string xn), x0, x1, x2, x3] := by rw [r2, hz, if_pos (by omega), hM, show ((k : Int)).toNat = k by omega, rF_get hxe, hxx]
     have hz1 : qa .i64 (qb z 1) = ((k + 1 : Nat) : Int) := by rw [e1, e2, hz, IntWalk.i64_in _ (by omega)]; omega
     have hmu : L.length - (qa .i64 (qb z 1)).toNat < L.length - z.toNat := by rw [hz1, hz]; omega
     have hnew : vd M z [.sc (.string xn), v0, v1, v2, v3] = rF ((L.take (k + 1)).map cfS ++ L.drop (k + 1)) := by
      rw [m4, ← hset, hM, hz, show ((k : Int)).toNat = k by omega]
      unfold rF
      rw [List.map_set]
      show _ = List.set _ k (.sc (.string xn) :: cT (canonS xt))
      rw [hvv]
     rw [hlt]
     cbv
     repeat (first | (with_reducible apply next_at hA; cbv) | (rw [gx]; cbv) | (refine call_at hA _ hspx rfl ?_; cbv))
     try cbv
     repeat (first | (with_reducible apply next_at hA; cbv) | (rw [gx]; cbv) | (refine call_at hA _ hspx rfl ?_; cbv))
     try simp (maxSteps := 4000000) only [nc] at *
     refine ⟨(qa .i64 (qb z 1), vd M z [.sc (.string xn), v0, v1, v2, v3]), ⟨k + 1, hz1, h9, hnew⟩, hmu, ?_⟩
     cbv
    ·rw [decide_eq_false h9] at hlt
     have hM2 : M = rF (L.map cfS) := by rw [hM, List.take_of_length_le (by omega), List.drop_of_length_le (by omega), List.append_nil]
     rw [← hM2] at hJ
     rw [hlt]
     cbv
     refine frz_at hA [2] ?_
     cbv
     repeat (first | (with_reducible apply next_at hA; cbv) | (refine call_at hA _ hJ rfl ?_; cbv))
  ·have hcn := canon_node (t := t) (by rw [← ht]; exact hop)
   rw [hks, show t.op = op by rw [← ht]; rfl, show t.name = nm by rw [← ht]; rfl, show t.n = n by rw [← ht]; rfl] at hcn
   have hih : ∀ x ∈ ks, Spec 51 [.ag (cT x)] [.ag (cT (canonS x))] := fun x hx => by
    have h2 := hkl.2 x hx
    exact ih x (by omega) (by omega) fun y hy => hsp y (by rw [parts_kids, hks]; exact List.mem_cons_of_mem _ (List.mem_flatMap.2 ⟨x, hx, hy⟩))
   rw [hcn, cT, hc]
   obtain ⟨K, hK⟩ : ∃ K, K = rT ks := ⟨_, rfl⟩
   obtain ⟨Q, hQ⟩ : ∃ Q, Q = rT (ks.map canonS) := ⟨_, rfl⟩
   rw [← hK, ← hQ]
   refine spec_of Tryz.func51 rfl (by kernel_rfl) (by kernel_rfl) (by kernel_rfl) fun qa qb qc qd qe qf qg qh qi qj qk ql qm qo qp qq qs qt qu qv qw qx qy qz va vc vd ve vf vg vh vj vk vl vm vn vo vp vq vr vt vu hA => ?_
   cbv
   repeat ((with_reducible apply next_at hA); cbv)
   obtain ⟨e1, e2, e3, e4, e5, e6, e7, e8, e9⟩ := ar_at hA
   obtain ⟨r1, r2, r3, r4⟩ := row_at hA
   have h11 : qj op 11 = decide (op = 11) := e9 _ _
   rw [decide_eq_false hop] at h11
   rw [h11]
   cbv
   repeat (first | (refine own_at hA 6 25 true rfl ?_; cbv) | (with_reducible apply next_at hA; cbv))
   refine loop_at hA (γ := Int × List (List D)) (fun x => [(39, vi .i64 x.1), (6, .own 2)]) (fun x => [(2, .row true 25 x.2)]) (fun x => ∃ k : Nat, x.1 = (k : Int) ∧ k ≤ ks.length ∧ x.2 = rT ((ks.map canonS).take k)) (fun x => ks.length - x.1.toNat) (0, []) ?_ ?_ ?_
   ·exact ⟨0, rfl, Nat.zero_le _, rfl⟩
   ·cbv
   ·intro x hinv
    obtain ⟨z, M⟩ := x
    cbv
    repeat ((with_reducible apply next_at hA); cbv)
    try simp (maxSteps := 4000000) only [nc] at *
    obtain ⟨k, hz, hk, hM⟩ := hinv
    have hll : qy K = ((ks.length : Nat) : Int) := by rw [r1, hK, rT_len]
    have hlt : qh z (qy K) = decide (k < ks.length) := by rw [e7, hll, hz]; exact decide_eq_decide.2 (by omega)
    by_cases h9 : k < ks.length
    ·rw [decide_eq_true h9] at hlt
     obtain ⟨x, hx⟩ : ∃ x, ks[k]? = some x := ⟨_, List.getElem?_eq_getElem h9⟩
     have hspx := hih x (List.mem_of_getElem? hx)
     have hx2 : (ks.map canonS)[k]? = some (canonS x) := by rw [List.getElem?_map, hx]; rfl
     have hsn := rT_snoc hx2
     obtain ⟨x0, x1, x2, x3, hxx⟩ := cT_four x
     obtain ⟨v0, v1, v2, v3, hvv⟩ := cT_four (canonS x)
     rw [hxx, hvv] at hspx
     rw [hvv] at hsn
     have gx : qz K z = some [x0, x1, x2, x3] := by rw [r2, hz, if_pos (by omega), hK, show ((k : Int)).toNat = k by omega, rT_get hx, hxx]
     have hz1 : qa .i64 (qb z 1) = ((k + 1 : Nat) : Int) := by rw [e1, e2, hz, IntWalk.i64_in _ (by omega)]; omega
     have hmu : ks.length - (qa .i64 (qb z 1)).toNat < ks.length - z.toNat := by rw [hz1, hz]; omega
     have hnew : vc M [[v0, v1, v2, v3]] = rT ((ks.map canonS).take (k + 1)) := by rw [r4, hsn, hM]
     have hMl : M.length ≤ 1048576 := by rw [hM, rT_len, List.length_take]; omega
     rw [hlt]
     cbv
     repeat (first | (with_reducible apply next_at hA; cbv) | (rw [gx]; cbv) | (refine calm_at hA _ hspx ?_; cbv) | (refine call_at hA _ hspx rfl ?_; cbv) | (refine lit_at hA true ?_; cbv) | (refine room_at hA (by simp only [r4, List.length_append, List.length_cons, List.length_nil]; omega) ?_; cbv))
     try cbv
     repeat (first | (with_reducible apply next_at hA; cbv) | (rw [gx]; cbv) | (refine calm_at hA _ hspx ?_; cbv) | (refine call_at hA _ hspx rfl ?_; cbv) | (refine lit_at hA true ?_; cbv) | (refine room_at hA (by simp only [r4, List.length_append, List.length_cons, List.length_nil]; omega) ?_; cbv))
     try simp (maxSteps := 4000000) only [nc] at *
     refine ⟨(qa .i64 (qb z 1), vc M [[v0, v1, v2, v3]]), ⟨k + 1, hz1, h9, hnew⟩, hmu, ?_⟩
     cbv
    ·rw [decide_eq_false h9] at hlt
     have hM2 : M = Q := by rw [hM, hQ, List.take_of_length_le (by rw [List.length_map]; omega)]
     rw [hlt]
     cbv
     repeat ((with_reducible apply next_at hA); cbv)
     exact ⟨by rw [hM2], trivial⟩
end Go.Proofs.YtahpnackkmbmgaaGreatDoor.Vm
end
section
namespace Go.Proofs.YtahpnackkmbmgaaGreatDoor.Vm
open Go.RowKit
set_option maxRecDepth 100000
set_option maxHeartbeats 4000000
theorem asks_none {op : Int} (h : asks op = none) : kidsS op = none := by
 unfold asks at h
 unfold kidsS
 repeat' split at h
 all_goals first | (cases h; done) | skip
 rename_i h1 h2 h3 h4 h5 h6 h7
 rw [if_neg (by omega), if_neg h2, if_neg h3, if_neg h7]
theorem asks_head {op : Int} {kn : Int} {a b : Bool} (h : asks op = some (kn, a, b)) (nm : ByteArray) (n : Int) (ks : List Ty) (row : Bool) :
  headB wordB (.mk op nm n ks) (sI row) = hd2 row (decide (8 ≤ op)) (decide ((ks.length : Int) = kn)) a (wordB nm) (decide (nm.toList = [])) (decide (n < 0)) b (n == 0) ∧ (∃ kk, kidsS op = some kk ∧ (kk.length : Int) = kn ∧ ∀ (k : Nat) (c : Int), kk[k]? = some c → sI (orB (op == 5) (orB (op == 6) (nmF (op == 11) (k == 1) false))) = c) ∧
   (b = true ∧ (vbl (.mk op nm n ks) = some (n, decide (op = 10))) ∧ (op = 10 ∨ op = 7) ∨ b = false ∧ vbl (.mk op nm n ks) = none) := by
 have key : ∀ (i : Int) (kk : List Int), op = i → kidsS i = some kk → (kk.length : Int) = kn → (∀ (k : Nat) (c : Int), kk[k]? = some c → sI (orB (i == 5) (orB (i == 6) (nmF (i == 11) (k == 1) false))) = c) → a = (i == 11) → b = ((i == 7) || (i == 10)) →
   headB wordB (.mk op nm n ks) (sI row) = hd2 row (decide (8 ≤ op)) (decide ((ks.length : Int) = kn)) a (wordB nm) (decide (nm.toList = [])) (decide (n < 0)) b (n == 0) ∧ (∃ kk, kidsS op = some kk ∧ (kk.length : Int) = kn ∧ ∀ (k : Nat) (c : Int), kk[k]? = some c → sI (orB (op == 5) (orB (op == 6) (nmF (op == 11) (k == 1) false))) = c) := by
  rintro i kk rfl h1 h2 h3 rfl rfl
  refine ⟨?_, kk, h1, h2, h3⟩
  rw [head_hd, h1]
  have hk := kidsTx_is h1
  have e1 : decide (ks.length = (kidsTx op).size) = decide ((ks.length : Int) = kn) := by
   have : kk.length = (kidsTx op).size := by rw [hk, List.length_map, btl_size]
   exact decide_eq_decide.2 (by omega)
  have e2 : (decide (8 ≤ op) == (sI row == 114)) = (row == decide (8 ≤ op)) := by cases row <;> cases decide (8 ≤ op) <;> rfl
  unfold hdF hd2
  rw [e1, e2]
  simp only [Option.isSome_some, Bool.true_and, Bool.or_assoc]
  cases (op == 11) <;> rfl
 have two : ∀ {l : List Int} {P : Nat → Int → Prop} {x y : Int}, l = [x, y] → P 0 x → P 1 y → ∀ (k : Nat) (c : Int), l[k]? = some c → P k c := by
  rintro l P x y rfl h0 h1 k c h
  match k, h with
  | 0, h => cases h; exact h0
  | 1, h => cases h; exact h1
  | k + 2, h => simp at h
 have one : ∀ {l : List Int} {P : Nat → Int → Prop} {x : Int}, l = [x] → P 0 x → ∀ (k : Nat) (c : Int), l[k]? = some c → P k c := by
  rintro l P x rfl h0 k c h
  match k, h with
  | 0, h => cases h; exact h0
  | k + 1, h => simp at h
 have zero : ∀ {P : Nat → Int → Prop}, ∀ (k : Nat) (c : Int), ([] : List Int)[k]? = some c → P k c := fun k c h => by simp at h
 unfold asks at h
 repeat' split at h
 all_goals first | (cases h; done) | skip
 all_goals
  cases h
  rename_i h
  first
  | (rcases h with h | h | h <;> subst h <;> exact ⟨(key _ _ rfl rfl rfl zero rfl rfl).1, (key _ _ rfl rfl rfl zero rfl rfl).2, .inr ⟨rfl, rfl⟩⟩)
  | (rcases h with h | h <;> subst h <;> first | exact ⟨(key _ _ rfl rfl rfl zero rfl rfl).1, (key _ _ rfl rfl rfl zero rfl rfl).2, .inr ⟨rfl, rfl⟩⟩ | exact ⟨(key _ _ rfl rfl rfl (one rfl rfl) rfl rfl).1, (key _ _ rfl rfl rfl (one rfl rfl) rfl rfl).2, .inr ⟨rfl, rfl⟩⟩)
  | (subst h; exact ⟨(key _ _ rfl rfl rfl zero rfl rfl).1, (key _ _ rfl rfl rfl zero rfl rfl).2, .inl ⟨rfl, rfl, by decide⟩⟩)
  | (subst h; exact ⟨(key _ _ rfl rfl rfl (two rfl rfl rfl) rfl rfl).1, (key _ _ rfl rfl rfl (two rfl rfl rfl) rfl rfl).2, .inr ⟨rfl, rfl⟩⟩)
theorem right_s : ∀ (t : Ty), t.parts.length ≤ 1048576 → (∀ x ∈ t.parts, x.name.size ≤ 1048576) → ∀ (row : Bool) (es : List (R × R)) (s : Int → Option Bool), SAt es s →
  SpecO 44 [.mp 0, .ag (ofD (cT t)), vb row] [.mp 3 es] (RightQ (shapeB wordB t (sI row) && (meetL t.parts s).isSome) (meetL t.parts s)) := by
 intro t
 induction t using Ty.ind with
 | h t ih =>
  intro hN hnm row es s hes
  have hkl := kids_le t
  have hself := hnm t (by rw [parts_eq]; exact List.mem_cons_self ..)
  have hkn : ∀ x ∈ t.kids, ∀ y ∈ x.parts, y.name.size ≤ 1048576 := fun x hx y hy => hnm y (by rw [parts_kids]; exact List.mem_cons_of_mem _ (List.mem_flatMap.2 ⟨x, hx, hy⟩))
  have ih2 : ∀ x ∈ t.kids, ∀ (row : Bool) (es : List (R × R)) (s : Int → Option Bool), SAt es s → SpecO 44 [.mp 0, .ag (ofD (cT x)), vb row] [.mp 3 es] (RightQ (shapeB wordB x (sI row) && (meetL x.parts s).isSome) (meetL x.parts s)) := fun x hx => ih x hx (by have := hkl.2 x hx; omega) (hkn x hx)
  have hsh := shape_eq wordB t (sI row)
  have hpm : meetL t.parts s = match vbl t with | none => meetL (partsL t.kids) s | some p => if s p.1 = some (!p.2) then none else meetL (partsL t.kids) (updS s p.1 p.2) := by
   rw [parts_eq, meetL]
   cases vbl t <;> rfl
  obtain ⟨op, nm, n, ks⟩ := t
  simp only [Ty.kids, Ty.op] at hkl ih2 hsh hpm
  have hself : nm.size ≤ 1048576 := hself
  generalize hbb : (shapeB wordB (.mk op nm n ks) (sI row) && (meetL (Ty.mk op nm n ks).parts s).isSome) = b
  generalize hFF : meetL (Ty.mk op nm n ks).parts s = F at *
  rw [cT]
  have hb : Tryz.f44.body = some (.seq (seqL2 (Tryz.f44.body.getD .skip)) (.seq (seqL2 (seqR2 (Tryz.f44.body.getD .skip))) (.seq (seqL2 (seqR2 (seqR2 (Tryz.f44.body.getD .skip)))) (.seq (seqL2 (seqR2 (seqR2 (seqR2 (Tryz.f44.body.getD .skip))))) (seqR2 (seqR2 (seqR2 (seqR2 (Tryz.f44.body.getD .skip))))))))) := by kernel_rfl
  refine speco_of Tryz.func44 hb (by kernel_rfl) (by kernel_rfl) (by kernel_rfl) fun qa qb qc qd qe qf qg qh qi qj qk ql qm qo qp qq qs qt qu qv qw qx qy qz va vc vd ve vf vg vh vj vk vl vm vn vo vp vq vr vt vu hA => ?_
  refine pre_right op nm n (rT ks) row es _ _ ?_ ?_ qa qb qc qd qe qf qg qh qi qj qk ql qm qo qp qq qs qt qu qv qw qx qy qz va vc vd ve vf vg vh vj vk vl vm vn vo vp vq vr vt vu hA
  ·intro kn a c hask j12 j13 j14 j15 j16 j17 j18 j19 j20 j21 j22 j23 j24 j25 j26 j27 j28 j29 j30 j31
   obtain ⟨hh, ⟨kk, hkk1, hkk2, hkk3⟩, hv⟩ := asks_head hask nm n ks row
   rw [hkk1] at hsh
   have hsh : shapeB wordB (.mk op nm n ks) (sI row) = (headB wordB (.mk op nm n ks) (sI row) && shapesB wordB ks kk) := hsh
   rw [hh] at hsh
   have hbody := rest_right op nm n ks row es s kn a c j12 j13 j14 j15 j16 j17 j18 j19 j20 j21 j22 j23 j24 j25 j26 j27 j28 j29 j30 j31 kk b F hes hself (by omega) (fun h => by omega) hkk3 (fun h => by rw [← hbb, hsh, h, Bool.true_and]) (fun h => by rw [← hbb, hsh, h, Bool.false_and, Bool.false_and]) (fun h => ?_) ih2 qa qb qc qd qe qf qg qh qi qj qk ql qm qo qp qq qs qt qu qv qw qx qy qz va vc vd ve vf vg vh vj vk vl vm vn vo vp vq vr vt vu hA
   ·rw [hA] at hbody ⊢
    exact hbody
   ·rw [hpm]
    rcases hv with ⟨rfl, hv, ho⟩ | ⟨rfl, hv⟩
    ·rw [hv]
     have hr : decide (op = 10) = row := by
      unfold hd2 at h
      have h1 : (row == decide (8 ≤ op)) = true := by revert h; cases (row == decide (8 ≤ op)) <;> simp
      rw [beq_iff_eq] at h1
      rw [h1]
      rcases ho with rfl | rfl <;> rfl
     rw [hr]
     rfl
    ·rw [hv]
     rfl
  ·intro hn st ho h6
   have hk := asks_none hn
   have hbf : b = false := by
    rw [← hbb, hsh]
    unfold headB
    rw [show (Ty.mk op nm n ks).op = op from rfl, hk]
    rfl
   show vp 1 (RightQ b F) [getN st.t 6] st
   rw [h6]
   exact keep_is hA [0] ⟨rfl, rfl, rfl, rfl, by rw [ho]; rfl, rfl, rfl, rfl⟩ ⟨es, rfl, hes.1, by rw [hbf], fun h => by rw [hbf] at h; cases h⟩
theorem right_is (t : Ty) (row : Bool) : (shapeB wordB t (sI row) && (meetL t.parts fun _ => none).isSome) = rightB t (sI row) := by rw [once_meet]; rfl
theorem PRight_s (t : Ty) (hN : t.parts.length ≤ 1048576) (hnm : ∀ x ∈ t.parts, x.name.size ≤ 1048576) : Spec 24 [.ag (cT t)] [.one (.sc (.bool (rightB t 116)))] := by
 have h1 := right_s t hN hnm false [] (fun _ => none) SAt.nil
 rw [right_is] at h1
 have e : rightB t (sI false) = rightB t 116 := rfl
 rw [e] at h1
 generalize rightB t 116 = b at *
 generalize meetL t.parts (fun _ => none) = F at *
 obtain ⟨c0, c1, c2, c3, hc⟩ : ∃ c0 c1 c2 c3, cT t = [c0, c1, c2, c3] := by obtain ⟨op, nm, n, ks⟩ := t; exact ⟨_, _, _, _, by rw [cT]⟩
 rw [hc] at h1 ⊢
 refine spec_of Tryz.func24 rfl (by kernel_rfl) (by kernel_rfl) (by kernel_rfl) fun qa qb qc qd qe qf qg qh qi qj qk ql qm qo qp qq qs qt qu qv qw qx qy qz va vc vd ve vf vg vh vj vk vl vm vn vo vp vq vr vt vu hA => ?_
 cbv
 repeat ((with_reducible apply next_at hA); cbv)
 refine callo_at hA [1] h1 ⟨rfl, rfl, rfl, rfl, rfl, rfl, rfl⟩ ?_
 rintro res os2 ⟨es', rfl, hk', rfl, hm'⟩
 cbv
 repeat ((with_reducible apply next_at hA); cbv)
theorem PRow_s (t : Ty) (hN : t.parts.length ≤ 1048576) (hnm : ∀ x ∈ t.parts, x.name.size ≤ 1048576) : Spec 73 [.ag (cT t)] [.one (.sc (.bool (rightB t 114)))] := by
 have h1 := right_s t hN hnm true [] (fun _ => none) SAt.nil
 rw [right_is] at h1
 have e : rightB t (sI true) = rightB t 114 := rfl
 rw [e] at h1
 generalize rightB t 114 = b at *
 generalize meetL t.parts (fun _ => none) = F at *
 obtain ⟨c0, c1, c2, c3, hc⟩ : ∃ c0 c1 c2 c3, cT t = [c0, c1, c2, c3] := by obtain ⟨op, nm, n, ks⟩ := t; exact ⟨_, _, _, _, by rw [cT]⟩
 rw [hc] at h1 ⊢
 refine spec_of Tryz.func73 rfl (by kernel_rfl) (by kernel_rfl) (by kernel_rfl) fun qa qb qc qd qe qf qg qh qi qj qk ql qm qo qp qq qs qt qu qv qw qx qy qz va vc vd ve vf vg vh vj vk vl vm vn vo vp vq vr vt vu hA => ?_
 cbv
 repeat ((with_reducible apply next_at hA); cbv)
 refine callo_at hA [1] h1 ⟨rfl, rfl, rfl, rfl, rfl, rfl, rfl⟩ ?_
 rintro res os2 ⟨es', rfl, hk', rfl, hm'⟩
 cbv
 repeat ((with_reducible apply next_at hA); cbv)
theorem either_s (t : Ty) (hN : t.parts.length ≤ 1048576) (hnm : ∀ x ∈ t.parts, x.name.size ≤ 1048576) : Spec 50 [.ag (cT t)] [.one (.sc (.bool (rightB t 116 || rightB t 114)))] := by
 have h1 := PRight_s t hN hnm
 have h2 := PRow_s t hN hnm
 generalize rightB t 116 = q1 at *
 generalize rightB t 114 = q2 at *
 obtain ⟨c0, c1, c2, c3, hc⟩ : ∃ c0 c1 c2 c3, cT t = [c0, c1, c2, c3] := by obtain ⟨op, nm, n, ks⟩ := t; exact ⟨_, _, _, _, by rw [cT]⟩
 rw [hc] at h1 h2 ⊢
 refine spec_of Tryz.func50 rfl (by kernel_rfl) (by kernel_rfl) (by kernel_rfl) fun qa qb qc qd qe qf qg qh qi qj qk ql qm qo qp qq qs qt qu qv qw qx qy qz va vc vd ve vf vg vh vj vk vl vm vn vo vp vq vr vt vu hA => ?_
 cbv
 repeat ((with_reducible apply next_at hA); cbv)
 refine call_at hA _ h1 ?_ ?_
 ·rfl
 cases q1
 ·cbv
  repeat ((with_reducible apply next_at hA); cbv)
  refine call_at hA _ h2 ?_ ?_
  ·rfl
  cbv
  repeat ((with_reducible apply next_at hA); cbv)
 ·cbv
  repeat ((with_reducible apply next_at hA); cbv)
end Go.Proofs.YtahpnackkmbmgaaGreatDoor.Vm
end
section
namespace Go.Proofs.YtahpnackkmbmgaaGreatDoor.Vm
open Go.RowKit
set_option maxRecDepth 100000
set_option maxHeartbeats 4000000
def eitherT (t : Ty) : Bool := rightB t 116 || rightB t 114
def Sm (t : Ty) : Prop := t.parts.length ≤ 1048576 ∧ ∀ x ∈ t.parts, x.name.size ≤ 1048576
theorem right_shape {t : Ty} {s : Int} (h : rightB t s = true) : shapeB wordB t s = true ∧ onceB t = true := by
 unfold rightB at h
 rwa [Bool.and_eq_true] at h
theorem either_shape {t : Ty} (h : eitherT t = true) : ∃ s, shapeB wordB t s = true := by
 unfold eitherT at h
 rw [Bool.or_eq_true] at h
 rcases h with h | h
 ·exact ⟨_, (right_shape h).1⟩
 ·exact ⟨_, (right_shape h).1⟩
theorem either_spine {t : Ty} (h : eitherT t = true) : SpineAll t := by
 obtain ⟨s, h⟩ := either_shape h
 exact shape_spineAll h
theorem Spec.mono {f : Nat} {rs q q' : List R} (h : Spec f rs q) (hq : ∀ I w v, AtRes I w v q → AtRes I w v q') : Spec f rs q' :=
 ⟨h.1, fun I w args h1 h2 => (h.2 I w args h1 h2).mono fun e w' ⟨v, e1, e2, e3⟩ => ⟨v, e1, hq _ _ _ e2, e3⟩⟩
theorem AtD.empty {I : Nat → Nat → Prop} {w : World} {v : Value} {n : Nat} (m : Nat) (h : AtD I w v (.sl n [])) : AtD I w v (.sl m []) := by
 generalize hr : ([] : List (List D)) = rows at h
 cases h with
 | nil A cap sz => exact .nil _ _ _
 | sl b off cap sz rows us => subst hr; exact .nil _ _ _
theorem AtDs.last {I : Nat → Nat → Prop} {w : World} {us : List Value} {xs : List D} {x y : D} (h : AtDs I w us (xs ++ [x])) (hx : ∀ u, AtD I w u x → AtD I w u y) : AtDs I w us (xs ++ [y]) := by
 refine ⟨by have := h.1; simpa using this, fun i u d hu hd => ?_⟩
 rcases Nat.lt_or_ge i xs.length with hlt | hge
 ·rw [List.getElem?_append_left hlt] at hd
  exact h.2 i u d hu (by rw [List.getElem?_append_left hlt]; exact hd)
 ·rw [List.getElem?_append_right hge] at hd
  obtain e : i - xs.length = 0 := by
   have := (List.getElem?_eq_some_iff.1 hd).1
   simp at this
   omega
  rw [e] at hd
  simp at hd
  subst hd
  exact hx u (h.2 i u x hu (by rw [List.getElem?_append_right hge, e]; rfl))
theorem Spec.sl0 {f : Nat} {rs : List R} {a b c : D} {n : Nat} (m : Nat) (h : Spec f rs [.ag [a, b, c, .sl n []]]) : Spec f rs [.ag [a, b, c, .sl m []]] := h.mono fun I w v hv => by
 obtain ⟨us, rfl, h2⟩ := hv
 exact ⟨us, rfl, AtDs.last (xs := [a, b, c]) h2 fun u hu => hu.empty m⟩
theorem Canon_s (t : Ty) (ht : Sm t) : Spec 26 [.ag (cT t)] [.ag (cT (if eitherT t = true then canonS t else zeroTy))] := by
 have h1 := either_s t ht.1 ht.2
 have hb : (rightB t 116 || rightB t 114) = eitherT t := rfl
 rw [hb] at h1
 by_cases he : eitherT t = true
 ·rw [if_pos he]
  have h2 := canonP_s _ t (Nat.le_refl _) ht.1 (either_spine he)
  rw [he] at h1
  obtain ⟨a0, a1, a2, a3, ha⟩ := cT_four t
  obtain ⟨c0, c1, c2, c3, hc⟩ := cT_four (canonS t)
  rw [ha] at h1 h2
  rw [hc] at h2
  rw [ha, hc]
  refine spec_of Tryz.func26 rfl (by kernel_rfl) (by kernel_rfl) (by kernel_rfl) fun qa qb qc qd qe qf qg qh qi qj qk ql qm qo qp qq qs qt qu qv qw qx qy qz va vc vd ve vf vg vh vj vk vl vm vn vo vp vq vr vt vu hA => ?_
  cbv
  repeat (first | (with_reducible apply next_at hA; cbv) | (refine call_at hA _ h1 rfl ?_; cbv) | (refine call_at hA _ h2 rfl ?_; cbv))
  try cbv
  repeat (first | (with_reducible apply next_at hA; cbv) | (refine call_at hA _ h1 rfl ?_; cbv) | (refine call_at hA _ h2 rfl ?_; cbv))
  try simp (maxSteps := 4000000) only [nc] at *
 ·have he : eitherT t = false := by simpa using he
  rw [he, if_neg (by simp)]
  rw [he] at h1
  obtain ⟨a0, a1, a2, a3, ha⟩ := cT_four t
  rw [ha] at h1 ⊢
  unfold zeroTy
  rw [cT, rT]
  refine Spec.sl0 (n := 0) 4 ?_
  refine spec_of Tryz.func26 rfl (by kernel_rfl) (by kernel_rfl) (by kernel_rfl) fun qa qb qc qd qe qf qg qh qi qj qk ql qm qo qp qq qs qt qu qv qw qx qy qz va vc vd ve vf vg vh vj vk vl vm vn vo vp vq vr vt vu hA => ?_
  cbv
  repeat (first | (with_reducible apply next_at hA; cbv) | (refine call_at hA _ h1 rfl ?_; cbv))
  try cbv
  repeat (first | (with_reducible apply next_at hA; cbv) | (refine call_at hA _ h1 rfl ?_; cbv))
  try simp (maxSteps := 4000000) only [nc] at *
end Go.Proofs.YtahpnackkmbmgaaGreatDoor.Vm
end
section
namespace Go.Proofs.YtahpnackkmbmgaaGreatDoor.Vm
open Go.RowKit
theorem shape_part {W : ByteArray → Bool} {t : Ty} : ∀ {s : Int}, shapeB W t s = true → ∀ x ∈ t.parts, ∃ c, shapeB W x c = true := by
 induction t using Ty.ind with
 | h t ih =>
  intro s h x hx
  rw [parts_kids] at hx
  rcases List.mem_cons.1 hx with rfl | hx
  ·exact ⟨s, h⟩
  ·obtain ⟨y, hy, hxy⟩ := List.mem_flatMap.1 hx
   obtain ⟨k, hk, h1, h2, h3, h4, h5, h6⟩ := shape_parts h
   obtain ⟨c, hc⟩ := shapes_mem W _ _ h6 y hy
   exact ih y hy hc x hxy
end Go.Proofs.YtahpnackkmbmgaaGreatDoor.Vm
end
section
namespace Go.Proofs.YtahpnackkmbmgaaGreatDoor.Vm
open Go.RowKit
end Go.Proofs.YtahpnackkmbmgaaGreatDoor.Vm
end
section
namespace Go.Proofs.YtahpnackkmbmgaaGreatDoor.Vm
open Go.RowKit
set_option maxRecDepth 100000
set_option maxHeartbeats 4000000
end Go.Proofs.YtahpnackkmbmgaaGreatDoor.Vm
end
section
namespace Go.Proofs.YtahpnackkmbmgaaGreatDoor.Vm
open Go.RowKit
set_option maxRecDepth 100000
set_option maxHeartbeats 4000000
end Go.Proofs.YtahpnackkmbmgaaGreatDoor.Vm
end
section
namespace Go.Proofs.YtahpnackkmbmgaaGreatDoor.Vm
open Go.RowKit
set_option maxRecDepth 100000
set_option maxHeartbeats 4000000
def metS (acc : List Int) : Int → Option Bool := fun n => if n ∈ acc then some true else none
theorem SAt.add {es : List (R × R)} {acc : List Int} (h : SAt es (metS acc)) (n : Int) : SAt (mset es (ik n) (.one (.sc (.bool true)))) (metS (acc ++ [n])) := by
 have h2 := h.set n true
 have e : updS (metS acc) n true = metS (acc ++ [n]) := by
  funext x
  unfold updS metS
  by_cases hx : x = n
  ·subst hx; simp
  ·simp [hx]
 rw [e] at h2
 exact h2
end Go.Proofs.YtahpnackkmbmgaaGreatDoor.Vm
end
section
namespace Go.Proofs.YtahpnackkmbmgaaGreatDoor.Vm
open Go.RowKit
set_option maxRecDepth 100000
set_option maxHeartbeats 4000000
theorem once_sub {t u : Ty} (h : onceB t = true) (hu : ∀ x ∈ u.parts, x ∈ t.parts ∨ x.op = 11) : onceB u = true := by
 refine once_yes fun x hx y hy => ?_
 cases hc : clashB x y with
 | false => rfl
 | true =>
  have hc' := hc
  unfold clashB at hc'
  simp only [Bool.and_eq_true, beq_iff_eq] at hc'
  have h1 := (hu x hx).resolve_right (by omega)
  have h2 := (hu y hy).resolve_right (by omega)
  rw [once_no h1 h2 hc] at h
  cases h
def Ok1 (s : Int) (t : Ty) : Prop := rightB t s = true ∧ Cn t ∧ t.parts.length ≤ 1048576
theorem Ok1.shape {t : Ty} {s : Int} (h : Ok1 s t) : shapeB wordB t s = true := (right_shape h.1).1
theorem Ok1.part {t x : Ty} {s c : Int} (h : Ok1 s t) (hx : x ∈ t.parts) (hc : Cn x) (hs : shapeB wordB x c = true) : Ok1 c x := by
 refine ⟨?_, hc, Nat.le_trans (part_len hx) h.2.2⟩
 unfold rightB
 rw [hs, once_sub (right_shape h.1).2 fun y hy => .inl (parts_trans hy hx)]
 rfl
theorem kid_part {t x : Ty} (h : x ∈ t.kids) : x ∈ t.parts := by
 rw [parts_kids]
 exact List.mem_cons_of_mem _ (List.mem_flatMap.2 ⟨x, h, by rw [parts_eq]; exact List.mem_cons_self ..⟩)
theorem Ok1.field {t : Ty} (h : Ok1 114 t) {f : ByteArray × Ty} (hf : f ∈ fieldsS t) : Ok1 116 f.2 :=
 h.part (fields_mem _ t (Nat.le_refl _) f hf) ((cn_fields h.shape h.2.1).2 f hf) ((fields_shape h.shape).1 f hf).2
theorem rowS_part {tl : Ty} : ∀ {fs : List (ByteArray × Ty)} {x : Ty}, x ∈ (rowS fs tl).parts → x.op = 11 ∨ (∃ f ∈ fs, x ∈ f.2.parts) ∨ x ∈ tl.parts
 | [], x, h => .inr (.inr h)
 | f :: fs, x, h => by
  rw [rowS_op_ne, parts_kids] at h
  rcases List.mem_cons.1 h with rfl | h
  ·exact .inl rfl
  ·simp only [Ty.kids, List.flatMap_cons, List.flatMap_nil, List.append_nil, List.mem_append] at h
   rcases h with h | h
   ·exact .inr (.inl ⟨f, List.mem_cons_self .., h⟩)
   ·rcases rowS_part h with h | ⟨g, hg, h⟩ | h
    ·exact .inl h
    ·exact .inr (.inl ⟨g, List.mem_cons_of_mem _ hg, h⟩)
    ·exact .inr (.inr h)
def CB (c : List (Int × Ty)) : Prop := ∀ p ∈ c, Ok1 116 p.2 ∨ Ok1 114 p.2
end Go.Proofs.YtahpnackkmbmgaaGreatDoor.Vm
end
section
namespace Go.Proofs.YtahpnackkmbmgaaGreatDoor.Vm
open Go.RowKit
set_option maxRecDepth 100000
set_option maxHeartbeats 8000000
end Go.Proofs.YtahpnackkmbmgaaGreatDoor.Vm
end
section
namespace Go.Proofs.YtahpnackkmbmgaaGreatDoor.Vm
open Go.RowKit
set_option maxRecDepth 100000
set_option maxHeartbeats 8000000
end Go.Proofs.YtahpnackkmbmgaaGreatDoor.Vm
end
section
namespace Go.Proofs.YtahpnackkmbmgaaGreatDoor.Vm
open Go.RowKit
set_option maxRecDepth 100000
set_option maxHeartbeats 8000000
theorem canon_vars {W : ByteArray → Bool} : ∀ (n : Nat) (t : Ty) (s : Int), t.parts.length ≤ n → shapeB W t s = true → ∀ x ∈ (canonS t).parts, isVar x = true → x ∈ t.parts := by
 intro n
 induction n with
 | zero => intro t s h; have := parts_pos t; omega
 | succ n ih =>
  intro t s hn h x hx hv
  have hself : t ∈ t.parts := by rw [parts_eq]; exact List.mem_cons_self ..
  by_cases h11 : t.op = 11
  ·obtain ⟨rfl, -⟩ := shape_row h h11
   have hsp := (shape_spineAll h).self
   rw [canon_row_is h] at hx
   rcases rowS_part hx with h1 | ⟨f, hf, h1⟩ | h1
   ·rw [isVar_iff] at hv; omega
   ·obtain ⟨f0, hf0, rfl⟩ := List.mem_map.1 hf
    have hm := sortS_mem hf0
    have h2 := fields_less _ t (Nat.le_refl _) f0 hm
    exact parts_trans (ih f0.2 116 (by omega) ((fields_shape h).1 f0 hm).2 x h1 hv) (fields_mem _ t (Nat.le_refl _) f0 hm)
   ·exact parts_trans h1 (tail_mem hsp)
  ·rw [canon_node h11, parts_kids] at hx
   rcases List.mem_cons.1 hx with rfl | hx
   ·have hv' : t.op = 7 ∨ t.op = 10 := by rw [isVar_iff] at hv; exact hv
    rw [var_kids h hv', List.map_nil]
    rw [show Ty.mk t.op t.name t.n [] = t by conv => rhs; rw [Ty.eta t, var_kids h hv']]
    exact hself
   ·simp only [Ty.kids] at hx
    obtain ⟨y, hy, hxy⟩ := List.mem_flatMap.1 hx
    obtain ⟨z, hz, rfl⟩ := List.mem_map.1 hy
    obtain ⟨k, hk, h1, h2, h3, h4, h5, h6⟩ := shape_parts h
    obtain ⟨c, hc⟩ := shapes_mem W _ _ h6 z hz
    have := (kids_le t).2 z hz
    exact parts_trans (ih z c (by omega) hc x hxy hv) (kid_part hz)
def binds (g : Ty) (c : List (Int × Ty)) : List (Int × Ty) := (varsS g).filterMap fun n => c.find? fun p => p.1 == n
end Go.Proofs.YtahpnackkmbmgaaGreatDoor.Vm
end
section
namespace Go.Proofs.YtahpnackkmbmgaaGreatDoor.Vm
open Go.RowKit Go.ChangeShapes Go.WideShapes Go.Deep
inductive Deep (P : Program) : Nat → List D → Nat → Prop
 | bool {t : Nat} (b : Bool) (h : P.underlying t = some .bool) : Deep P t [.sc (.bool b)] 1
 | int {t : Nat} {k : IntKind} (n : Int) (h : P.underlying t = some (.int k)) (hw : (Lit.int k n).wf = true) : Deep P t [.sc (.int k n)] 1
 | str {t : Nat} (s : ByteArray) (h : P.underlying t = some .string) (hs : s.size ≤ maxLen) : Deep P t [.sc (.string s)] (s.size + 1)
 | sl {t e : Nat} (rows : List (List D)) (ms : List Nat) (h : P.underlying t = some (.slice e)) (hl : ms.length = rows.length) (hb : rows.length ≤ maxLen)
   (hr : ∀ (i : Nat) (r : List D) (m : Nat), rows[i]? = some r → ms[i]? = some m → Deep P e r m) : Deep P t [.sl (P.cellsOf e) rows] (ms.sum + 1)
 | st {t : Nat} {fs : Array Field} (dss : List (List D)) (ms : List Nat) (h : P.underlying t = some (.struct fs)) (h1 : dss.length = fs.size) (h2 : ms.length = fs.size)
   (hf : ∀ (i : Nat) (f : Field) (ds : List D) (m : Nat), fs[i]? = some f → dss[i]? = some ds → ms[i]? = some m → Deep P f.type ds m) : Deep P t dss.flatten (ms.sum + 1)
def DeepR (P : Program) (t : Nat) (r : R) (m : Nat) : Prop := match P.underlying t, r with
 | some (.struct _), .ag xs => Deep P t xs m
 | some (.struct _), .one _ => False
 | _, .one x => Deep P t [x] m
 | _, .ag _ => False
section
variable {P : Program} {t : Nat} {ds : List D} {m : Nat}
theorem Deep.unint {k : IntKind} (h : Deep P t ds m) (hu : P.underlying t = some (.int k)) : ∃ n, ds = [.sc (.int k n)] ∧ (Lit.int k n).wf = true ∧ m = 1 := by
 cases h with
 | int n h hw => rw [hu] at h; cases h; exact ⟨n, rfl, hw, rfl⟩
 | _ => simp_all
theorem Deep.unbool (h : Deep P t ds m) (hu : P.underlying t = some .bool) : ∃ b, ds = [.sc (.bool b)] ∧ m = 1 := by
 cases h with
 | bool b h => exact ⟨b, rfl, rfl⟩
 | _ => simp_all
theorem Deep.unstr (h : Deep P t ds m) (hu : P.underlying t = some .string) : ∃ s : ByteArray, ds = [.sc (.string s)] ∧ s.size ≤ maxLen ∧ m = s.size + 1 := by
 cases h with
 | str s h hs => exact ⟨s, rfl, hs, rfl⟩
 | _ => simp_all
theorem Deep.unsl {e : Nat} (h : Deep P t ds m) (hu : P.underlying t = some (.slice e)) : ∃ (rows : List (List D)) (ms : List Nat), ds = [.sl (P.cellsOf e) rows] ∧ ms.length = rows.length ∧ rows.length ≤ maxLen ∧ m = ms.sum + 1 ∧
  ∀ (i : Nat) (r : List D) (m : Nat), rows[i]? = some r → ms[i]? = some m → Deep P e r m := by
 cases h with
 | sl rows ms h hl hb hr => rw [hu] at h; cases h; exact ⟨rows, ms, rfl, hl, hb, rfl, hr⟩
 | _ => simp_all
theorem Deep.unst {fs : Array Field} (h : Deep P t ds m) (hu : P.underlying t = some (.struct fs)) : ∃ (dss : List (List D)) (ms : List Nat), ds = dss.flatten ∧ dss.length = fs.size ∧ ms.length = fs.size ∧ m = ms.sum + 1 ∧
  ∀ (i : Nat) (f : Field) (ds : List D) (m : Nat), fs[i]? = some f → dss[i]? = some ds → ms[i]? = some m → Deep P f.type ds m := by
 cases h with
 | st dss ms h h1 h2 hf => rw [hu] at h; cases h; exact ⟨dss, ms, rfl, h1, h2, rfl, hf⟩
 | _ => simp_all
theorem DeepR.one {r : R} (h : DeepR P t r m) (hu : ∀ fs, P.underlying t ≠ some (.struct fs)) : ∃ x, r = .one x ∧ Deep P t [x] m := by
 unfold DeepR at h
 split at h
 ·exact absurd (by assumption) (hu _)
 ·exact h.elim
 ·exact ⟨_, rfl, h⟩
 ·exact h.elim
theorem DeepR.ag {r : R} {fs : Array Field} (h : DeepR P t r m) (hu : P.underlying t = some (.struct fs)) : ∃ xs, r = .ag xs ∧ Deep P t xs m := by
 unfold DeepR at h
 rw [hu] at h
 cases r with
 | one x => exact h.elim
 | ag xs => exact ⟨xs, rfl, h⟩
end
def layoutB (P : Program) : List Field → Nat → Nat → Bool
 | [], n, c => Nat.beq n c
 | f :: fs, n, c => Nat.beq f.offset n && layoutB P fs (n + P.cellsOf f.type) c
def dataOk1 (P : Program) (L : List Nat) (t : Nat) : Bool := match P.underlying t with
 | some .bool => true
 | some (.int _) => true
 | some .string => true
 | some (.slice e) => L.contains e && Nat.blt 0 (P.cellsOf e)
 | some (.struct fs) => (fs.toList.all fun f => L.contains f.type) && layoutB P fs.toList 0 (P.cellsOf t)
 | _ => false
def dataOk (P : Program) (L : List Nat) : Bool := L.all (dataOk1 P L)
theorem pick_fn {β : Type} : ∀ {n : Nat} {p : Nat → β → Prop}, (∀ i, i < n → ∃ b, p i b) → ∃ l : List β, l.length = n ∧ ∀ (i : Nat) b, l[i]? = some b → p i b
 | 0, p, h => ⟨[], rfl, fun i b hi => by simp at hi⟩
 | n + 1, p, h => by
  obtain ⟨b0, h0⟩ := h 0 (by omega)
  obtain ⟨l, hl, hp⟩ := pick_fn (n := n) (p := fun i b => p (i + 1) b) fun i hi => h (i + 1) (by omega)
  refine ⟨b0 :: l, by simp [hl], fun i b hi => ?_⟩
  cases i with
  | zero => simp at hi; subst hi; exact h0
  | succ i => exact hp i b (by simpa using hi)
theorem atDs_flat {I : Nat → Nat → Prop} {w : World} : ∀ {css : List (List Value)} {dss : List (List D)}, css.length = dss.length → (∀ (i : Nat) cs ds, css[i]? = some cs → dss[i]? = some ds → AtDs I w cs ds) → AtDs I w css.flatten dss.flatten
 | [], [], _, _ => AtDs.nil I w
 | c :: css, d :: dss, hl, h => by
  rw [List.flatten_cons, List.flatten_cons]
  exact (h 0 c d rfl rfl).append (atDs_flat (by simpa using hl) fun i cs ds h1 h2 => h (i + 1) cs ds (by simpa using h1) (by simpa using h2))
 | [], _ :: _, hl, _ => by simp at hl
 | _ :: _, [], hl, _ => by simp at hl
theorem layout_cut {P : Program} {cs : List Value} : ∀ (fs : List Field) (n c : Nat), layoutB P fs n c = true → cs.length = c → cs.drop n = (fs.map fun f => (cs.drop f.offset).take (P.cellsOf f.type)).flatten
 | [], n, c, h, hl => by
  have : n = c := Nat.eq_of_beq_eq_true h
  rw [List.drop_eq_nil_of_le (by omega)]; rfl
 | f :: fs, n, c, h, hl => by
  rw [layoutB, Bool.and_eq_true] at h
  have h1 : f.offset = n := Nat.eq_of_beq_eq_true h.1
  rw [List.map_cons, List.flatten_cons, ← layout_cut fs _ c h.2 hl, h1, ← List.drop_drop, List.take_append_drop]
theorem bulk_sum {H : Type} : ∀ {ms : List Nat} {els : List (DataW H)}, ms.length = els.length → (∀ (i m : Nat) y, ms[i]? = some m → els[i]? = some y → m ≤ Rows.uptoBulk y) → ms.sum ≤ Rows.uptoBulkAll els
 | [], [], _, _ => by simp
 | m :: ms, y :: els, hl, h => by
  have h1 := h 0 m y rfl rfl
  have h2 := bulk_sum (ms := ms) (els := els) (by simpa using hl) fun i m y hm hy => h (i + 1) m y (by simpa using hm) (by simpa using hy)
  simp only [List.sum_cons, Rows.uptoBulkAll]
  omega
 | [], _ :: _, hl, _ => by simp at hl
 | _ :: _, [], hl, _ => by simp at hl
def Low (w : World) (b _h : Nat) : Prop := b < w.heap.size
section
variable {H : Type} {enc : TypeId × Value → H} {P : Program} {w : World} {base : Nat} {spare : Nat → Bool} {held : Bool}
theorem open_deep {L : List Nat} (hL : dataOk P L = true) : ∀ (fuel t : Nat) (cs : List Value) (x : DataW H × List MemPlace), t ∈ L → DataW.trod enc P w base spare held fuel t cs = some x → ∃ ds m, AtDs (Low w) w cs ds ∧ Deep P t ds m ∧ m ≤ Rows.uptoBulk x.1
 | 0, t, cs, x, ht, h => by simp [DataW.trod] at h
 | fuel + 1, t, cs, x, ht, h => by
  have hk := List.all_eq_true.1 hL t ht
  unfold dataOk1 at hk
  split at hk
  ·rename_i e
   obtain ⟨b, rfl, rfl⟩ := DataW.trod_bool e h
   exact ⟨_, _, AtDs.cons (.sc _ rfl) (AtDs.nil _ _), .bool b e, by simp [Rows.uptoBulk]⟩
  ·rename_i k e
   obtain ⟨n, rfl, rfl, hw⟩ := DataW.trod_int e h
   exact ⟨_, _, AtDs.cons (.sc _ rfl) (AtDs.nil _ _), .int n e hw, by simp [Rows.uptoBulk]⟩
  ·rename_i e
   obtain ⟨s, rfl, rfl, hs⟩ := DataW.trod_string e h
   refine ⟨_, _, AtDs.cons (.sc _ rfl) (AtDs.nil _ _), .str s e hs, ?_⟩
   have e2 : s.data.toList.length = s.size := by rw [Array.length_toList]; rfl
   simp only [Rows.uptoBulk]
   omega
  ·rename_i e he
   simp only [Bool.and_eq_true, List.contains_iff_mem, Nat.blt_eq] at hk
   rcases DataW.trod_slice he h with ⟨rfl, rfl⟩ | ⟨a, len, cap, elems, rest, n, hfu, rfl, rfl, hb, hl, hm, hlen, hel, _, _⟩
   ·exact ⟨_, _, AtDs.cons (.nil none 0 (P.cellsOf e)) (AtDs.nil _ _), .sl [] [] he rfl (Nat.zero_le _) (fun i r m hr => by simp at hr), by simp [Rows.uptoBulk]⟩
   ·obtain rfl : n = fuel := by omega
    have each : ∀ i, i < len → ∃ q : List Value × List D × Nat, (w.cells? base (a.add (i * P.cellsOf e)) (P.cellsOf e) = some q.1) ∧ AtDs (Low w) w q.1 q.2.1 ∧ Deep P e q.2.1 q.2.2 ∧ ∃ y, elems[i]? = some y ∧ q.2.2 ≤ Rows.uptoBulk y.1 := by
     intro i hi
     have h1 := hel i hi
     have hei : elems[i]? = some (elems[i]'(by omega)) := List.getElem?_eq_getElem (by omega)
     rw [hei, Option.bind_eq_some_iff] at h1
     obtain ⟨cs', hc, ht'⟩ := h1
     obtain ⟨ds, m, h2, h3, h4⟩ := open_deep hL n e cs' _ hk.1 ht'
     exact ⟨(cs', ds, m), hc, h2, h3, _, hei, h4⟩
    obtain ⟨l, hll, hp⟩ := pick_fn each
    have hmap : ∀ {β : Type} (f : List Value × List D × Nat → β) (i : Nat) (b : β), (l.map f)[i]? = some b → ∃ q, l[i]? = some q ∧ f q = b := fun f i b hi => by
     rw [List.getElem?_map, Option.map_eq_some_iff] at hi
     exact hi
    have hrl : (l.map fun q => q.2.1).length = len := by rw [List.length_map, hll]
    have hcl : ∀ r ∈ l.map (fun q => q.1), r.length = P.cellsOf e := fun r hr => by
     obtain ⟨i, hi⟩ := List.mem_iff_getElem?.1 hr
     obtain ⟨q, hq, rfl⟩ := hmap _ i r hi
     exact (World.cells?_some (hp i q hq).1).2.1
    have hdl : ∀ r ∈ l.map (fun q => q.2.1), r.length = P.cellsOf e := fun r hr => by
     obtain ⟨i, hi⟩ := List.mem_iff_getElem?.1 hr
     obtain ⟨q, hq, rfl⟩ := hmap _ i r hi
     rw [← (hp i q hq).2.1.1]
     exact (World.cells?_some (hp i q hq).1).2.1
    have hD : Deep P t [.sl (P.cellsOf e) (l.map fun q => q.2.1)] ((l.map fun q => q.2.2).sum + 1) := by
     refine .sl _ _ he (by simp) (by rw [hrl]; omega) fun i r m hr hm => ?_
     obtain ⟨q, hq, rfl⟩ := hmap _ i r hr
     obtain ⟨q', hq', rfl⟩ := hmap _ i m hm
     rw [hq] at hq'
     cases hq'
     exact (hp i q hq).2.2.1
    have hB : (l.map fun q => q.2.2).sum + 1 ≤ Rows.uptoBulk (DataW.slice (elems.map (·.1)) (rest.map (·.1))) := by
     have := bulk_sum (ms := l.map fun q => q.2.2) (els := elems.map (·.1)) (by simp [hll, hlen]) fun i m y hm hy => by
      obtain ⟨q, hq, rfl⟩ := hmap _ i m hm
      obtain ⟨y', hy', h4⟩ := (hp i q hq).2.2.2
      rw [List.getElem?_map, hy'] at hy
      cases hy
      exact h4
     simp only [Rows.uptoBulk]
     omega
    refine ⟨_, _, AtDs.cons ?_ (AtDs.nil _ _), hD, hB⟩
    by_cases h0 : len = 0
    ·subst h0
     rw [List.eq_nil_of_length_eq_zero hll]
     exact .nil _ _ _
    obtain ⟨b, off, spot⟩ := a
    obtain ⟨q0, hq0⟩ : ∃ q, l[0]? = some q := ⟨_, List.getElem?_eq_getElem (by omega)⟩
    have hc0 := (World.cells?_some (hp 0 q0 hq0).1).2
    have hq00 : q0.1[0]? = some (q0.1[0]'(by omega)) := List.getElem?_eq_getElem (by omega)
    have hcell0 := (hc0.2 0 hk.2).trans hq00
    have hspot : spot = none := by
     have := World.cell?_spot hcell0
     simpa [Addr.add] using this
    subst hspot
    have hblk : b < w.heap.size := by
     have := World.block_lt_of_cell? w _ hcell0
     simpa [Addr.add] using this
    have add0 : ∀ o j, (⟨b, o, none⟩ : Addr).add j = ⟨b, o + j, none⟩ := fun o j => by
     unfold Addr.add
     by_cases hj : j = 0
     ·subst hj; rfl
     ·simp [hj]
    have hus : (l.map fun q => q.1).flatten.length = len * P.cellsOf e := by rw [flat_len hcl, List.length_map, hll]
    have hsl := AtD.sl (I := Low w) (w := w) b off cap (P.cellsOf e) (l.map fun q => q.2.1) (l.map fun q => q.1).flatten (by rw [hrl]; exact hl) ⟨_, Nat.le_refl _, hblk⟩ hdl (by rw [hus, hrl]) (fun i u hu => ?_) (fun i u d hu hd => ?_)
    ·rw [hrl] at hsl
     exact hsl
    ·have hi : i < len * P.cellsOf e := by rw [← hus]; exact (List.getElem?_eq_some_iff.1 hu).1
     have hq : i / P.cellsOf e < len := (Nat.div_lt_iff_lt_mul hk.2).2 hi
     have hr : i % P.cellsOf e < P.cellsOf e := Nat.mod_lt _ hk.2
     have ei : i / P.cellsOf e * P.cellsOf e + i % P.cellsOf e = i := by rw [Nat.mul_comm]; exact Nat.div_add_mod i _
     obtain ⟨q, hqq⟩ : ∃ q, l[i / P.cellsOf e]? = some q := ⟨_, List.getElem?_eq_getElem (by omega)⟩
     have hcq := (World.cells?_some (hp _ q hqq).1).2.2 _ hr
     have hfl := flat_get hcl (i := i / P.cellsOf e) (j := i % P.cellsOf e) (r := q.1) (by rw [List.getElem?_map, hqq]; rfl) hr
     rw [ei, hu] at hfl
     rw [← hfl, add0, add0, Nat.add_assoc, ei] at hcq
     exact hcq
    ·exact (atDs_flat (I := Low w) (w := w) (css := l.map fun q => q.1) (dss := l.map fun q => q.2.1) (by simp) fun i cs ds h1 h2 => by
      obtain ⟨q, hq, rfl⟩ := hmap _ i cs h1
      obtain ⟨q', hq', rfl⟩ := hmap _ i ds h2
      rw [hq] at hq'
      cases hq'
      exact (hp i q hq).2.1).2 i u d hu hd
  ·rename_i fs he
   simp only [Bool.and_eq_true, List.all_eq_true, List.contains_iff_mem] at hk
   obtain ⟨xs, n, hfu, rfl, hcl, hxl, hf⟩ := DataW.trod_struct he h
   obtain rfl : n = fuel := by omega
   have each : ∀ i, i < fs.size → ∃ q : List D × Nat, ∀ f, fs[i]? = some f → AtDs (Low w) w ((cs.drop f.offset).take (P.cellsOf f.type)) q.1 ∧ Deep P f.type q.1 q.2 ∧ ∃ y, xs[i]? = some y ∧ q.2 ≤ Rows.uptoBulk y.1 := by
    intro i hi
    have hfi : fs[i]? = some fs[i] := Array.getElem?_eq_getElem hi
    have hxi : xs[i]? = some (xs[i]'(by omega)) := List.getElem?_eq_getElem (by omega)
    have h1 := hf i _ hfi
    rw [hxi] at h1
    obtain ⟨ds, m, h2, h3, h4⟩ := open_deep hL n _ _ _ (hk.1 _ (Array.getElem_mem_toList ..)) h1
    refine ⟨(ds, m), fun f hff => ?_⟩
    rw [hfi] at hff
    cases hff
    exact ⟨h2, h3, _, hxi, h4⟩
   obtain ⟨l, hll, hp⟩ := pick_fn each
   have hmap : ∀ {β : Type} (f : List D × Nat → β) (i : Nat) (b : β), (l.map f)[i]? = some b → ∃ q, l[i]? = some q ∧ f q = b := fun f i b hi => by
    rw [List.getElem?_map, Option.map_eq_some_iff] at hi
    exact hi
   refine ⟨(l.map (·.1)).flatten, (l.map (·.2)).sum + 1, ?_, .st _ _ he (by simp [hll]) (by simp [hll]) fun i f ds m h1 h2 h3 => ?_, ?_⟩
   ·have hcut := layout_cut fs.toList 0 _ hk.2 hcl
    rw [List.drop_zero] at hcut
    rw [hcut]
    refine atDs_flat (by simp [hll]) fun i c d h1 h2 => ?_
    rw [List.getElem?_map, Option.map_eq_some_iff] at h1
    obtain ⟨f, hfi, rfl⟩ := h1
    obtain ⟨q, hq, rfl⟩ := hmap _ i d h2
    exact (hp i q hq f (by simpa using hfi)).1
   ·obtain ⟨q, hq, rfl⟩ := hmap _ i ds h2
    obtain ⟨q', hq', rfl⟩ := hmap _ i m h3
    rw [hq] at hq'
    cases hq'
    exact (hp i q hq f h1).2.1
   ·have := bulk_sum (ms := l.map (·.2)) (els := xs.map (·.1)) (by simp [hll, hxl]) fun i m y hm hy => by
     obtain ⟨q, hq, rfl⟩ := hmap _ i m hm
     have hlt : i < fs.size := by rw [← hll]; exact (List.getElem?_eq_some_iff.1 hq).1
     obtain ⟨y', hy', h4⟩ := (hp i q hq _ (Array.getElem?_eq_getElem hlt)).2.2
     rw [List.getElem?_map, hy'] at hy
     cases hy
     exact h4
    simp only [Rows.uptoBulk]
    omega
  ·cases hk
theorem open_arg {L : List Nat} (hL : dataOk P L = true) {t : Nat} {v : Value} {d : DataW H} {ps : List MemPlace} {rc : Reach} {b0 : Nat} (ht : L.contains t = true) (hv : Value.okWide P w rc b0 t v) (h : DataW.Trod enc P w base spare held t v d ps) :
  ∃ r m, AtR (Low w) w v r ∧ DeepR P t r m ∧ m ≤ Rows.uptoBulk d := by
 rw [List.contains_iff_mem] at ht
 obtain ⟨fuel, hf⟩ := h
 obtain ⟨ds, m, h1, h2, h3⟩ := open_deep hL fuel t _ _ ht hf
 have hk := List.all_eq_true.1 hL t ht
 unfold dataOk1 at hk
 split at hk
 ·rename_i e
  obtain ⟨b, rfl⟩ := okWide_bool e hv
  obtain ⟨b', rfl, rfl⟩ := h2.unbool e
  obtain ⟨u, us', e2, h4, _⟩ := h1.uncons
  simp [Value.cells] at e2
  rw [← e2.1] at h4
  exact ⟨.one _, _, h4, by unfold DeepR; rw [e]; exact h2, h3⟩
 ·rename_i k e
  obtain ⟨b, rfl⟩ := okWide_int e hv
  obtain ⟨b', rfl, _, rfl⟩ := h2.unint e
  obtain ⟨u, us', e2, h4, _⟩ := h1.uncons
  simp [Value.cells] at e2
  rw [← e2.1] at h4
  exact ⟨.one _, _, h4, by unfold DeepR; rw [e]; exact h2, h3⟩
 ·rename_i e
  obtain ⟨b, rfl⟩ := okWide_string e hv
  obtain ⟨b', rfl, _, rfl⟩ := h2.unstr e
  obtain ⟨u, us', e2, h4, _⟩ := h1.uncons
  simp [Value.cells] at e2
  rw [← e2.1] at h4
  exact ⟨.one _, _, h4, by unfold DeepR; rw [e]; exact h2, h3⟩
 ·rename_i el e
  obtain ⟨a, len, cap, rfl⟩ := okWide_slice e hv
  obtain ⟨rows, ms, rfl, _, _, rfl, _⟩ := h2.unsl e
  obtain ⟨u, us', e2, h4, _⟩ := h1.uncons
  simp [Value.cells] at e2
  rw [← e2.1] at h4
  exact ⟨.one _, _, h4, by unfold DeepR; rw [e]; exact h2, h3⟩
 ·rename_i fs e
  obtain ⟨cs, rfl, _⟩ := okWide_struct e hv
  exact ⟨.ag ds, m, ⟨cs.toList, by simp, h1⟩, by unfold DeepR; rw [e]; exact h2, h3⟩
 ·cases hk
end
theorem law_true {f : Nat} {rs : List R} (h : Spec f rs [.one (.sc (.bool true))]) {w : World} {args : List Value} (hat : AtRs (Low w) w args rs) (hT : Tabs (fun _ => False) w := by exact fun _ h => nomatch h) : Calls Tryz.prog f args.toArray w fun e w' => e = .returned (.bool true) ∧ Below w.heap.size w w' := by
 refine (h.2 (Low w) w args ⟨fun _ _ h => h, hT⟩ hat).mono ?_
 rintro e w' ⟨v, rfl, hv, hb⟩
 cases hv
 exact ⟨rfl, hb⟩
end Go.Proofs.YtahpnackkmbmgaaGreatDoor.Vm
end
section
namespace Go.Proofs.YtahpnackkmbmgaaGreatDoor.Vm
open Go.RowKit
end Go.Proofs.YtahpnackkmbmgaaGreatDoor.Vm
end
section
namespace Go.Proofs.YtahpnackkmbmgaaGreatDoor.Vm
open Go.RowKit
def PartWf (x : Ty) : Prop := x.name.size ≤ maxLen ∧ (Lit.int .u8 x.op).wf = true ∧ (Lit.int .i64 x.n).wf = true
def TyWf (t : Ty) : Prop := ∀ x ∈ t.parts, PartWf x
theorem TyWf.kid {t k : Ty} (h : TyWf t) (hk : k ∈ t.kids) : TyWf k := fun x hx => h x (by rw [parts_kids]; exact List.mem_cons_of_mem _ (List.mem_flatMap.2 ⟨k, hk, hx⟩))
theorem TyWf.self {t : Ty} (h : TyWf t) : PartWf t := h t (by rw [parts_eq]; exact List.mem_cons_self ..)
theorem cells_ty : Tryz.prog.cellsOf 25 = 4 := by kernel_rfl
set_option maxRecDepth 100000 in
theorem deep_ty : ∀ (m : Nat) (ds : List D), Deep Tryz.prog 25 ds m → ∃ t : Ty, ds = cT t ∧ t.parts.length ≤ m ∧ TyWf t ∧ ∀ x ∈ t.parts, x.name.size ≤ m := by
 intro m
 induction m using Nat.strongRecOn with
 | ind m ih =>
  intro ds h
  obtain ⟨dss, ms, rfl, h1, h2, rfl, hf⟩ := h.unst Tryz.underlying25
  match dss, ms, h1, h2, hf with
  | [d0, d1, d2, d3], [m0, m1, m2, m3], _, _, hf =>
   obtain ⟨op, rfl, w0, rfl⟩ := (hf 0 _ d0 m0 rfl rfl rfl).unint Tryz.underlying22
   obtain ⟨nm, rfl, w1, rfl⟩ := (hf 1 _ d1 m1 rfl rfl rfl).unstr Tryz.underlying9
   obtain ⟨n, rfl, w2, rfl⟩ := (hf 2 _ d2 m2 rfl rfl rfl).unint Tryz.underlying3
   obtain ⟨rows, ks, rfl, hl, hb, rfl, hr⟩ := (hf 3 _ d3 m3 rfl rfl rfl).unsl Tryz.underlying23
   clear hf h
   have key : ∀ (rows : List (List D)) (ks : List Nat), ks.length = rows.length → ks.sum < 1 + (nm.size + 1 + (1 + (ks.sum + 1 + 0))) + 1 → (∀ (i : Nat) (r : List D) (m' : Nat), rows[i]? = some r → ks[i]? = some m' → m' < [1, nm.size + 1, 1, ks.sum + 1].sum + 1 → ∃ t : Ty, r = cT t ∧ t.parts.length ≤ m' ∧ TyWf t ∧ ∀ x ∈ t.parts, x.name.size ≤ m') →
     ∃ ts : List Ty, rows = rT ts ∧ (partsL ts).length ≤ ks.sum ∧ ∀ x ∈ partsL ts, PartWf x ∧ x.name.size ≤ ks.sum := by
    intro rows
    induction rows with
    | nil => intro ks hl _ _; exact ⟨[], by rw [rT], by rw [partsL]; simp, fun x hx => by rw [partsL] at hx; simp at hx⟩
    | cons r rows ihr =>
     intro ks hl hs hrr
     match ks, hl with
     | k :: ks, hl =>
      obtain ⟨t, e1, e2, e3, e4⟩ := hrr 0 r k rfl rfl (by simp; omega)
      obtain ⟨ts, f1, f2, f3⟩ := ihr ks (by simpa using hl) (by omega) fun i r' m' hi hm hlt => hrr (i + 1) r' m' (by simpa using hi) (by simpa using hm) (by simp at hlt ⊢; omega)
      refine ⟨t :: ts, by rw [rT, e1, f1], by rw [partsL, List.length_append, List.sum_cons]; omega, fun x hx => ?_⟩
      rw [partsL, List.mem_append] at hx
      rcases hx with hx | hx
      ·exact ⟨e3 x hx, by have := e4 x hx; rw [List.sum_cons]; omega⟩
      ·exact ⟨(f3 x hx).1, by have := (f3 x hx).2; rw [List.sum_cons]; omega⟩
   obtain ⟨ts, e1, e2, e3⟩ := key rows ks hl (by omega) fun i r m' hi hm hlt => ih m' hlt r (hr i r m' hi hm)
   refine ⟨.mk op nm n ts, ?_, ?_, fun x hx => ?_, fun x hx => ?_⟩
   ·rw [cT, e1, cells_ty]; rfl
   ·rw [parts_eq, List.length_cons]
    simp only [Ty.kids, List.sum_cons, List.sum_nil]
    omega
   ·rw [parts_eq] at hx
    rcases List.mem_cons.1 hx with rfl | hx
    ·exact ⟨w1, w0, w2⟩
    ·exact (e3 x hx).1
   ·rw [parts_eq] at hx
    simp only [List.sum_cons, List.sum_nil]
    rcases List.mem_cons.1 hx with rfl | hx
    ·simp only [Ty.name]; omega
    ·have := (e3 x hx).2; omega
set_option maxRecDepth 100000 in
theorem open_ty {r : R} {m : Nat} (h : DeepR Tryz.prog 25 r m) : ∃ t : Ty, r = .ag (cT t) ∧ t.parts.length ≤ m ∧ TyWf t ∧ ∀ x ∈ t.parts, x.name.size ≤ m := by
 obtain ⟨xs, rfl, h1⟩ := h.ag Tryz.underlying25
 obtain ⟨t, rfl, h2⟩ := deep_ty m xs h1
 exact ⟨t, rfl, h2⟩
end Go.Proofs.YtahpnackkmbmgaaGreatDoor.Vm
end
section
namespace Go.Proofs.YtahpnackkmbmgaaGreatDoor.Vm
open Go.RowKit
set_option maxRecDepth 100000
set_option maxHeartbeats 4000000
def txtB (t : Ty) : ByteArray := ⟨(txtS t).toArray⟩
theorem wf_le {n : Int} (h : (Lit.int .i64 n).wf = true) : n ≤ 9223372036854775807 := by
 simp only [Lit.wf, IntKind.min, IntKind.max, IntKind.signed, IntKind.bits, Bool.and_eq_true, decide_eq_true_eq, if_true] at h
 have := h.2
 simpa using this
theorem mod_shape {t : Ty} {s : Int} (h : shapeB wordB t s = true) (hn : ∀ x ∈ t.parts, isVar x = true → x.n ≤ 9223372036854775807) : Mod t := fun x hx => by
 obtain ⟨c, hc⟩ := shape_part h x hx
 obtain ⟨k, hk, h1, h2, h3, h4, h5, h6⟩ := shape_parts hc
 refine ⟨?_, h4, ?_⟩
 ·split at h3
  ·unfold wordB at h3
   rw [Bool.and_eq_true] at h3
   exact of_decide_eq_true h3.1
  ·have h3 := of_decide_eq_true h3
   have h7 : x.name.size = 0 := by
    have h8 := congrArg List.length h3
    rw [ByteArray.toList_eq] at h8
    simpa using h8
   omega
 ·rcases h5 with h | h | h
  ·exact hn x hx (by rw [isVar_iff]; exact .inl h)
  ·exact hn x hx (by rw [isVar_iff]; exact .inr h)
  ·omega
theorem mod_canon {t : Ty} {s : Int} (h : rightB t s = true) (hw : TyWf t) : Mod (canonS t) := by
 have hs := (right_shape h).1
 refine mod_shape (canon_shape _ t s (Nat.le_refl _) hs) fun x hx hv => ?_
 exact wf_le (hw x (canon_vars _ t s (Nat.le_refl _) hs x hx hv)).2.2
theorem txt_room {t : Ty} (hM : Mod t) (hN : t.parts.length ≤ 1048576) : (txtS t).length ≤ 67108864 := by
 have := txt_le hM
 omega
theorem Print_no (t : Ty) (ht : Sm t) (hr : rightB t 116 = false) : Spec 9 [.ag (cT t)] [.one (.sc (.string ⟨#[]⟩)), .one (.sc (.int .u8 15))] := by
 have h1 := PRight_s t ht.1 ht.2
 rw [hr] at h1
 obtain ⟨a0, a1, a2, a3, ha⟩ := cT_four t
 rw [ha] at h1 ⊢
 refine spec_of Tryz.func9 rfl (by kernel_rfl) (by kernel_rfl) (by kernel_rfl) fun qa qb qc qd qe qf qg qh qi qj qk ql qm qo qp qq qs qt qu qv qw qx qy qz va vc vd ve vf vg vh vj vk vl vm vn vo vp vq vr vt vu hA => ?_
 cbv
 repeat (first | (with_reducible apply next_at hA; cbv) | (refine call_at hA _ h1 rfl ?_; cbv) | (refine calm_at hA _ h1 ?_; cbv))
 try cbv
 repeat (first | (with_reducible apply next_at hA; cbv) | (refine call_at hA _ h1 rfl ?_; cbv) | (refine calm_at hA _ h1 ?_; cbv))
 try simp (maxSteps := 4000000) only [nc] at *
theorem Print_s (t : Ty) (ht : Sm t) (hw : TyWf t) (hr : rightB t 116 = true) : Spec 9 [.ag (cT t)] [.one (.sc (.string (txtB (canonS t)))), .one (.sc (.int .u8 0))] := by
 have h1 := PRight_s t ht.1 ht.2
 rw [hr] at h1
 have h2 := Canon_s t ht
 have he : eitherT t = true := by unfold eitherT; rw [hr]; rfl
 rw [if_pos he] at h2
 have hM := mod_canon hr hw
 have hsh := (right_shape hr).1
 have hN : (canonS t).parts.length ≤ 1048576 := by rw [canon_len _ t (Nat.le_refl _) (shape_spineAll hsh)]; exact ht.1
 have hroom := txt_room hM hN
 have c1 := (write_all wordB _ (canonS t) (Nat.le_refl _) (canon_shape _ t 116 (Nat.le_refl _) hsh) hM).2 (by omega)
 have c2 := stU_s (txtS (canonS t))
 unfold txtB
 obtain ⟨a0, a1, a2, a3, ha⟩ := cT_four t
 obtain ⟨b0, b1, b2, b3, hb⟩ := cT_four (canonS t)
 rw [ha] at h1 h2 ⊢
 rw [hb] at h2 c1
 rw [penU_eq, penO_eq] at c1
 rw [penU_eq] at c2
 generalize rU (txtS (canonS t)) = R1 at *
 generalize (⟨(txtS (canonS t)).toArray⟩ : ByteArray) = S at *
 clear hroom
 refine spec_of Tryz.func9 rfl (by kernel_rfl) (by kernel_rfl) (by kernel_rfl) fun qa qb qc qd qe qf qg qh qi qj qk ql qm qo qp qq qs qt qu qv qw qx qy qz va vc vd ve vf vg vh vj vk vl vm vn vo vp vq vr vt vu hA => ?_
 cbv
 repeat (first | (with_reducible apply next_at hA; cbv) | (refine call_at hA _ h1 rfl ?_; cbv) | (refine calm_at hA _ h1 ?_; cbv) | (refine call_at hA _ h2 rfl ?_; cbv) | (refine calm_at hA _ h2 ?_; cbv) | (refine callo_at hA [1] c1 ⟨rfl, rfl, rfl, rfl, rfl, rfl, rfl⟩ ?_; rintro _ _ ⟨rfl, rfl⟩; cbv) | (refine callo_at hA [1, 2] c2 ⟨rfl, rfl, rfl, rfl, rfl, rfl, rfl⟩ ?_; rintro _ _ ⟨rfl, rfl⟩; cbv))
 try cbv
 repeat (first | (with_reducible apply next_at hA; cbv) | (refine call_at hA _ h1 rfl ?_; cbv) | (refine calm_at hA _ h1 ?_; cbv) | (refine call_at hA _ h2 rfl ?_; cbv) | (refine calm_at hA _ h2 ?_; cbv) | (refine callo_at hA [1] c1 ⟨rfl, rfl, rfl, rfl, rfl, rfl, rfl⟩ ?_; rintro _ _ ⟨rfl, rfl⟩; cbv) | (refine callo_at hA [1, 2] c2 ⟨rfl, rfl, rfl, rfl, rfl, rfl, rfl⟩ ?_; rintro _ _ ⟨rfl, rfl⟩; cbv))
 try simp (maxSteps := 4000000) only [nc] at *
end Go.Proofs.YtahpnackkmbmgaaGreatDoor.Vm
end
section
namespace Go.Proofs.YtahpnackkmbmgaaGreatDoor.Vm
open Go.RowKit
set_option maxRecDepth 100000
set_option maxHeartbeats 4000000
def bx (l : List UInt8) : ByteArray := ⟨l.toArray⟩
theorem bx_cat (l m : List UInt8) : bx l ++ bx m = bx (l ++ m) := by
 unfold bx
 apply ByteArray.ext
 apply Array.ext'
 simp
theorem bx_size (l : List UInt8) : (bx l).size = l.length := rfl
theorem bx_btl (s : ByteArray) : bx (btl s) = s := by
 unfold bx btl
 apply ByteArray.ext
 apply Array.ext'
 simp
theorem itoa_one {n : Int} (h0 : 0 ≤ n) (h : n < 10) : Lib.itoa n = [UInt8.ofNat (48 + n.toNat)] := by
 unfold Lib.itoa
 rw [if_neg (by omega), Lib.decDigits_one (by omega)]
theorem itoa_more {n : Int} (h0 : 0 ≤ n) (h : ¬ n < 10) : Lib.itoa n = Lib.itoa (n / 10) ++ Lib.itoa (n % 10) := by
 rw [itoa_one (n := n % 10) (by omega) (by omega)]
 unfold Lib.itoa
 rw [if_neg (by omega), if_neg (by omega), Lib.decDigits, dif_neg (by omega)]
 congr 2
 ·omega
 ·congr 2
  omega
theorem Num_s : ∀ (m : Nat) (n : Int), n.toNat ≤ m → 0 ≤ n → n ≤ 9223372036854775807 → Spec 31 [.one (.sc (.int .i64 n))] [.one (.sc (.string (bx (Lib.itoa n))))] := by
 intro m
 induction m using Nat.strongRecOn with
 | ind m ih =>
  intro n hm h0 h1
  by_cases h : n < 10
  ·rw [itoa_one h0 h]
   obtain ⟨S, hS⟩ : ∃ S, S = bx [UInt8.ofNat (48 + n.toNat)] := ⟨_, rfl⟩
   rw [← hS]
   refine spec_of Tryz.func31 rfl (by kernel_rfl) (by kernel_rfl) (by kernel_rfl) fun qa qb qc qd qe qf qg qh qi qj qk ql qm qo qp qq qs qt qu qv qw qx qy qz va vc vd ve vf vg vh vj vk vl vm vn vo vp vq vr vt vu hA => ?_
   obtain ⟨e1, e2, e3, e4, e5, e6, e7, e8, e9⟩ := ar_at hA
   obtain ⟨b1, b2⟩ := conv_at hA
   have hlt : qh n 10 = true := by rw [e7]; exact decide_eq_true h
   have hT : qv [[.sc (.int .u8 (qa .u8 (qa .i64 (qb 48 n))))]] = some S := by
    rw [b1, e1, e1, e2, IntWalk.i64_in _ (by omega), show IntKind.wrap .u8 (48 + n) = 48 + n by simp [IntKind.wrap, IntKind.signed, IntKind.bits]; omega, hS]
    show some (⟨⟨[UInt8.ofNat (48 + n).toNat]⟩⟩ : ByteArray) = some ⟨⟨[UInt8.ofNat (48 + n.toNat)]⟩⟩
    rw [show (48 + n).toNat = 48 + n.toNat by omega]
   cbv
   repeat (first | (with_reducible apply next_at hA; cbv) | (rw [hlt]; cbv) | (rw [hT]; cbv) | (refine lit_at hA true ?_; cbv))
   try cbv
   repeat (first | (with_reducible apply next_at hA; cbv) | (rw [hlt]; cbv) | (rw [hT]; cbv) | (refine lit_at hA true ?_; cbv))
   try simp (maxSteps := 4000000) only [nc] at *
  ·have i1 := ih (n / 10).toNat (by omega) (n / 10) (Nat.le_refl _) (by omega) (by omega)
   have i2 := ih (n % 10).toNat (by omega) (n % 10) (Nat.le_refl _) (by omega) (by omega)
   have l1 := Lib.itoa_length_le (n / 10) (by omega) (by omega)
   have l2 := Lib.itoa_length_le (n % 10) (by omega) (by omega)
   rw [itoa_more h0 h, ← bx_cat]
   have hfit : (bx (Lib.itoa (n / 10))).size + (bx (Lib.itoa (n % 10))).size ≤ 4611686018427387904 := by rw [bx_size, bx_size]; omega
   generalize bx (Lib.itoa (n / 10)) = A at *
   generalize bx (Lib.itoa (n % 10)) = B at *
   obtain ⟨S, hS⟩ : ∃ S, S = A ++ B := ⟨_, rfl⟩
   rw [← hS]
   obtain ⟨q, hq⟩ : ∃ q, q = n / 10 := ⟨_, rfl⟩
   obtain ⟨r, hr⟩ : ∃ r, r = n % 10 := ⟨_, rfl⟩
   rw [← hq] at i1
   rw [← hr] at i2
   clear ih
   refine spec_of Tryz.func31 rfl (by kernel_rfl) (by kernel_rfl) (by kernel_rfl) fun qa qb qc qd qe qf qg qh qi qj qk ql qm qo qp qq qs qt qu qv qw qx qy qz va vc vd ve vf vg vh vj vk vl vm vn vo vp vq vr vt vu hA => ?_
   obtain ⟨e1, e2, e3, e4, e5, e6, e7, e8, e9⟩ := ar_at hA
   obtain ⟨s1, s2, s3, s4, s5, s6, s7⟩ := str_at hA
   have hlt : qh n 10 = false := by rw [e7]; exact decide_eq_false h
   have hQ : qa .i64 (qe n 10) = q := by rw [e1, e5, hq, Int.tdiv_eq_ediv_of_nonneg h0, IntWalk.i64_in _ (by omega)]
   have hR : qf n 10 = r := by rw [e6, hr, Int.tmod_eq_emod_of_nonneg h0]
   have hC : qp A B = S := by rw [s4, hS]
   cbv
   repeat (first | (with_reducible apply next_at hA; cbv) | (rw [hlt]; cbv) | (rw [hQ]; cbv) | (rw [hR]; cbv) | (rw [hC]; cbv) | (refine call_at hA _ i1 rfl ?_; cbv) | (refine calm_at hA _ i1 ?_; cbv) | (refine call_at hA _ i2 rfl ?_; cbv) | (refine calm_at hA _ i2 ?_; cbv) | (refine nz_at hA (by decide) ?_; cbv) | (refine fits_at hA hfit ?_; cbv))
   try cbv
   repeat (first | (with_reducible apply next_at hA; cbv) | (rw [hlt]; cbv) | (rw [hQ]; cbv) | (rw [hR]; cbv) | (rw [hC]; cbv) | (refine call_at hA _ i1 rfl ?_; cbv) | (refine calm_at hA _ i1 ?_; cbv) | (refine call_at hA _ i2 rfl ?_; cbv) | (refine calm_at hA _ i2 ?_; cbv) | (refine nz_at hA (by decide) ?_; cbv) | (refine fits_at hA hfit ?_; cbv))
   try simp (maxSteps := 4000000) only [nc] at *
end Go.Proofs.YtahpnackkmbmgaaGreatDoor.Vm
end

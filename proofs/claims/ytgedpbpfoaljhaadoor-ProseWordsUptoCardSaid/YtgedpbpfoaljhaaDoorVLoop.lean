/- The machine of values: loops, calls and arithmetic, as a walk wants them. -/
import Derived.Test.YtgedpbpfoaljhaaDoorVExec
set_option linter.unusedVariables false
set_option linter.unusedSimpArgs false
namespace Go.Proofs.YtgedpbpfoaljhaaDoor.Vm
open Go.RowKit
/-- The slots that code writes. -/
def wrO : List Oper → List Nat → List Nat
  | [], acc => acc
  | ⟨some d, _, _, _, _, _⟩ :: l, acc => d :: wrO l acc
  | _ :: l, acc => wrO l acc
def wr : Code → List Nat → List Nat
  | .region _ ops _, acc => wrO ops.toList acc
  | .seq c d, acc => wr c (wr d acc)
  | .cond _ c d, acc => wr c (wr d acc)
  | .block _ c, acc => wr c acc
  | .loop c, acc => wr c acc
  | _, acc => acc
def forget : List Nat → List V → List V
  | [], t => t
  | i :: l, t => forget l (setN t i .jk)
def setsT : List (Nat × V) → List V → List V
  | [], t => t
  | (i, v) :: l, t => setsT l (setN t i v)
def setsO : List (Nat × O) → List O → List O
  | [], o => o
  | (k, x) :: l, o => setsO l (setO o k x)
theorem setsO_len : ∀ (l : List (Nat × O)) (o : List O), (setsO l o).length = o.length
  | [], _ => rfl
  | (k, x) :: l, o => by rw [setsO, setsO_len l, setO_is, List.length_set]
/-- The state at a loop's head: what the body writes is forgotten, but for what is told. -/
def head (c : Code) (s : S) (l : List (Nat × V)) (m : List (Nat × O)) : S := ⟨setsT l (forget (wr c []) s.t), setsO m s.o⟩
section
variable {I0 : Nat → Nat → Prop} {X : Nat → Prop} {w0 : W0} {I : Nat → Nat → Prop} {g : Nat → Value} {s : S} {a : Act} {w : World}
/-- A slot is read otherwise. -/
theorem RelI.reread (h : RelI I0 X w0 I g s a w) {i : Nat} {x : V} (hx : ∀ v, a.tmps.toList[i]? = some v → AtV I w g v x) : RelI I0 X w0 I g ⟨setN s.t i x, s.o⟩ a w := by
  refine ⟨h.im, h.lt, h.fr, h.kp, h.lo, h.st, h.obj, h.dis, h.out, ?_, h.dfr⟩
  rw [setN_is]
  refine ⟨by rw [List.length_set]; exact h.tmp.1, fun j v y hv hy => ?_⟩
  by_cases hji : i = j
  · subst hji
    have hlt : i < s.t.length := by have := (List.getElem?_eq_some_iff.1 hy).1; rw [List.length_set] at this; exact this
    rw [List.getElem?_set_self hlt] at hy
    cases hy
    exact hx v hv
  · rw [List.getElem?_set_ne hji] at hy
    exact h.tmp.2 j v y hv hy
end
theorem Ghost.own (s : S) (i e : Nat) (z : Bool) (hi : getN s.t i = .em) : Ghost s ⟨setN s.t i (.own (lenO s.o)), snocO s.o (.row z e [])⟩ := by
  rintro I0 X w0 a w ⟨I, g, h⟩
  have h2 := h.newObj (.row z e []) (.slice none 0 0) ⟨[], by rw [upd_same]; exact World.ownsRow_nil w 0 e _, by simp, AtDs.nil I w, fun b hb => by rw [upd_same] at hb; cases hb⟩ (fun j b _ _ hb => by cases hb)
  refine ⟨I, upd g s.o.length (.slice none 0 0), ?_⟩
  have h3 : RelI I0 X w0 I (upd g s.o.length (.slice none 0 0)) ⟨s.t, snocO s.o (.row z e [])⟩ a w := h2
  refine h3.reread fun v hv => ?_
  have hs := getN_some hi (by simp)
  have h4 := h.tmp.2 i v _ hv hs
  rw [h4.unem]
  exact .own _ _ _ _ (by rw [lenO_is, upd_same])
section
variable {aWrap : IntKind → Int → Int} {aAdd : Int → Int → Int} {aSub : Int → Int → Int} {aMul : Int → Int → Int} {aQuo : Int → Int → Int} {aRem : Int → Int → Int} {aLt : Int → Int → Bool} {aLe : Int → Int → Bool} {aEq : Int → Int → Bool} {aNz : Int → Prop → Prop} {aSeq : List UInt8 → List UInt8 → Bool} {aSlt : List UInt8 → List UInt8 → Bool} {aBytes : ByteArray → List UInt8} {aCat : ByteArray → ByteArray → ByteArray} {aFits : ByteArray → ByteArray → Prop → Prop} {aSlen : ByteArray → Int} {aSget : ByteArray → Int → Option Int} {aSsub : ByteArray → Int → Int → Option ByteArray} {aNat : Int → Nat → Option Nat} {aLen : List (List D) → Int} {aGet : List (List D) → Int → Option (List D)} {aSub2 : List (List D) → Int → Int → Option (List (List D))} {aApp : List (List D) → List (List D) → List (List D)} {aSet : List (List D) → Int → List D → List (List D)} {aRoom : List (List D) → List (List D) → Prop → Prop} {aMlook : List (R × R) → R → Option R} {aMput : List (R × R) → R → R → List (R × R)} {aRep : Int → List D → (List (List D) → Prop) → Prop} {aCall : Nat → List R → (List R → Prop) → Prop} {aCalld : Nat → List V → List O → (List R → Prop) → Prop} {aCallo : Nat → List V → S → (V → S → Prop) → Prop} {aNew : Nat → (Bool → Prop) → Prop} {aLit : Nat → (Bool → Prop) → Prop} {aKeep : Nat → (List V → List O → Prop) → List V → S → Prop} {aNext : (S → Prop) → S → Prop} {aLoop : Code → (S → (X → S → Prop) → Prop) → S → (X → S → Prop) → Prop}
theorem loop_at (hA : Ar.mk aWrap aAdd aSub aMul aQuo aRem aLt aLe aEq aNz aSeq aSlt aBytes aCat aFits aSlen aSget aSsub aNat aLen aGet aSub2 aApp aSet aRoom aMlook aMput aRep aCall aCalld aCallo aNew aLit aKeep aNext aLoop = real) {c : Code} {body : S → (X → S → Prop) → Prop} {s : S} {K : X → S → Prop} {γ : Type} (slots : γ → List (Nat × V)) (objs : γ → List (Nat × O)) (inv : γ → Prop) (μ : γ → Nat) (x0 : γ) (h0 : inv x0) (hw : weak s (head c s (slots x0) (objs x0)))
    (hr : ∀ x, inv x → body (head c s (slots x) (objs x)) (fun e s' => roundX (fun s2 => ∃ y, inv y ∧ μ y < μ x ∧ weak s2 (head c s (slots y) (objs y))) K e s')) : aLoop c body s K := by
  have e : aLoop = real.loop := congrArg Ar.loop hA
  rw [e]
  exact .inl ⟨γ, fun x => head c s (slots x) (objs x), inv, μ, fun x _ => by rw [lenO_is, lenO_is]; exact Nat.le_of_eq (setsO_len _ _).symm, ⟨x0, hw, h0⟩, hr⟩
theorem next_at (hA : Ar.mk aWrap aAdd aSub aMul aQuo aRem aLt aLe aEq aNz aSeq aSlt aBytes aCat aFits aSlen aSget aSsub aNat aLen aGet aSub2 aApp aSet aRoom aMlook aMput aRep aCall aCalld aCallo aNew aLit aKeep aNext aLoop = real) {N : S → Prop} {s : S} (h : N s) : aNext N s := by
  have e : aNext = real.next := congrArg Ar.next hA
  rw [e]
  exact ⟨s, Ghost.refl s, h⟩
/-- A state is read as another one. -/
theorem ghost_at (hA : Ar.mk aWrap aAdd aSub aMul aQuo aRem aLt aLe aEq aNz aSeq aSlt aBytes aCat aFits aSlen aSget aSsub aNat aLen aGet aSub2 aApp aSet aRoom aMlook aMput aRep aCall aCalld aCallo aNew aLit aKeep aNext aLoop = real) {N : S → Prop} {s : S} (s' : S) (hg : Ghost s s') (h : N s') : aNext N s := by
  have e : aNext = real.next := congrArg Ar.next hA
  rw [e]
  exact ⟨s', hg, h⟩
/-- The elements of these rows are never turned again. -/
theorem frz_at (hA : Ar.mk aWrap aAdd aSub aMul aQuo aRem aLt aLe aEq aNz aSeq aSlt aBytes aCat aFits aSlen aSget aSsub aNat aLen aGet aSub2 aApp aSet aRoom aMlook aMput aRep aCall aCalld aCallo aNew aLit aKeep aNext aLoop = real) {N : S → Prop} {s : S} (ks : List Nat) (h : N ⟨s.t, frz ks s.o⟩) : aNext N s := ghost_at hA _ (Ghost.frz s ks) h
/-- A slot's nil slice is a row of the call's own, without elements. -/
theorem own_at (hA : Ar.mk aWrap aAdd aSub aMul aQuo aRem aLt aLe aEq aNz aSeq aSlt aBytes aCat aFits aSlen aSget aSsub aNat aLen aGet aSub2 aApp aSet aRoom aMlook aMput aRep aCall aCalld aCallo aNew aLit aKeep aNext aLoop = real) {N : S → Prop} {s : S} (i e : Nat) (z : Bool) (hi : getN s.t i = .em) (h : N ⟨setN s.t i (.own (lenO s.o)), snocO s.o (.row z e [])⟩) : aNext N s := ghost_at hA _ (Ghost.own s i e z hi) h
theorem call_at (hA : Ar.mk aWrap aAdd aSub aMul aQuo aRem aLt aLe aEq aNz aSeq aSlt aBytes aCat aFits aSlen aSget aSsub aNat aLen aGet aSub2 aApp aSet aRoom aMlook aMput aRep aCall aCalld aCallo aNew aLit aKeep aNext aLoop = real) {f : Nat} {vs : List V} {s : S} {rs : List R} {K : V → S → Prop} (q : List R) (h : Spec f rs q) (hr : toRs s.o vs = some rs) (hK : K (resV q) s) : aCallo f vs s K := by
  have e : aCallo = real.callo := congrArg Ar.callo hA
  rw [e]
  exact (sound_spec h hr).mono fun x o' ks ⟨e1, e2, e3⟩ => by subst e1; subst e2; subst e3; exact hK
/-- The same in a region that draws its order. -/
theorem calm_at (hA : Ar.mk aWrap aAdd aSub aMul aQuo aRem aLt aLe aEq aNz aSeq aSlt aBytes aCat aFits aSlen aSget aSsub aNat aLen aGet aSub2 aApp aSet aRoom aMlook aMput aRep aCall aCalld aCallo aNew aLit aKeep aNext aLoop = real) {f : Nat} {rs : List R} {K : List R → Prop} (q : List R) (h : Spec f rs q) (hK : K q) : aCall f rs K := by
  have e : aCall = real.call := congrArg Ar.call hA
  rw [e]
  exact ⟨q, h, hK⟩
/-- A call that is handed objects: ks: which; vs', os': how the callee sees them. -/
theorem callo_at (hA : Ar.mk aWrap aAdd aSub aMul aQuo aRem aLt aLe aEq aNz aSeq aSlt aBytes aCat aFits aSlen aSget aSsub aNat aLen aGet aSub2 aApp aSet aRoom aMlook aMput aRep aCall aCalld aCallo aNew aLit aKeep aNext aLoop = real) {f : Nat} {vs : List V} {s : S} {K : V → S → Prop} (ks : List Nat) {vs' : List V} {os' : List O} {Q : List V → List O → Prop} (h : SpecO f vs' os' Q) (hs : SubOk ks vs' os' vs s) (hK : ∀ res os2, Q res os2 → K (pkgV (upT ks (lenO s.o) res)) (back ks os2 s)) : aCallo f vs s K := by
  have e : aCallo = real.callo := congrArg Ar.callo hA
  rw [e]
  exact (sound_speco h hs).mono fun x o' ks' ⟨e1, res, os2, hQ, e2, e3⟩ => by subst e1; subst e2; subst e3; exact hK res os2 hQ
/-- A function's end: which objects are told of. -/
theorem keep_is (hA : Ar.mk aWrap aAdd aSub aMul aQuo aRem aLt aLe aEq aNz aSeq aSlt aBytes aCat aFits aSlen aSget aSsub aNat aLen aGet aSub2 aApp aSet aRoom aMlook aMput aRep aCall aCalld aCallo aNew aLit aKeep aNext aLoop = real) {n : Nat} {Q : List V → List O → Prop} {res : List V} {s : S} (ks : List Nat) {res' : List V} {os' : List O} (h : KeepOk n ks res' os' res s) (hQ : Q res' os') : aKeep n Q res s := by
  have e : aKeep = real.keep := congrArg Ar.keep hA
  rw [e]
  exact ⟨ks, res', os', h, hQ⟩
/-- A new row: true: its elements are never turned again. -/
theorem new_at (hA : Ar.mk aWrap aAdd aSub aMul aQuo aRem aLt aLe aEq aNz aSeq aSlt aBytes aCat aFits aSlen aSget aSsub aNat aLen aGet aSub2 aApp aSet aRoom aMlook aMput aRep aCall aCalld aCallo aNew aLit aKeep aNext aLoop = real) {e : Nat} {K : Bool → Prop} (z : Bool) (h : K z) : aNew e K := by
  have e1 : aNew = real.new := congrArg Ar.new hA
  rw [e1]
  exact ⟨z, h⟩
/-- A slice's literal: true: it is deep data; false: a row of the call's own. -/
theorem lit_at (hA : Ar.mk aWrap aAdd aSub aMul aQuo aRem aLt aLe aEq aNz aSeq aSlt aBytes aCat aFits aSlen aSget aSsub aNat aLen aGet aSub2 aApp aSet aRoom aMlook aMput aRep aCall aCalld aCallo aNew aLit aKeep aNext aLoop = real) {t : Nat} {K : Bool → Prop} (c : Bool) (h : K c) : aLit t K := by
  have e : aLit = real.lit := congrArg Ar.lit hA
  rw [e]
  exact ⟨c, h⟩
/-- The arithmetic, as it is meant. -/
theorem ar_at (hA : Ar.mk aWrap aAdd aSub aMul aQuo aRem aLt aLe aEq aNz aSeq aSlt aBytes aCat aFits aSlen aSget aSsub aNat aLen aGet aSub2 aApp aSet aRoom aMlook aMput aRep aCall aCalld aCallo aNew aLit aKeep aNext aLoop = real) : (∀ k n, aWrap k n = k.wrap n) ∧ (∀ x y, aAdd x y = x + y) ∧ (∀ x y, aSub x y = x - y) ∧ (∀ x y, aMul x y = x * y) ∧ (∀ x y, aQuo x y = x.tdiv y) ∧ (∀ x y, aRem x y = x.tmod y) ∧ (∀ x y, aLt x y = decide (x < y)) ∧ (∀ x y, aLe x y = decide (x ≤ y)) ∧ (∀ x y, aEq x y = (x == y)) := by
  injection hA
  subst_vars
  exact ⟨fun _ _ => rfl, fun _ _ => rfl, fun _ _ => rfl, fun _ _ => rfl, fun _ _ => rfl, fun _ _ => rfl, fun _ _ => rfl, fun _ _ => rfl, fun _ _ => rfl⟩
theorem str_at (hA : Ar.mk aWrap aAdd aSub aMul aQuo aRem aLt aLe aEq aNz aSeq aSlt aBytes aCat aFits aSlen aSget aSsub aNat aLen aGet aSub2 aApp aSet aRoom aMlook aMput aRep aCall aCalld aCallo aNew aLit aKeep aNext aLoop = real) : (∀ x y, aSeq x y = (x == y)) ∧ (∀ x y, aSlt x y = Op.bytesLess x y) ∧ (∀ b, aBytes b = b.toList) ∧ (∀ x y, aCat x y = x ++ y) ∧ (∀ b, aSlen b = (b.size : Int)) ∧ (∀ b n, aSget b n = real.sget b n) ∧ (∀ b l h, aSsub b l h = real.ssub b l h) := by
  injection hA
  subst_vars
  exact ⟨fun _ _ => rfl, fun _ _ => rfl, fun _ => rfl, fun _ _ => rfl, fun _ => rfl, fun _ _ => rfl, fun _ _ _ => rfl⟩
theorem row_at (hA : Ar.mk aWrap aAdd aSub aMul aQuo aRem aLt aLe aEq aNz aSeq aSlt aBytes aCat aFits aSlen aSget aSsub aNat aLen aGet aSub2 aApp aSet aRoom aMlook aMput aRep aCall aCalld aCallo aNew aLit aKeep aNext aLoop = real) : (∀ r, aLen r = (r.length : Int)) ∧ (∀ r n, aGet r n = if 0 ≤ n then r[n.toNat]? else none) ∧ (∀ r l h, aSub2 r l h = real.sub2 r l h) ∧ (∀ x y, aApp x y = x ++ y) := by
  injection hA
  subst_vars
  exact ⟨fun _ => rfl, fun _ _ => rfl, fun _ _ _ => rfl, fun _ _ => rfl⟩
theorem map_at (hA : Ar.mk aWrap aAdd aSub aMul aQuo aRem aLt aLe aEq aNz aSeq aSlt aBytes aCat aFits aSlen aSget aSsub aNat aLen aGet aSub2 aApp aSet aRoom aMlook aMput aRep aCall aCalld aCallo aNew aLit aKeep aNext aLoop = real) : (∀ es r, aMlook es r = mget es r) ∧ (∀ es r q, aMput es r q = mset es r q) ∧ (∀ i n, aNat i n = real.nat i n) ∧ ∀ rows i y, aSet rows i y = rows.set i.toNat y := by
  injection hA
  subst_vars
  exact ⟨fun _ _ => rfl, fun _ _ _ => rfl, fun _ _ => rfl, fun _ _ _ => rfl⟩
/-- A divisor that is not 0; a text, a row that is not too long. -/
theorem nz_at (hA : Ar.mk aWrap aAdd aSub aMul aQuo aRem aLt aLe aEq aNz aSeq aSlt aBytes aCat aFits aSlen aSget aSsub aNat aLen aGet aSub2 aApp aSet aRoom aMlook aMput aRep aCall aCalld aCallo aNew aLit aKeep aNext aLoop = real) {x : Int} {k : Prop} (h : x ≠ 0) (hk : k) : aNz x k := by
  have e : aNz = real.nz := congrArg Ar.nz hA
  rw [e]
  exact ⟨h, hk⟩
theorem fits_at (hA : Ar.mk aWrap aAdd aSub aMul aQuo aRem aLt aLe aEq aNz aSeq aSlt aBytes aCat aFits aSlen aSget aSsub aNat aLen aGet aSub2 aApp aSet aRoom aMlook aMput aRep aCall aCalld aCallo aNew aLit aKeep aNext aLoop = real) {x y : ByteArray} {k : Prop} (h : x.size + y.size ≤ 4611686018427387904) (hk : k) : aFits x y k := by
  have e : aFits = real.fits := congrArg Ar.fits hA
  rw [e]
  exact ⟨h, hk⟩
theorem room_at (hA : Ar.mk aWrap aAdd aSub aMul aQuo aRem aLt aLe aEq aNz aSeq aSlt aBytes aCat aFits aSlen aSget aSsub aNat aLen aGet aSub2 aApp aSet aRoom aMlook aMput aRep aCall aCalld aCallo aNew aLit aKeep aNext aLoop = real) {x y : List (List D)} {k : Prop} (h : x.length + y.length ≤ 137438953472) (hk : k) : aRoom x y k := by
  have e : aRoom = real.room := congrArg Ar.room hA
  rw [e]
  exact ⟨h, hk⟩
/-- A call's body is walked in place. -/
theorem inl_at (hA : Ar.mk aWrap aAdd aSub aMul aQuo aRem aLt aLe aEq aNz aSeq aSlt aBytes aCat aFits aSlen aSget aSsub aNat aLen aGet aSub2 aApp aSet aRoom aMlook aMput aRep aCall aCalld aCallo aNew aLit aKeep aNext aLoop = real) {f : Nat} {fn : Func} {c : Code} {vs : List V} {s : S} {K : V → S → Prop} (hf : Tryd.prog.funcs[f]? = some fn) (hb : fn.body = some c) (hn : (fn.name != "runtime.NumGoroutine") = true) (hc : okCode Tryd.prog c = true) (hr : okRes fn.results.toList = true)
    (h : exec (Ar.mk aWrap aAdd aSub aMul aQuo aRem aLt aLe aEq aNz aSeq aSlt aBytes aCat aFits aSlen aSget aSsub aNat aLen aGet aSub2 aApp aSet aRoom aMlook aMput aRep aCall aCalld aCallo aNew aLit aKeep aNext aLoop) c (startI vs s.o (fn.ntmps - lenL vs)) (fun x s2 => retI (Ar.mk aWrap aAdd aSub aMul aQuo aRem aLt aLe aEq aNz aSeq aSlt aBytes aCat aFits aSlen aSget aSsub aNat aLen aGet aSub2 aApp aSet aRoom aMlook aMput aRep aCall aCalld aCallo aNew aLit aKeep aNext aLoop) (lenO s.o) (fun v o' ks => K v ⟨killTs ks s.t, o'⟩) fn.results.toList x s2)) : aCallo f vs s K := by
  have e : aCallo = real.callo := congrArg Ar.callo hA
  rw [hA] at h
  rw [e]
  exact inl_ok hf hb hn hc hr h
end
end Go.Proofs.YtgedpbpfoaljhaaDoor.Vm

/- Part 14 of the proof: VRangeO, VDraw2, VDraw3, VTree, VTree2, VTree3, VTree4, VTree5, VTree6, VCopiedO, VKJoinO, VKCanonO, VPRight4, VKSame, VBnd, VAlike, VRSame, VMa1, VAp1, VAp2, VAp4. Conditions: none. -/
import Derived.Test.YtclehkgnacekkaaB3
import Derived.Test.YtclehkgnacekkaaB6
import Derived.Test.YtclehkgnacekkaaB7
import Derived.Test.YtclehkgnacekkaaB8
import Derived.Test.YtclehkgnacekkaaB12
import Derived.Test.YtclehkgnacekkaaB13
import Derived.IntWalk
set_option linter.all false
set_option linter.unusedVariables false
set_option linter.unusedSimpArgs false
section
namespace Go.Proofs.Ytclehkgnacekkaa.Vm
open Go.RowKit
def endKO (l : List ResultVar) (Q : List V → List O → Prop) (m : Nat) (kl : List Nat) : Vm.X → S → Prop
  | .exit _, _ => False
  | _, s => getO s.o m = .kl kl ∧ resO real s l (fun vs => real.keep 0 Q vs ⟨s.t, setO s.o m .dead⟩)
def postO (I : Nat → Nat → Prop) (w : World) (Q : List V → List O → Prop) (e : Ending) (w' : World) : Prop := ∃ us res os2 I' g', e = .returned (pkg us) ∧ Q res os2 ∧ RelI I (fun _ => False) ⟨w, fun _ => .nilFunc, 0, []⟩ I' g' ⟨res, os2⟩ { tmps := us.toArray, defers := [] } w'
theorem ends_speco {c2 : Code} {n D : Nat} {fn : Func} {Q : List V → List O → Prop} {w : World} {I IN : Nat → Nat → Prop} {gN : Nat → Value} {t : List V} {oN : List O} {a : Act} {W : World} {kl : List Nat} (hc : okCode Try.prog c2 = true) (hr : okRes fn.results.toList = true)
    (h : RelI I (fun _ => False) ⟨w, fun _ => .nilFunc, 0, []⟩ IN gN ⟨t, oN⟩ a W) (hID : ∀ k, ¬ IN D k) (hD0 : w.heap.size ≤ D) (hD : W.heap[D]? = some (.deferred (some [])))
    (hx : exec real c2 ⟨t, snocO oN (.kl [])⟩ (fun x s => endKO fn.results.toList Q (lenO oN) kl x s)) :
    c2.wpIn (FW none) n Try.prog (bodyPostM (FW none) n Try.prog fn (postO I w Q)) { a with defers := { target := .collected D, args := #[] } :: a.defers } W := by
  obtain ⟨g', hg, hgn, h1⟩ := h.rebase h.tmp
  have hDt : D < W.heap.size := (Array.getElem?_eq_some_iff.1 hD).1
  have hXD : ¬ Xof g' (snocO oN (.kl [])) D := fun ⟨j, x, hj, hd, hb⟩ => blk_turn hD rfl (h1.obj j x hj) hd hb
  have h2 := h1.mark [{ target := .collected D, args := #[] }]
  have ea : ({ ({ tmps := a.tmps.toList.toArray, defers := [] } : Act) with defers := [{ target := .collected D, args := #[] }] } : Act) = { a with defers := { target := .collected D, args := #[] } :: a.defers } := by
    have := h.dfr
    cases a
    simp only at this
    subst this
    rfl
  rw [ea] at h2
  refine exec_in c2 _ _ _ _ _ hc ⟨IN, g', h2⟩ hx fun e s2 a2 W2 hrel hk => ?_
  obtain ⟨I2, g2, h3⟩ := hrel
  have hD2 : W2.heap[D]? = some (.deferred (some [])) := (h3.fr.block D hDt hXD).trans hD
  have hI2D : ∀ k, ¬ I2 D k := fun k hk => by
    rcases (h3.lt D k hk).2 hDt with h4 | h4
    · exact hID k h4
    · exact hXD h4
  have key : (getO s2.o (lenO oN) = .kl kl ∧ resO real s2 fn.results.toList (fun vs => real.keep 0 Q vs ⟨s2.t, setO s2.o (lenO oN) .dead⟩)) → LeavesInM (FW none) n Try.prog fn a2.tmps (postO I w Q) a2.defers .returning W2 := fun ⟨hkl, hres⟩ => by
    rw [h3.dfr]
    have h4 := h3.turnBoth (y' := .deferred none) hD2 rfl hD hI2D
    have h5 := h.turned (y' := .deferred none) hD rfl hD0 hID
    have h6 := h4.mark []
    have hkl := getO_some hkl (by simp)
    rw [lenO_is] at hkl
    obtain ⟨_, h7⟩ := h5.unbase hg hgn h6 hkl
    obtain ⟨us, vs, r1, r2, ks, res', os', hko, hQ⟩ := resultsO_at h4 hr hres
    refine ⟨by simp, .inl ⟨_, _, rfl, run_takeDeferred hD2, ?_⟩⟩
    rw [setO_is, lenO_is] at hko
    refine ⟨_, r1, us, res', os', I2, _, rfl, hQ, keep_at (w0 := ⟨w, fun _ => .nilFunc, 0, []⟩) h7 rfl ⟨hko.nd, hko.len, hko.head, hko.args, hko.objs, hko.low, hko.lowo, hko.nk⟩ r2⟩
  cases e with
  | normal => exact key hk
  | exit i => exact hk.elim
  | ret => exact key hk
theorem speco_range {f : Nat} {fn : Func} {c0 c1 cp c2 asg bdy : Code} {bi : Nat} {g0 : Operand} {ps : Array Tmp} {vs : List V} {Q : List V → List O → Prop} {Pre : S → Prop} (hf : Try.prog.funcs[f]? = some fn)
    (hb : fn.body = some (.seq c0 (.seq c1 (.seq (.seq cp (.block bi (.rangeFunc g0 ps asg bdy))) c2)))) (hn : (fn.name != "runtime.NumGoroutine") = true) (h0 : okCode Try.prog c0 = true) (h1 : okCode Try.prog c1 = true) (hp : okCode Try.prog cp = true)
    (hpre : exec real (.seq c0 (.seq c1 cp)) (startO vs [] (fn.ntmps - lenL vs)) (fun x s => x = .normal ∧ Pre s))
    (hmid : ∀ (I I' : Nat → Nat → Prop) (g : Nat → Value) (w W : World) (s : S) (a : Act), Pre s → RelI I (fun _ => False) ⟨w, fun _ => .nilFunc, 0, []⟩ I' g s a W →
      (Code.rangeFunc g0 ps asg bdy).wpIn (FW none) 3 Try.prog (Exit.inBlock bi (Exit.then (c2.wpIn (FW none) 3 Try.prog (bodyPostM (FW none) 3 Try.prog fn (postO I w Q)))
        (bodyPostM (FW none) 3 Try.prog fn (postO I w Q)))) a W) : SpecO f vs [] Q := by
  refine ⟨by unfold fnOk; rw [hf]; simp only [hn, hb]; rfl, ?_⟩
  intro I w g args hrel
  have hg0 : g = fun _ => .nilFunc := funext fun k => hrel.out k (Nat.zero_le _)
  have hX0 : Xof g [] = fun _ => False := funext fun b => propext ⟨fun ⟨k, o, hk, _⟩ => by simp at hk, fun h => h.elim⟩
  rw [hX0] at hrel ⊢
  subst hg0
  have hv : AtVs I w _ args vs := hrel.tmp
  have hsz : args.toArray.size = lenL vs := by rw [lenL_is]; simp [hv.1]
  refine callsIn_wide.1 (callsIn_of_wp_marks (n := 3) hf hb trivial ?_)
  rw [hsz]
  have hst : RelI I (fun _ => False) ⟨w, fun _ => .nilFunc, 0, []⟩ I (fun _ => .nilFunc) (startO vs [] (fn.ntmps - lenL vs)) { tmps := args.toArray ++ Array.replicate (fn.ntmps - lenL vs) undef, defers := [] } w := by
    refine ⟨hrel.im, hrel.lt, hrel.fr, hrel.kp, hrel.lo, hrel.st, hrel.obj, hrel.dis, hrel.out, ?_, rfl⟩
    show AtVs I w _ (args.toArray ++ Array.replicate (fn.ntmps - lenL vs) undef).toList (appV vs (uns (fn.ntmps - lenL vs)))
    rw [appV_is, Array.toList_append, uns_is]
    refine hv.append ?_
    rw [Array.toList_replicate]
    refine ⟨by simp, fun i u c hu hc => ?_⟩
    rw [List.getElem?_replicate] at hu hc
    split at hu
    · rename_i hi
      rw [if_pos hi] at hc
      injection hu with hu
      injection hc with hc
      subst hu; subst hc
      exact .tu [] [] rfl fun i u c hu _ => by simp at hu
    · cases hu
  refine wpIn_seq (exec_in (ro := none) c0 _ _ _ _ _ h0 ⟨I, _, hst⟩ hpre fun e s1 a1 W1 hr1 hk1 => ?_)
  cases e with
  | normal =>
    obtain ⟨F1, hg1, hk1⟩ := hk1
    obtain ⟨z1, hf1, hr1'⟩ := hg1 _ _ _ _ _ hr1
    refine wpIn_seq (exec_in (ro := none) c1 _ _ _ _ _ h1 hr1' (hk1 z1 hf1) fun e s2 a2 W2 hr2 hk2 => ?_)
    cases e with
    | normal =>
      obtain ⟨F2, hg2, hk2⟩ := hk2
      obtain ⟨z2, hf2, hr2'⟩ := hg2 _ _ _ _ _ hr2
      refine wpIn_seq (wpIn_seq (exec_in (ro := none) cp _ _ _ _ _ hp hr2' (hk2 z2 hf2) fun e s3 a3 W3 hr3 hk3 => ?_))
      obtain ⟨he, hP⟩ := hk3
      subst he
      obtain ⟨I', g', h3⟩ := hr3
      exact wpIn_block (hmid I I' g' w W3 s3 a3 hP h3)
    | exit i => exact absurd hk2.1 (by simp)
    | ret => exact absurd hk2.1 (by simp)
  | exit i => exact absurd hk1.1 (by simp)
  | ret => exact absurd hk1.1 (by simp)
end Go.Proofs.Ytclehkgnacekkaa.Vm
end
section
namespace Go.Proofs.Ytclehkgnacekkaa.Vm
open Go.RowKit
def dd : List Nat → List Nat
  | [] => []
  | x :: l => match l.any (Nat.beq x) with | true => dd l | false => x :: dd l
theorem dd_mem (x : Nat) : ∀ l : List Nat, x ∈ dd l ↔ x ∈ l
  | [] => Iff.rfl
  | y :: l => by
    rw [dd]
    cases h : l.any (Nat.beq y) with
    | true =>
      simp only [dd_mem x l, List.mem_cons]
      refine ⟨.inr, fun h2 => h2.elim (fun e => ?_) id⟩
      obtain ⟨z, hz, he⟩ := List.any_eq_true.1 h
      rw [Nat.beq_eq] at he
      rw [e, he]
      exact hz
    | false => simp only [List.mem_cons, dd_mem x l]
def ancs2 : List Oper → List (List Nat) → List (List Nat)
  | [], acc => acc
  | o :: l, acc => ancs2 l (acc ++ [dd ((direct o).flatMap fun j => j :: acc.getD j [])])
def SameM (a b : List (List Nat)) : Prop := a.length = b.length ∧ ∀ i j, j ∈ a.getD i [] ↔ j ∈ b.getD i []
theorem SameM.snoc {a b : List (List Nat)} (h : SameM a b) {x y : List Nat} (hx : ∀ j, j ∈ x ↔ j ∈ y) : SameM (a ++ [x]) (b ++ [y]) := by
  refine ⟨by simp [h.1], fun i j => ?_⟩
  rcases Nat.lt_trichotomy i a.length with hi | hi | hi
  · have e1 : (a ++ [x]).getD i [] = a.getD i [] := by rw [List.getD_eq_getElem?_getD, List.getElem?_append_left hi, List.getD_eq_getElem?_getD]
    have e2 : (b ++ [y]).getD i [] = b.getD i [] := by rw [List.getD_eq_getElem?_getD, List.getElem?_append_left (by rw [← h.1]; exact hi), List.getD_eq_getElem?_getD]
    rw [e1, e2]
    exact h.2 i j
  · have e1 : (a ++ [x]).getD i [] = x := by rw [List.getD_eq_getElem?_getD, hi]; simp
    have e2 : (b ++ [y]).getD i [] = y := by rw [List.getD_eq_getElem?_getD, hi, h.1]; simp
    rw [e1, e2]
    exact hx j
  · have e1 : (a ++ [x]).getD i [] = [] := by rw [List.getD_eq_getElem?_getD, List.getElem?_eq_none (by simp; omega)]; rfl
    have e2 : (b ++ [y]).getD i [] = [] := by rw [List.getD_eq_getElem?_getD, List.getElem?_eq_none (by simp; have := h.1; omega)]; rfl
    rw [e1, e2]
theorem ancs_same : ∀ (l : List Oper) (a b : List (List Nat)), SameM a b → SameM (ancs l a) (ancs2 l b)
  | [], a, b, h => h
  | o :: l, a, b, h => by
    rw [ancs, ancs2]
    refine ancs_same l _ _ (h.snoc fun j => ?_)
    rw [dd_mem, List.mem_flatMap, List.mem_flatMap]
    refine exists_congr fun k => and_congr_right fun _ => ?_
    rw [List.mem_cons, List.mem_cons, h.2 k j]
def okDraw2 (ops : Array Oper) : Bool :=
  let l := ops.toList
  let an := ancs2 l []
  let d := dstsOf l
  (List.range l.length).all fun i => (an.getD i []).all (fun j => Nat.blt j i) && (List.range i).all fun j => okPair d (lsPairs l) l an j i
theorem okDraw2_ok {ops : Array Oper} (h : okDraw2 ops = true) : okDraw ops = true := by
  have hs := ancs_same ops.toList [] [] ⟨rfl, fun _ _ => Iff.rfl⟩
  refine List.all_eq_true.2 fun i hi => ?_
  have h1 := List.all_eq_true.1 h i hi
  rw [Bool.and_eq_true] at h1 ⊢
  refine ⟨List.all_eq_true.2 fun j hj => List.all_eq_true.1 h1.1 j ((hs.2 i j).1 hj), List.all_eq_true.2 fun j hj => ?_⟩
  have h2 := List.all_eq_true.1 h1.2 j hj
  unfold okPair at h2 ⊢
  rw [Bool.or_eq_true] at h2 ⊢
  refine h2.imp (fun h3 => ?_) id
  rw [List.contains_iff_mem] at h3 ⊢
  exact (hs.2 i j).2 h3
def okCode2 (P : Program) : Code → Bool
  | .region _ ops d => okOps P ops.toList && (!d || okDraw2 ops)
  | .seq c d => okCode2 P c && okCode2 P d
  | .cond _ c d => okCode2 P c && okCode2 P d
  | .block _ c => okCode2 P c
  | .loop c => okCode2 P c
  | _ => true
theorem okCode2_ok {P : Program} : ∀ {c : Code}, okCode2 P c = true → okCode P c = true
  | .region _ ops d, h => by
    simp only [okCode, okCode2, Bool.and_eq_true, Bool.or_eq_true] at h ⊢
    exact ⟨h.1, h.2.imp id okDraw2_ok⟩
  | .seq c d, h => by
    simp only [okCode, okCode2, Bool.and_eq_true] at h ⊢
    exact ⟨okCode2_ok h.1, okCode2_ok h.2⟩
  | .cond _ c d, h => by
    simp only [okCode, okCode2, Bool.and_eq_true] at h ⊢
    exact ⟨okCode2_ok h.1, okCode2_ok h.2⟩
  | .block _ c, h => okCode2_ok (c := c) h
  | .loop c, h => okCode2_ok (c := c) h
  | .skip, _ => rfl
  | .exit _, _ => rfl
  | .ret, _ => rfl
  | .rangeFunc _ _ _ _, _ => rfl
  | .scope _, _ => rfl
  | .label _, _ => rfl
  | .goto _, _ => rfl
  | .refuse _, _ => rfl
end Go.Proofs.Ytclehkgnacekkaa.Vm
end
section
namespace Go.Proofs.Ytclehkgnacekkaa.Vm
open Go.RowKit
def delN (i : Nat) : List Nat → List Nat
  | [] => []
  | x :: l => match eqN x i with | true => delN i l | false => x :: delN i l
def getLN : List (List Nat) → Nat → List Nat
  | [], _ => []
  | x :: _, 0 => x
  | _ :: l, n + 1 => getLN l n
def nthO : List Oper → Nat → Option Oper
  | [], _ => none
  | x :: _, 0 => some x
  | _ :: l, n + 1 => nthO l n
def noneIn : List Nat → List Nat → Bool
  | [], _ => true
  | j :: m, l => match memN j l with | true => false | false => noneIn m l
def rdyB (an : List (List Nat)) (l : List Nat) (i : Nat) : Bool := noneIn (getLN an i) l
def firstFree (an : List (List Nat)) (l : List Nat) : List Nat → Option Nat
  | [] => none
  | i :: fr => match memN i l with
    | true => match rdyB an l i with | true => some i | false => firstFree an l fr
    | false => firstFree an l fr
def rdys (an : List (List Nat)) (l : List Nat) : List Nat → List Nat
  | [] => []
  | i :: m => match rdyB an l i with | true => i :: rdys an l m | false => rdys an l m
def allF (f : Nat → Prop) : List Nat → Prop
  | [] => True
  | [i] => f i
  | i :: j :: l => f i ∧ allF f (j :: l)
theorem allF_at {f : Nat → Prop} : ∀ {l : List Nat}, allF f l → ∀ i ∈ l, f i
  | [], _, i, h => by simp at h
  | [x], h, i, hi => by simp at hi; subst hi; exact h
  | x :: y :: l, h, i, hi => by
    rcases List.mem_cons.1 hi with rfl | hi
    · exact h.1
    · exact allF_at h.2 i hi
def anyF (a : Ar) (dsts : List (Option Nat)) (all : List Oper) (an : List (List Nat)) (fr : List Nat) : Nat → List Nat → S → (S → Prop) → Prop
  | 0, _, s, K => a.next K s
  | n + 1, l, s, K => match firstFree an l fr with
    | some i => match nthO all i with
      | some o => runE a dsts [o] s (fun s => anyF a dsts all an fr n (delN i l) s K)
      | none => False
    | none => allF (fun i => match nthO all i with
      | some o => runE a dsts [o] s (fun s => anyF a dsts all an fr n (delN i l) s K)
      | none => False) (rdys an l l)
def isRd : Op → Bool
  | .move _ => true
  | .load _ _ => true
  | .fieldAddr _ _ _ => true
  | .field _ _ _ => true
  | .indexAddr _ _ _ => true
  | .extract _ _ => true
  | _ => false
def isRdO : Oper → Bool
  | ⟨_, op, _, _, _, none⟩ => isRd op
  | _ => false
def freeB (all : List Oper) (an : List (List Nat)) (i : Nat) : Bool := match all[i]? with
  | some o => isRdO o && (List.range all.length).all fun j => (an.getD i []).contains j || (an.getD j []).contains i || Nat.beq j i || match all[j]? with | some oj => isRdO oj && apart (dstsOf all) o oj | none => true
  | none => false
def planOk (ops : Array Oper) (fr : List Nat) : Bool :=
  let an := ancs ops.toList []
  (List.range ops.size).all (fun i => (an.getD i []).all fun j => Nat.blt j i) && fr.all (freeB ops.toList an)
theorem getLN_is : ∀ (l : List (List Nat)) (i : Nat), getLN l i = l.getD i []
  | [], i => by simp [getLN]
  | x :: l, 0 => rfl
  | x :: l, i + 1 => by rw [getLN, getLN_is l i]; simp
theorem nthO_is : ∀ (l : List Oper) (i : Nat), nthO l i = l[i]?
  | [], i => by simp [nthO]
  | x :: l, 0 => rfl
  | x :: l, i + 1 => by rw [nthO, nthO_is l i]; simp
theorem delN_mem {i j : Nat} : ∀ {l : List Nat}, j ∈ delN i l ↔ j ∈ l ∧ j ≠ i
  | [] => by simp [delN]
  | x :: l => by
    rw [delN]
    cases e : eqN x i
    · have := eqN_no.1 e
      simp only [List.mem_cons, delN_mem (l := l)]
      constructor
      · rintro (rfl | h)
        · exact ⟨.inl rfl, this⟩
        · exact ⟨.inr h.1, h.2⟩
      · rintro ⟨rfl | h, h2⟩
        · exact .inl rfl
        · exact .inr ⟨h, h2⟩
    · have := eqN_is.1 e
      subst this
      simp only [delN_mem (l := l), List.mem_cons]
      exact ⟨fun h => ⟨.inr h.1, h.2⟩, fun h => ⟨h.1.resolve_left h.2, h.2⟩⟩
theorem delN_comm {i j : Nat} : ∀ (l : List Nat), delN i (delN j l) = delN j (delN i l)
  | [] => rfl
  | x :: l => by
    cases e : eqN x i <;> cases e2 : eqN x j <;> simp [delN, e, e2, delN_comm l]
theorem noneIn_is : ∀ {m l : List Nat}, noneIn m l = true ↔ ∀ j ∈ m, j ∉ l
  | [], l => by simp [noneIn]
  | a :: m, l => by
    rw [noneIn]
    cases e : memN a l
    · simp only [List.forall_mem_cons, noneIn_is (m := m)]
      exact Iff.intro (fun h => And.intro (fun hm => (by rw [memN_is.2 hm] at e; cases e)) h) fun h => h.2
    · simp only [List.forall_mem_cons]
      exact Iff.intro (fun h => (by cases h)) fun h => absurd (memN_is.1 e) h.1
theorem rdy_is {an : List (List Nat)} {l : List Nat} {i : Nat} : rdyB an l i = true ↔ ∀ j ∈ an.getD i [], j ∉ l := by
  rw [rdyB, getLN_is, noneIn_is]
theorem rdys_mem {an : List (List Nat)} {l : List Nat} {i : Nat} : ∀ {m : List Nat}, i ∈ rdys an l m ↔ i ∈ m ∧ rdyB an l i = true
  | [] => by simp [rdys]
  | x :: m => by
    rw [rdys]
    cases e : rdyB an l x
    · simp only [rdys_mem (m := m), List.mem_cons]
      refine Iff.intro (fun h => ⟨.inr h.1, h.2⟩) fun h => ⟨h.1.resolve_left fun e2 => ?_, h.2⟩
      rw [e2, e] at h
      cases h.2
    · simp only [List.mem_cons, rdys_mem (m := m)]
      constructor
      · rintro (rfl | h)
        · exact ⟨.inl rfl, e⟩
        · exact ⟨.inr h.1, h.2⟩
      · rintro ⟨rfl | h, h2⟩
        · exact .inl rfl
        · exact .inr ⟨h, h2⟩
theorem firstFree_is {an : List (List Nat)} {l : List Nat} {i : Nat} : ∀ {fr : List Nat}, firstFree an l fr = some i → i ∈ fr ∧ i ∈ l ∧ rdyB an l i = true
  | [], h => by cases h
  | x :: fr, h => by
    rw [firstFree] at h
    split at h
    · rename_i hm
      split at h
      · rename_i hr
        injection h with h
        subst h
        exact ⟨List.mem_cons_self .., memN_is.1 hm, hr⟩
      · obtain ⟨h1, h2⟩ := firstFree_is h
        exact ⟨List.mem_cons_of_mem _ h1, h2⟩
    · obtain ⟨h1, h2⟩ := firstFree_is h
      exact ⟨List.mem_cons_of_mem _ h1, h2⟩
def SemO (ops : Array Oper) (o : Oper) (s : S) (K1 : S → Prop) : Prop := ∀ (I0 : Nat → Nat → Prop) (X : Nat → Prop) (w0 : W0) (a : Act) (w : World) (ro : Option Nat) (n : Nat) (Q : Exit → Act → World → Prop) (Kw : Act → World → Prop), okOp Try.prog o.op = true → Rel I0 X w0 s a w → (∀ s' a' w', Rel I0 X w0 s' a' w' → K1 s' → Kw a' w') →
  if Region.wanted o (yielded ops a.tmps) then o.wpIn (FW ro) n Try.prog a w Kw Q else (∀ f, o.about Try.prog w a.eval = some f → (FW ro).fn f) ∧ Kw (a.put o.dst undef) w
theorem SemO.mono {ops : Array Oper} {o : Oper} {s : S} {K K' : S → Prop} (h : SemO ops o s K) (hK : ∀ s, K s → K' s) : SemO ops o s K' :=
  fun I0 X w0 a w ro n Q Kw hop hr hk => h I0 X w0 a w ro n Q Kw hop hr fun s' a' w' h1 h2 => hk s' a' w' h1 (hK s' h2)
theorem semE {ops : Array Oper} {o : Oper} {s : S} {K1 : S → Prop} (h : runE real (dstsOf ops.toList) [o] s K1) : SemO ops o s K1 := by
  intro I0 X w0 a w ro n Q Kw hop hrel hKw
  obtain ⟨dst, op, type, pos, after, gd⟩ := o
  have hstep : step1 real s dst K1 op → Oper.wpIn (FW ro) n Try.prog ⟨dst, op, type, pos, after, gd⟩ a w Kw Q := fun hs =>
    op_in (fun c hc => no_defer hop c hc) (Oper.wp_mono (fun a' w' ⟨s', h1, h2⟩ => hKw s' a' w' h1 h2) (step1_ok hrel (o := ⟨dst, op, type, pos, after, gd⟩) (Q := Q) hop hs))
  have hskip : K1 (s.put dst vun) → Kw (a.put dst undef) w := fun hs => by
    obtain ⟨I, g, h⟩ := hrel
    exact hKw _ _ w ⟨I, g, h.put (x := vun) (.tu [] [] rfl (fun i u c hu _ => by simp at hu)) dst⟩ hs
  cases gd with
  | none =>
    rw [if_pos (by rfl)]
    rw [runE] at h
    exact hstep h
  | some jb =>
    obtain ⟨j, b⟩ := jb
    rw [runE] at h
    obtain ⟨c, hc, hK⟩ := guard_at hrel h
    have hw : Region.wanted ⟨dst, op, type, pos, after, some (j, b)⟩ (yielded ops a.tmps) = (c == some b) := by simp [Region.wanted, hc]
    rw [hw]
    cases c with
    | none =>
      rw [if_neg (by simp)]
      exact ⟨fun _ _ => trivial, hskip hK⟩
    | some c =>
      simp only at hK
      split at hK
      · rename_i hb
        rw [bEq_is] at hb
        rw [if_pos (by simpa using hb)]
        exact hstep hK
      · rename_i hb
        rw [bEq_is] at hb
        rw [if_neg (by simpa using hb)]
        exact ⟨fun _ _ => trivial, hskip hK⟩
theorem rd_exec {dsts : List (Option Nat)} {o : Oper} (ho : isRdO o = true) {s : S} {K : S → Prop} : runE real dsts [o] s K = exec1 real dsts o s K := by
  obtain ⟨dst, op, type, pos, after, gd⟩ := o
  cases gd with
  | some g => cases ho
  | none =>
    have h : isRd op = true := ho
    cases op <;> first | rfl | cases h
def exG (ops : Array Oper) (o : Oper) (s : S) (K : S → Prop) : Prop := if isRdO o = true then exec1 real (dstsOf ops.toList) o s K else SemO ops o s K
theorem exG.mono {ops : Array Oper} {o : Oper} {s : S} {K K' : S → Prop} (h : exG ops o s K) (hK : ∀ s, K s → K' s) : exG ops o s K' := by
  unfold exG at h ⊢
  split
  · rename_i hr
    rw [if_pos hr] at h
    exact exec1_mono2 hK h
  · rename_i hr
    rw [if_neg hr] at h
    exact h.mono hK
theorem exG.sem {ops : Array Oper} {o : Oper} {s : S} {K : S → Prop} (h : exG ops o s K) : SemO ops o s K := by
  unfold exG at h
  split at h
  · rename_i hr
    rw [← rd_exec hr] at h
    exact semE h
  · exact h
theorem exG.of {ops : Array Oper} {o : Oper} {s : S} {K : S → Prop} (h : runE real (dstsOf ops.toList) [o] s K) : exG ops o s K := by
  unfold exG
  split
  · rename_i hr
    rw [← rd_exec hr]
    exact h
  · exact semE h
def AnyN (ops : Array Oper) (K : S → Prop) : Nat → List Nat → S → Prop
  | 0, l, s => real.next K s
  | n + 1, l, s => (∃ i o, i ∈ l ∧ rdyB (ancs ops.toList []) l i = true ∧ freeB ops.toList (ancs ops.toList []) i = true ∧ ops.toList[i]? = some o ∧ exG ops o s (AnyN ops K n (delN i l))) ∨
      ∀ i, i ∈ l → rdyB (ancs ops.toList []) l i = true → ∃ o, ops.toList[i]? = some o ∧ exG ops o s (AnyN ops K n (delN i l))
theorem any_of {ops : Array Oper} {fr : List Nat} (hfr : ∀ i ∈ fr, freeB ops.toList (ancs ops.toList []) i = true) : ∀ {n : Nat} {l : List Nat} {s : S} {K : S → Prop}, anyF real (dstsOf ops.toList) ops.toList (ancs ops.toList []) fr n l s K → AnyN ops K n l s
  | 0, l, s, K, h => h
  | n + 1, l, s, K, h => by
    rw [anyF] at h
    split at h
    · rename_i i hi
      obtain ⟨h1, h2, h3⟩ := firstFree_is hi
      split at h <;> try exact h.elim
      rename_i o ho
      rw [nthO_is] at ho
      exact .inl ⟨i, o, h2, h3, hfr i h1, ho, (exG.of h).mono fun s hs => any_of hfr hs⟩
    · refine .inr fun i hi hr => ?_
      have h4 := allF_at h i (rdys_mem.2 ⟨hi, hr⟩)
      split at h4 <;> try exact h4.elim
      rename_i o ho
      rw [nthO_is] at ho
      exact ⟨o, ho, (exG.of h4).mono fun s hs => any_of hfr hs⟩
theorem any_len {l : List Nat} {i : Nat} (hn : l.Nodup) (hi : i ∈ l) : (delN i l).length + 1 = l.length := by
  have e : ∀ l : List Nat, delN i l = l.filter (· != i) := by
    intro l
    induction l with
    | nil => rfl
    | cons x l ih =>
      rw [delN, List.filter_cons]
      cases e : eqN x i
      · have := eqN_no.1 e; simp [this, ih]
      · have := eqN_is.1 e; simp [this, ih]
  rw [e, ← hn.erase_eq_filter, List.length_erase_of_mem hi]
  have := List.length_pos_of_mem hi
  omega
theorem delN_nodup {i : Nat} : ∀ {l : List Nat}, l.Nodup → (delN i l).Nodup
  | [], _ => List.nodup_nil
  | x :: l, h => by
    obtain ⟨h1, h2⟩ := List.nodup_cons.1 h
    rw [delN]
    cases eqN x i
    · exact List.nodup_cons.2 ⟨fun hm => h1 (delN_mem.1 hm).1, delN_nodup h2⟩
    · exact delN_nodup h2
theorem any_pick {ops : Array Oper} {K : S → Prop} : ∀ {n : Nat} {l : List Nat} {s : S}, AnyN ops K (n + 1) l s → l.Nodup → l.length = n + 1 → ∀ {j : Nat} {oj : Oper}, j ∈ l → rdyB (ancs ops.toList []) l j = true → ops.toList[j]? = some oj → exG ops oj s (AnyN ops K n (delN j l))
  | n, l, s, h, hn, hl, j, oj, hj, hr, ho => by
    rcases h with ⟨i, o, hi, hri, hf, hoi, h⟩ | h
    · by_cases e : i = j
      · subst e
        rw [hoi] at ho
        cases ho
        exact h
      · cases n with
        | zero =>
          match l, hl with
          | [x], _ => simp at hi hj; omega
        | succ n =>
          have hd := any_len hn hi
          have h1 : exG ops o s fun s => exG ops oj s (AnyN ops K n (delN j (delN i l))) := h.mono fun s hs => any_pick hs (delN_nodup hn) (by omega) (delN_mem.2 ⟨hj, fun e2 => e e2.symm⟩) (rdy_is.2 fun k hk hm => rdy_is.1 hr k hk (delN_mem.1 hm).1) ho
          have hjlt : j < ops.toList.length := (List.getElem?_eq_some_iff.1 ho).1
          unfold freeB at hf
          rw [hoi] at hf
          simp only [Bool.and_eq_true] at hf
          have h2 := List.all_eq_true.1 hf.2 j (by simpa using hjlt)
          rw [ho] at h2
          simp only [Bool.or_eq_true, Bool.and_eq_true, List.contains_iff_mem, Nat.beq_eq] at h2
          rcases h2 with ((h2 | h2) | h2) | h2
          · exact absurd hj (rdy_is.1 hri j h2)
          · exact absurd hi (rdy_is.1 hr i h2)
          · exact absurd h2.symm e
          · have e1 : ∀ K, exG ops o s K = exec1 real (dstsOf ops.toList) o s K := fun K => by unfold exG; rw [if_pos hf.1]
            have e2 : ∀ s K, exG ops oj s K = exec1 real (dstsOf ops.toList) oj s K := fun s K => by unfold exG; rw [if_pos h2.1]
            rw [e1] at h1
            have h3 := swap1 h2.2 (exec1_mono2 (fun s hs => by rw [e2] at hs; exact hs) h1)
            rw [e2]
            refine exec1_mono2 (fun s hs => ?_) h3
            refine .inl ⟨i, o, delN_mem.2 ⟨hi, e⟩, rdy_is.2 fun k hk hm => rdy_is.1 hri k hk (delN_mem.1 hm).1, ?_, hoi, ?_⟩
            · unfold freeB
              rw [hoi]
              simp only [Bool.and_eq_true]
              exact hf
            · rw [delN_comm]
              unfold exG
              rw [if_pos hf.1]
              exact hs
    · obtain ⟨o, ho', h⟩ := h j hj hr
      rw [ho] at ho'
      cases ho'
      exact h
section
variable {I0 : Nat → Nat → Prop} {X : Nat → Prop} {w0 : W0}
theorem any_go {ro : Option Nat} {n : Nat} {ops : Array Oper} {Q : Exit → Act → World → Prop} {K : S → Prop} (hQ : ∀ s' a' w', Rel I0 X w0 s' a' w' → K s' → Q .normal a' w') (hok : ∀ o ∈ ops.toList, okOp Try.prog o.op = true) (hd : ∀ i, i < ops.size → ∀ j ∈ (ancs ops.toList []).getD i [], j < i) : ∀ (fuel : Nat) (l : List Nat) (listed : Array Bool) (s : S) (a : Act) (w : World), l.length = fuel → listed.size = ops.size → l.Pairwise (· < ·) → (∀ i, i ∈ l ↔ i < ops.size ∧ listed.getD i true = false) → (∀ i, i < ops.size → listed.getD i false = true → ∀ j ∈ (ancs ops.toList []).getD i [], listed.getD j false = true) → Rel I0 X w0 s a w → AnyN ops K fuel l s → wpAnyIn (FW ro) n Try.prog .any ops Q fuel listed a w := by
  intro fuel
  induction fuel with
  | zero =>
    intro l listed s a w hl hsz hp hmem hcl hrel hK
    obtain rfl := List.length_eq_zero_iff.1 hl
    obtain ⟨F, hg, hk⟩ := hK
    obtain ⟨s', hf, hr'⟩ := hg _ _ _ _ _ hrel
    refine ⟨?_, hQ _ _ _ hr' (hk s' hf)⟩
    cases hr : Region.ready .any ops listed with
    | nil => rfl
    | cons x xs =>
      obtain ⟨h1, o, h2, _⟩ := mem_ready.1 (show x ∈ Region.ready .any ops listed by rw [hr]; exact List.mem_cons_self ..)
      have := (hmem x).2 ⟨(Array.getElem?_eq_some_iff.1 h2).1, h1⟩
      simp at this
  | succ fuel ih =>
    intro l listed s a w hl hsz hp hmem hcl hrel hK
    have un : ∀ j, j ∈ l → listed.getD j false = true → False := fun j hj h => by
      obtain ⟨h1, h2⟩ := (hmem j).1 hj
      simp [hsz, h1] at h h2
      rw [h2] at h; cases h
    refine ⟨fun hr => ?_, fun i hi => ?_⟩
    · exfalso
      cases l with
      | nil => simp at hl
      | cons i0 rest =>
        obtain ⟨h1, h2⟩ := (hmem i0).1 (List.mem_cons_self ..)
        obtain ⟨o, ho⟩ : ∃ o, ops[i0]? = some o := ⟨_, Array.getElem?_eq_getElem h1⟩
        have : i0 ∈ Region.ready .any ops listed := mem_ready.2 ⟨h2, o, ho, fun e he hb => by
          have h3 : e.on ∈ (ancs ops.toList []).getD i0 [] := by
            rw [an_at ho (hd i0 h1)]
            exact List.mem_flatMap.2 ⟨e.on, direct_mem he hb, List.mem_cons_self ..⟩
          have h4 := hd i0 h1 _ h3
          have h5 : ¬ (e.on ∈ i0 :: rest) := fun hm => by
            rcases List.mem_cons.1 hm with hm | hm
            · omega
            · have := (List.pairwise_cons.1 hp).1 _ hm
              omega
          have h6 : listed.getD e.on true = true := by
            cases hx : listed.getD e.on true with
            | true => rfl
            | false => exact absurd ((hmem e.on).2 ⟨by omega, hx⟩) h5
          have hlt : e.on < listed.size := by omega
          simpa [hlt] using h6⟩
        rw [hr] at this
        simp at this
    · obtain ⟨h1, o, ho, hall⟩ := mem_ready.1 hi
      have hlt := (Array.getElem?_eq_some_iff.1 ho).1
      have hil : i ∈ l := (hmem i).2 ⟨hlt, h1⟩
      have han : ∀ j ∈ (ancs ops.toList []).getD i [], listed.getD j false = true := fun j hj => by
        rw [an_at ho (hd i hlt)] at hj
        obtain ⟨k, hk, hj⟩ := List.mem_flatMap.1 hj
        obtain ⟨e, he, hek⟩ := List.mem_map.1 hk
        obtain ⟨he1, he2⟩ := List.mem_filter.1 he
        subst hek
        have h3 := hall e (by simpa using he1) he2
        rcases List.mem_cons.1 hj with rfl | hj
        · exact h3
        · have : e.on < ops.size := by
            rcases Nat.lt_or_ge e.on listed.size with h' | h'
            · omega
            · simp [Array.getElem?_eq_none h'] at h3
          exact hcl _ this h3 j hj
      have hot : ops.toList[i]? = some o := by rw [Array.getElem?_toList]; exact ho
      have hnd : l.Nodup := hp.imp fun h => Nat.ne_of_lt h
      have hf := (any_pick hK hnd hl hil (rdy_is.2 fun j hj hm => un j hm (han j hj)) hot).sem
      have key := hf I0 X w0 a w ro n Q (wpAnyIn (FW ro) n Try.prog .any ops Q fuel (listed.setIfInBounds i true)) (hok o (List.mem_of_getElem? hot)) hrel (fun s' a' w' hrel' hK' => by
        have hsub : (delN i l).Pairwise (· < ·) := by
          have e : ∀ l : List Nat, (delN i l).Sublist l := by
            intro l
            induction l with
            | nil => exact .slnil
            | cons x l ih =>
              rw [delN]
              cases eqN x i
              · exact ih.cons_cons x
              · exact ih.cons x
          exact hp.sublist (e l)
        refine ih (delN i l) _ s' a' w' (by have := any_len hnd hil; omega) (by simpa using hsz) hsub (fun k => ?_) (fun k hk hkl j hj => ?_) hrel' hK'
        · rw [delN_mem]
          by_cases hik : i = k
          · subst hik
            refine ⟨fun hm => absurd rfl hm.2, fun hm => ?_⟩
            have h6 := hm.2
            have hlt' : i < listed.size := by omega
            simp [hlt'] at h6
          · rw [getD_set_ne true hik, ← hmem k]
            exact ⟨fun h => h.1, fun h => ⟨h, fun e => hik e.symm⟩⟩
        · by_cases hik : i = k
          · subst hik
            exact getD_set_true (han j hj)
          · rw [getD_set_ne false hik] at hkl
            exact getD_set_true (hcl k hk hkl j hj))
      unfold wpOpIn
      rw [ho]
      simp only
      split at key
      · rename_i hw
        rw [if_pos hw]
        exact key
      · rename_i hw
        rw [if_neg hw]
        exact key
end
theorem reg_ok {ops : Array Oper} {fr : List Nat} (hp : planOk ops fr = true) {s : S} {K : S → Prop} (h : anyF real (dstsOf ops.toList) ops.toList (ancs ops.toList []) fr ops.size (List.range ops.size) s K) : real.reg ops s K := by
  intro I0 X w0 a w ro n Q hok hrel hQ
  unfold planOk at hp
  simp only [Bool.and_eq_true] at hp
  have hd : ∀ i, i < ops.size → ∀ j ∈ (ancs ops.toList []).getD i [], j < i := fun i hi j hj => by
    have h1 := List.all_eq_true.1 hp.1 i (by simpa using hi)
    simpa [Nat.blt_eq] using List.all_eq_true.1 h1 j hj
  have hfr : ∀ i ∈ fr, freeB ops.toList (ancs ops.toList []) i = true := fun i hi => List.all_eq_true.1 hp.2 i hi
  refine any_go hQ hok hd ops.size (List.range ops.size) _ s a w (by simp) (by simp) List.pairwise_lt_range (fun i => ?_) (fun i hi h => ?_) hrel (any_of hfr h)
  · rw [List.mem_range]
    exact ⟨fun hi => ⟨hi, by simp [hi]⟩, fun h => h.1⟩
  · simp [hi] at h
section
variable {qa : IntKind → Int → Int} {qb : Int → Int → Int} {qc : Int → Int → Int} {qd : Int → Int → Int} {qe : Int → Int → Int} {qf : Int → Int → Int} {qg : BinOp → IntKind → Int → IntKind → Int → Option Int} {qh : Int → Int → Bool} {qi : Int → Int → Bool} {qj : Int → Int → Bool} {qk : Int → Prop → Prop} {ql : List UInt8 → List UInt8 → Bool} {qm : List UInt8 → List UInt8 → Bool} {qo : ByteArray → List UInt8} {qp : ByteArray → ByteArray → ByteArray} {qq : ByteArray → ByteArray → Prop → Prop} {qs : ByteArray → Int} {qt : ByteArray → Int → Option Int} {qu : ByteArray → Int → Int → Option ByteArray} {qv : Int → Nat → Option Nat} {qw : List (List D) → Int} {qx : List (List D) → Int → Option (List D)} {qy : List (List D) → Int → Int → Option (List (List D))} {qz : List (List D) → List (List D) → List (List D)} {va : List (List D) → Int → List D → List (List D)} {vc : List (List D) → List (List D) → Prop → Prop} {vd : List (R × R) → R → Option R} {ve : List (R × R) → R → R → List (R × R)} {vf : Int → List D → (List (List D) → Prop) → Prop} {vg : Nat → List R → (List R → Prop) → Prop} {vh : Nat → List V → List O → (List R → Prop) → Prop} {vj : Nat → List V → S → (V → S → Prop) → Prop} {vk : Nat → (Bool → Prop) → Prop} {vl : Nat → (Bool → Prop) → Prop} {vp : Nat → (List V → List O → Prop) → List V → S → Prop} {vq : (S → Prop) → S → Prop} {vr : Op → Option Nat → S → (S → Prop) → Prop} {vt : Array Oper → S → (S → Prop) → Prop} {vu : Code → (S → (X → S → Prop) → Prop) → S → (X → S → Prop) → Prop}
theorem reg_at (hA : Ar.mk qa qb qc qd qe qf qg qh qi qj qk ql qm qo qp qq qs qt qu qv qw qx qy qz va vc vd ve vf vg vh vj vk vl vp vq vr vt vu = real) {ops : Array Oper} (fr : List Nat) (hp : planOk ops fr = true) {s : S} {K : S → Prop} (h : anyF (Ar.mk qa qb qc qd qe qf qg qh qi qj qk ql qm qo qp qq qs qt qu qv qw qx qy qz va vc vd ve vf vg vh vj vk vl vp vq vr vt vu) (dstsOf ops.toList) ops.toList (ancs ops.toList []) fr ops.size (List.range ops.size) s K) : vt ops s K := by
  have e : vt = real.reg := congrArg Ar.reg hA
  rw [e]
  rw [hA] at h
  exact reg_ok hp h
end
end Go.Proofs.Ytclehkgnacekkaa.Vm
end
section
namespace Go.Proofs.Ytclehkgnacekkaa.Vm
open Go.RowKit
inductive AtTs (w : World) (e : Nat) : List Nat → List Value → List D → Prop
  | nil : AtTs w e [] [] []
  | sc (v : Value) (F : List Nat) (us : List Value) (ds : List D) (h : v.oneCell' = true) (hs : AtTs w e F us ds) : AtTs w e F (v :: us) (.sc v :: ds)
  | em (F : List Nat) (us : List Value) (ds : List D) (hs : AtTs w e F us ds) : AtTs w e F (.slice none 0 0 :: us) (.sl (ty e).sz [] :: ds)
  | sl (b cap : Nat) (rows : List (List D)) (vs : List Value) (cur : Array Value) (t : TypeId) (F1 F : List Nat) (us : List Value) (ds : List D) (hne : rows ≠ []) (hcap : rows.length ≤ cap) (hb : w.heap[b]? = some (.cells cur t (0, 0))) (hl : vs.length = rows.length * (ty e).sz)
      (hc : cur.toList.take (rows.length * (ty e).sz) = vs) (hr : ∀ r ∈ rows, r.length = (ty e).sz) (h1 : AtTs w e F1 vs rows.flatten) (hs : AtTs w e F us ds) :
      AtTs w e (b :: (F1 ++ F)) (.slice (some ⟨b, 0, none⟩) rows.length cap :: us) (.sl (ty e).sz rows :: ds)
def treeP (z : Bool) (e : Nat) (rows : List (List D)) : World → Value → List Nat → Prop := fun w v F => F.Nodup ∧ AtTs w e F [v] [.sl (ty e).sz rows] ∧ (z = true → ∃ us, w.ownsRow 0 e (ty e).sz v rows.length us)
theorem AtTs.keep {w w' : World} {e : Nat} {F : List Nat} {us : List Value} {ds : List D} (h : AtTs w e F us ds) (hF : ∀ b ∈ F, w'.heap[b]? = w.heap[b]?) : AtTs w' e F us ds := by
  induction h with
  | nil => exact .nil
  | sc v F us ds h hs ih => exact .sc v F us ds h (ih hF)
  | em F us ds hs ih => exact .em F us ds (ih hF)
  | sl b cap rows vs cur t F1 F us ds hne hcap hb hl hc hr h1 hs ih1 ih =>
    exact .sl b cap rows vs cur t F1 F us ds hne hcap ((hF b (List.mem_cons_self ..)).trans hb) hl hc hr (ih1 fun b hb => hF b (List.mem_cons_of_mem _ (List.mem_append_left _ hb))) (ih fun b hb => hF b (List.mem_cons_of_mem _ (List.mem_append_right _ hb)))
theorem AtTs.cells {w : World} {e : Nat} {F : List Nat} {us : List Value} {ds : List D} (h : AtTs w e F us ds) : ∀ b ∈ F, ∃ (c : Array Value) (t : TypeId), w.heap[b]? = some (.cells c t (0, 0)) := by
  induction h with
  | nil => intro b hb; simp at hb
  | sc v F us ds h hs ih => exact ih
  | em F us ds hs ih => exact ih
  | sl b cap rows vs cur t F1 F us ds hne hcap hb hl hc hr h1 hs ih1 ih =>
    intro c hm
    rcases List.mem_cons.1 hm with rfl | hm
    · exact ⟨_, _, hb⟩
    · rcases List.mem_append.1 hm with hm | hm
      · exact ih1 c hm
      · exact ih c hm
theorem AtTs.one {w : World} {e : Nat} {F : List Nat} {us : List Value} {ds : List D} (h : AtTs w e F us ds) : ∀ u ∈ us, u.oneCell' = true := by
  induction h with
  | nil => intro u hu; simp at hu
  | sc v F us ds h hs ih =>
    intro u hu
    rcases List.mem_cons.1 hu with rfl | hu
    · exact h
    · exact ih u hu
  | em F us ds hs ih =>
    intro u hu
    rcases List.mem_cons.1 hu with rfl | hu
    · exact rfl
    · exact ih u hu
  | sl b cap rows vs cur t F1 F us ds hne hcap hb hl hc hr h1 hs ih1 ih =>
    intro u hu
    rcases List.mem_cons.1 hu with rfl | hu
    · exact rfl
    · exact ih u hu
theorem AtTs.len {w : World} {e : Nat} {F : List Nat} {us : List Value} {ds : List D} (h : AtTs w e F us ds) : us.length = ds.length := by
  induction h with
  | nil => rfl
  | sc v F us ds h hs ih => simp [ih]
  | em F us ds hs ih => simp [ih]
  | sl b cap rows vs cur t F1 F us ds hne hcap hb hl hc hr h1 hs ih1 ih => simp [ih]
theorem AtTs.app {w : World} {e : Nat} {F F2 : List Nat} {us us2 : List Value} {ds ds2 : List D} (h : AtTs w e F us ds) (h2 : AtTs w e F2 us2 ds2) : AtTs w e (F ++ F2) (us ++ us2) (ds ++ ds2) := by
  induction h with
  | nil => exact h2
  | sc v F us ds h hs ih => exact .sc v _ _ _ h ih
  | em F us ds hs ih => exact .em _ _ _ ih
  | sl b cap rows vs cur t F1 F us ds hne hcap hb hl hc hr h1 hs ih1 ih =>
    have := AtTs.sl b cap rows vs cur t F1 (F ++ F2) (us ++ us2) (ds ++ ds2) hne hcap hb hl hc hr h1 ih
    rw [← List.append_assoc] at this
    exact this
theorem AtTs.data {w : World} {e : Nat} {I : Nat → Nat → Prop} {F : List Nat} {us : List Value} {ds : List D} (h : AtTs w e F us ds) (hI : ∀ b ∈ F, ∀ n, I b n) : AtDs I w us ds := by
  induction h with
  | nil => exact .nil I w
  | sc v F us ds h hs ih => exact .cons (.sc v h) (ih hI)
  | em F us ds hs ih => exact .cons (.nil _ _ _) (ih hI)
  | sl b cap rows vs cur t F1 F us ds hne hcap hb hl hc hr h1 hs ih1 ih =>
    refine .cons ?_ (ih fun b hb => hI b (List.mem_cons_of_mem _ (List.mem_append_right _ hb)))
    have h2 := ih1 fun b hb => hI b (List.mem_cons_of_mem _ (List.mem_append_left _ hb))
    refine .sl b 0 cap _ rows vs hcap ⟨_, Nat.le_refl _, hI b (List.mem_cons_self ..) _⟩ hr hl (fun i u hu => ?_) h2.2
    rw [Nat.zero_add]
    show (match w.heap[b]? with | some (.cells c _ _) => c[i]? | _ => none) = _
    rw [hb]
    show cur[i]? = some u
    have hlt : i < rows.length * (ty e).sz := by rw [← hl]; exact (List.getElem?_eq_some_iff.1 hu).1
    rw [← hc, List.getElem?_take, if_pos hlt] at hu
    simpa using hu
theorem AtTs.top {w : World} {e : Nat} {F : List Nat} {v : Value} {rows : List (List D)} (h : AtTs w e F [v] [.sl (ty e).sz rows]) : (rows = [] ∧ v = .slice none 0 0 ∧ F = []) ∨ ∃ b cap vs cur t F1, rows ≠ [] ∧ v = .slice (some ⟨b, 0, none⟩) rows.length cap ∧ F = b :: F1 ∧ rows.length ≤ cap ∧ w.heap[b]? = some (.cells cur t (0, 0)) ∧ vs.length = rows.length * (ty e).sz ∧
    cur.toList.take (rows.length * (ty e).sz) = vs ∧ (∀ r ∈ rows, r.length = (ty e).sz) ∧ AtTs w e F1 vs rows.flatten := by
  obtain ⟨ds, hds⟩ : ∃ ds, ds = [D.sl (ty e).sz rows] := ⟨_, rfl⟩
  obtain ⟨us, hus⟩ : ∃ us, us = [v] := ⟨_, rfl⟩
  rw [← hds, ← hus] at h
  cases h with
  | nil => cases hds
  | sc v F us ds h hs => cases hds
  | em F us ds hs =>
    injection hds with h1 h2
    injection hus with h3 h4
    subst h2; subst h4; subst h3
    injection h1 with _ h1
    cases hs
    exact .inl ⟨h1.symm, rfl, rfl⟩
  | sl b cap rows' vs cur t F1 F us ds hne hcap hb hl hc hr h1 hs =>
    injection hds with e1 e2
    injection hus with e3 e4
    subst e2; subst e4; subst e3
    injection e1 with _ e1
    subst e1
    cases hs
    exact .inr ⟨b, cap, vs, cur, t, F1, hne, rfl, by simp, hcap, hb, hl, hc, hr, h1⟩
theorem treeP.nil (w : World) (z : Bool) (e : Nat) : treeP z e [] w (.slice none 0 0) [] := ⟨List.nodup_nil, .em _ _ _ .nil, fun _ => ⟨[], World.ownsRow_nil w 0 e _⟩⟩
theorem treeP.keep {w w' : World} {z : Bool} {e : Nat} {rows : List (List D)} {v : Value} {F : List Nat} (h : treeP z e rows w v F) (hF : ∀ b ∈ F, w'.heap[b]? = w.heap[b]?) : treeP z e rows w' v F := by
  obtain ⟨h1, h2, h3⟩ := h
  refine ⟨h1, h2.keep hF, fun hz => ?_⟩
  obtain ⟨us, hl, h4⟩ := h3 hz
  refine ⟨us, hl, ?_⟩
  rcases h4 with h4 | ⟨b, cap, cur, e1, e2, e3, r⟩
  · exact .inl h4
  · refine .inr ⟨b, cap, cur, e1, e2, (hF b ?_).trans e3, r⟩
    rcases h2.top with ⟨_, h5, _⟩ | ⟨b', cap', vs, cur', t, F1, _, h5, h6, _⟩
    · rw [h5] at e1; cases e1
    · rw [h5] at e1
      injection e1 with e1
      injection e1 with e1
      injection e1 with e1
      rw [h6, e1]
      exact List.mem_cons_self ..
def fL (f : V → V) : List V → List V
  | [] => []
  | x :: l => f x :: fL f l
def f2 (f : V → V) : V → V
  | .ag cs => .ag (fL f cs)
  | .tu [] => .tu []
  | .tu _ => .jk
  | x => f x
def fT (f : V → V) : List V → List V
  | [] => []
  | x :: l => f2 f x :: fT f l
def fO (f : V → V) (k : Nat) : List O → List O
  | [] => []
  | .box cs :: l => .box (fL f cs) :: fO f k l
  | .kl ks :: l => .kl (k :: ks) :: fO f k l
  | x :: l => x :: fO f k l
def sw1 (k : Nat) (x : V) : V → V
  | .own j => match eqN j k with | true => x | false => .own j
  | .ag _ => .jk
  | .tu _ => .jk
  | y => y
def mv1 (j k : Nat) : V → V
  | .own i => match eqN i j with | true => .jk | false => (match eqN i k with | true => .own j | false => .own i)
  | .ag _ => .jk
  | .tu _ => .jk
  | y => y
theorem fO_get (f : V → V) (k : Nat) : ∀ (l : List O) (j : Nat) (o : O), (fO f k l)[j]? = some o → ∃ o0, l[j]? = some o0 ∧ ((∃ cs, o0 = .box cs ∧ o = .box (fL f cs)) ∨ (∃ ks, o0 = .kl ks ∧ o = .kl (k :: ks)) ∨ (o = o0 ∧ (∀ cs, o ≠ .box cs) ∧ ∀ ks, o ≠ .kl ks))
  | [], j, o, h => by simp [fO] at h
  | x :: l, 0, o, h => by
    cases x <;> simp [fO] at h <;> subst h <;> exact ⟨_, rfl, by simp⟩
  | x :: l, j + 1, o, h => by
    have h' : (fO f k l)[j]? = some o := by cases x <;> simpa [fO] using h
    obtain ⟨o', h1, h2⟩ := fO_get f k l j o h'
    exact ⟨o', by simpa using h1, h2⟩
theorem fO_len (f : V → V) (k : Nat) : ∀ l : List O, (fO f k l).length = l.length
  | [] => rfl
  | x :: l => by cases x <;> simp [fO, fO_len f k l]
section
variable {I0 : Nat → Nat → Prop} {X : Nat → Prop} {w0 : W0} {I I' : Nat → Nat → Prop} {g g' : Nat → Value} {s : S} {a : Act} {w w' : World}
theorem fL_at {f : V → V} (hf : ∀ v y, AtV I w g v y → AtV I' w' g' v (f y)) : ∀ {cs : List V} {us : List Value}, AtVs I w g us cs → AtVs I' w' g' us (fL f cs)
  | [], us, h => by rw [h.unnil]; exact .nil I' w' g'
  | c :: cs, us, h => by
    obtain ⟨u, us', rfl, h1, h2⟩ := h.uncons
    exact .cons (hf _ _ h1) (fL_at hf h2)
theorem f2_at {f : V → V} (hf : ∀ v y, AtV I w g v y → AtV I' w' g' v (f y)) {v : Value} {x : V} (h : AtV I w g v x) : AtV I' w' g' v (f2 f x) := by
  cases x with
  | ag cs => obtain ⟨us, rfl, h2⟩ := h.unag; exact atV_ag (fL_at hf h2)
  | tu cs =>
    cases cs with
    | nil => obtain ⟨us, rfl, h2⟩ := h.untu; rw [h2.unnil]; exact atV_tu (.nil I' w' g')
    | cons c cs => exact .jk _
  | _ => exact hf _ _ h
theorem fT_at {f : V → V} (hf : ∀ v y, AtV I w g v y → AtV I' w' g' v (f y)) : ∀ {cs : List V} {us : List Value}, AtVs I w g us cs → AtVs I' w' g' us (fT f cs)
  | [], us, h => by rw [h.unnil]; exact .nil I' w' g'
  | c :: cs, us, h => by
    obtain ⟨u, us', rfl, h1, h2⟩ := h.uncons
    exact .cons (f2_at hf h1) (fT_at hf h2)
theorem RelI.trade (h : RelI I0 X w0 I g s a w) (f : V → V) (C : Nat → Prop) (B : Nat → Prop) (o' : List O) (hfr : Fr X w0.w w') (hkp : Keeps I w w') (hsz : w.heap.size ≤ w'.heap.size)
    (hI : ∀ b n, I b n → I' b n) (hB : ∀ b, B b → ∃ k, C k ∧ live s k ∧ gbl (g k) b) (hI2 : ∀ b n, I' b n → I b n ∨ B b) (hf : ∀ v y, AtV I w g v y → AtV I' w' g' v (f y))
    (hw : ∀ j, ¬ C j → live s j → ∀ b, gbl (g j) b → w'.heap[b]? = w.heap[b]?)
    (hC : ∀ j, ¬ C j → ∀ o, o'[j]? = some o → g' j = g j ∧ ∃ o0, s.o[j]? = some o0 ∧ ((∃ cs, o0 = .box cs ∧ o = .box (fL f cs)) ∨ (∃ ks js, o0 = .kl ks ∧ o = .kl js ∧ (∀ i ∈ ks, i ∈ js) ∧ ∀ i, i < s.o.length → g' i = g i ∨ i ∈ js) ∨ (o = o0 ∧ (∀ cs, o ≠ .box cs) ∧ ∀ ks, o ≠ .kl ks)))
    (hN : ∀ j, C j → ∀ o, o'[j]? = some o → ObjAt X w0 I' w' g' j o ∧ (o ≠ .dead → ∀ b, gbl (g' j) b → B b ∨ w.heap.size ≤ b))
    (hD : ∀ i j b, C i → C j → (∃ o, o'[i]? = some o ∧ o ≠ .dead) → (∃ o, o'[j]? = some o ∧ o ≠ .dead) → gbl (g' i) b → gbl (g' j) b → i = j)
    (hg : ∀ j, isRef (g j) = true → g' j = g j) (hlen : s.o.length ≤ o'.length) (hout : ∀ k, o'.length ≤ k → g' k = .nilFunc) : RelI I0 X w0 I' g' ⟨fT f s.t, o'⟩ a w' := by
  have noB : ∀ j, ¬ C j → live s j → ∀ b, gbl (g j) b → ¬ B b := fun j hj hl b hb hB' => by
    obtain ⟨k, hk, hlk, hbk⟩ := hB b hB'
    exact hj (h.dis j k b hl hlk hb hbk ▸ hk)
  have lv : ∀ j, ¬ C j → (∃ o, o'[j]? = some o ∧ o ≠ .dead) → live s j ∧ g' j = g j := fun j hj ⟨o, ho, hd⟩ => by
    obtain ⟨e, o0, h0, hsh⟩ := hC j hj o ho
    refine ⟨⟨o0, h0, ?_⟩, e⟩
    rcases hsh with ⟨cs, rfl, _⟩ | ⟨ks, js, rfl, _⟩ | ⟨rfl, _⟩
    · simp
    · simp
    · exact hd
  refine ⟨fun b n hb => hI b n (h.im b n hb), fun b n hb => ?_, hfr, h.kp.trans fun b n hb i hi => hkp b n (h.im b n hb) i hi, Nat.le_trans h.lo hlen, fun k hk hr => ?_, fun j o ho => ?_, fun i j b hi hj hbi hbj => ?_, hout, fT_at hf h.tmp, h.dfr⟩
  · rcases hI2 b n hb with h1 | h1
    · exact ⟨Nat.lt_of_lt_of_le (h.lt b n h1).1 hsz, (h.lt b n h1).2⟩
    · obtain ⟨k, _, ⟨o, ho, hd⟩, hbk⟩ := hB b h1
      obtain ⟨h2, h3⟩ := (h.obj k o ho).blk hd b hbk
      refine ⟨Nat.lt_of_lt_of_le h2 hsz, fun hlt => .inr ?_⟩
      rcases h3 with h3 | h3
      · omega
      · exact h3
  · have e := h.st k hk hr
    rw [← e] at hr ⊢
    exact hg k hr
  · by_cases hc : C j
    · exact (hN j hc o ho).1
    · by_cases hd : o = .dead
      · subst hd; exact True.intro
      obtain ⟨e, o0, h0, hsh⟩ := hC j hc o ho
      obtain ⟨hl, _⟩ := lv j hc ⟨o, ho, hd⟩
      have hd0 : o0 ≠ .dead := by
        rcases hsh with ⟨cs, rfl, _⟩ | ⟨ks, js, rfl, _⟩ | ⟨rfl, _⟩
        · simp
        · simp
        · exact hd
      have hk := (h.obj j o0 h0).keep hI hkp (fun b hb => hw j hc hl b hb) (fun b hb n hn => (hI2 b n hn).resolve_right (noB j hc hl b hb))
      have hob := h.obj j o0 h0
      rcases hsh with ⟨cs, rfl, rfl⟩ | ⟨ks, js, rfl, rfl, hks, hjs⟩ | ⟨rfl, hnb, hnk⟩
      · obtain ⟨b, us, t, a1, a2, a3, a4, a5, a6⟩ := hk
        obtain ⟨b', us', t', b1, b2, b3, b4, _⟩ := hob
        have e1 : b = b' := by rw [a1] at b1; injection b1 with b1; injection b1 with b1; injection b1
        subst e1
        have hb2 := hw j hc hl b (by rw [a1]; rfl)
        rw [b2] at hb2
        refine ⟨b, us', t', e.trans a1, hb2, fL_at hf b3, b4, a5, a6⟩
      · obtain ⟨us, a1, a2, a3⟩ := hob
        refine ⟨us, e.trans a1, a2, fun i u hu => ?_⟩
        have hi := (Array.getElem?_eq_some_iff.1 hu).1
        have hjl := (List.getElem?_eq_some_iff.1 h0).1
        rcases a3 i u hu with a4 | a4 | a4
        · exact .inl a4
        · rcases hjs i (by omega) with h5 | h5
          · exact .inr (.inl (h5.trans a4))
          · exact .inr (.inr h5)
        · exact .inr (.inr (hks i a4))
      · cases o with
        | dead => exact absurd rfl hd
        | box cs => exact absurd rfl (hnb cs)
        | kl ks => exact absurd rfl (hnk ks)
        | mp kt es => obtain ⟨b, l, c, a1, a2⟩ := hk; exact ⟨b, l, c, e.trans a1, a2⟩
        | it P => obtain ⟨A, n, cap, F, a1, a2⟩ := hk; exact ⟨A, n, cap, F, e.trans a1, a2⟩
        | row z e2 rows => obtain ⟨us, a1, a2, a3, a4⟩ := hk; exact ⟨us, by rw [e]; exact a1, a2, a3, by rw [e]; exact a4⟩
  · have hi : ∃ o, o'[i]? = some o ∧ o ≠ .dead := hi
    have hj : ∃ o, o'[j]? = some o ∧ o ≠ .dead := hj
    have cross : ∀ i j, ¬ C i → C j → (∃ o, o'[i]? = some o ∧ o ≠ .dead) → (∃ o, o'[j]? = some o ∧ o ≠ .dead) → gbl (g' i) b → gbl (g' j) b → False := fun i j hi hj li ⟨o, ho, hd⟩ hbi hbj => by
      obtain ⟨hl, e⟩ := lv i hi li
      rw [e] at hbi
      rcases (hN j hj o ho).2 hd b hbj with h1 | h1
      · exact noB i hi hl b hbi h1
      · have := h.blk_lt hl hbi; omega
    by_cases hci : C i <;> by_cases hcj : C j
    · exact hD i j b hci hcj hi hj hbi hbj
    · exact (cross j i hcj hci hj hi hbj hbi).elim
    · exact (cross i j hci hcj hi hj hbi hbj).elim
    · obtain ⟨l1, e1⟩ := lv i hci hi
      obtain ⟨l2, e2⟩ := lv j hcj hj
      rw [e1] at hbi
      rw [e2] at hbj
      exact h.dis i j b l1 l2 hbi hbj
end
end Go.Proofs.Ytclehkgnacekkaa.Vm
end
section
namespace Go.Proofs.Ytclehkgnacekkaa.Vm
open Go.RowKit
def deadO : List Nat → List O → List O
  | [], l => l
  | j :: ms, l => deadO ms (setO l j .dead)
theorem deadO_len : ∀ (ms : List Nat) (l : List O), (deadO ms l).length = l.length
  | [], l => rfl
  | j :: ms, l => by rw [deadO, deadO_len ms, setO_is, List.length_set]
theorem deadO_get : ∀ (ms : List Nat) (l : List O) (i : Nat) (o : O), (deadO ms l)[i]? = some o → (i ∉ ms ∧ l[i]? = some o) ∨ (i ∈ ms ∧ o = .dead)
  | [], l, i, o, h => .inl ⟨by simp, h⟩
  | j :: ms, l, i, o, h => by
    rw [deadO] at h
    rcases deadO_get ms _ i o h with ⟨h1, h2⟩ | ⟨h1, h2⟩
    · rw [setO_is] at h2
      by_cases e : j = i
      · subst e
        have hlt := (List.getElem?_eq_some_iff.1 h2).1
        rw [List.length_set] at hlt
        rw [List.getElem?_set_self hlt] at h2
        exact .inr ⟨List.mem_cons_self .., (Option.some.inj h2).symm⟩
      · rw [List.getElem?_set_ne e] at h2
        exact .inl ⟨by simp [h1, Ne.symm e], h2⟩
    · exact .inr ⟨List.mem_cons_of_mem _ h1, h2⟩
def openL : Nat → List D → List V
  | _, [] => []
  | n, .sc v :: l => .d (.sc v) :: openL n l
  | n, .sl _ _ :: l => .own n :: openL (n + 1) l
def openO (e : Nat) : List D → List O
  | [] => []
  | .sc _ :: l => openO e l
  | .sl _ r :: l => .it (treeP false e r) :: openO e l
def closes (os : List O) (e : Nat) : List V → List D → List Nat → Prop
  | [], [], [] => True
  | .d (.sc v) :: l, .sc u :: ds, ms => v = u ∧ closes os e l ds ms
  | .em :: l, .sl z [] :: ds, ms => z = (ty e).sz ∧ closes os e l ds ms
  | .own m :: l, .sl z r :: ds, i :: ms => m = i ∧ z = (ty e).sz ∧ (∃ b, getO os m = .it (treeP b e r)) ∧ closes os e l ds ms
  | _, _, _ => False
section
variable {I0 : Nat → Nat → Prop} {X : Nat → Prop} {w0 : W0} {I I' : Nat → Nat → Prop} {g g' : Nat → Value} {s : S} {a : Act} {w w' : World}
theorem closes_at (h : RelI I0 X w0 I g s a w) {e : Nat} : ∀ {cs : List V} {us : List Value} {ds : List D} {ms : List Nat}, AtVs I w g us cs → closes s.o e cs ds ms → ms.Nodup → ∃ F, AtTs w e F us ds ∧ F.Nodup ∧ ∀ b ∈ F, ∃ m ∈ ms, live s m ∧ gbl (g m) b
  | cs, us, ds, ms, hv, hc, hn => by
    unfold closes at hc
    split at hc
    · rw [hv.unnil]; exact ⟨[], .nil, List.nodup_nil, by simp⟩
    · obtain ⟨u, us', rfl, h1, h2⟩ := hv.uncons
      obtain ⟨rfl, hc⟩ := hc
      obtain ⟨F, a1, a2, a3⟩ := closes_at h h2 hc hn
      cases h1 with
      | d h1 =>
        cases h1 with
        | sc v h1 => exact ⟨F, .sc _ _ _ _ h1 a1, a2, a3⟩
    · obtain ⟨u, us', rfl, h1, h2⟩ := hv.uncons
      obtain ⟨rfl, hc⟩ := hc
      obtain ⟨F, a1, a2, a3⟩ := closes_at h h2 hc hn
      cases h1
      exact ⟨F, .em _ _ _ a1, a2, a3⟩
    · obtain ⟨u, us', rfl, h1, h2⟩ := hv.uncons
      obtain ⟨rfl, rfl, ⟨z, ho⟩, hc⟩ := hc
      rename_i m l r ds ms
      obtain ⟨hn1, hn2⟩ := List.nodup_cons.1 hn
      obtain ⟨F, a1, a2, a3⟩ := closes_at h h2 hc hn2
      have hm := getO_some ho (by simp)
      have hlm : live s m := ⟨_, hm, by simp⟩
      obtain ⟨A, n, cap, Fm, b1, ⟨b2, b3, _⟩, _⟩ := h.obj m _ hm
      have hu : u = .slice A n cap := by rw [h1.unown.1, b1]; rfl
      subst hu
      have hFm : ∀ b ∈ Fm, gbl (g m) b := fun b hb => by rw [b1, gbl_pack]; exact hb
      refine ⟨Fm ++ F, b3.app a1, List.nodup_append.2 ⟨b2, a2, fun b hb c hc' e => ?_⟩, fun b hb => ?_⟩
      · subst e
        obtain ⟨m', hm', hl', hb'⟩ := a3 b hc'
        have := h.dis m m' b hlm hl' (hFm b hb) hb'
        subst this
        exact hn1 hm'
      · rcases List.mem_append.1 hb with hb | hb
        · exact ⟨m, List.mem_cons_self .., hlm, hFm b hb⟩
        · obtain ⟨m', hm', h5⟩ := a3 b hb
          exact ⟨m', List.mem_cons_of_mem _ hm', h5⟩
    · exact hc.elim
termination_by cs => cs.length
theorem opens_at {e : Nat} {F : List Nat} {us : List Value} {ds : List D} (h : AtTs w e F us ds) : F.Nodup → ∃ gs : List (Value × List Nat), gs.length = (openO e ds).length ∧ (∀ (i : Nat) (p : Value × List Nat), gs[i]? = some p → (∃ r, (openO e ds)[i]? = some (O.it (treeP false e r)) ∧ treeP false e r w p.1 p.2) ∧ (∃ A n cap, p.1 = .slice A n cap) ∧ ∀ b ∈ p.2, b ∈ F) ∧
    (∀ (i j : Nat) (p q : Value × List Nat) (b : Nat), gs[i]? = some p → gs[j]? = some q → b ∈ p.2 → b ∈ q.2 → i = j) ∧ ∀ (I : Nat → Nat → Prop) (g : Nat → Value) (n : Nat), (∀ (i : Nat) (p : Value × List Nat), gs[i]? = some p → g (n + i) = packG p.1 p.2) → AtVs I w g us (openL n ds) := by
  induction h with
  | nil => exact fun _ => ⟨[], rfl, by simp, by simp, fun I g n _ => .nil I w g⟩
  | sc v F us ds h hs ih =>
    intro hn
    obtain ⟨gs, h1, h2, h3, h4⟩ := ih hn
    exact ⟨gs, h1, h2, h3, fun I g n hg => .cons (.d (.sc v h)) (h4 I g n hg)⟩
  | em F us ds hs ih =>
    intro hn
    obtain ⟨gs, h1, h2, h3, h4⟩ := ih hn
    refine ⟨(.slice none 0 0, []) :: gs, by simp [openO, h1], fun i p hp => ?_, fun i j p q b hi hj hb hb' => ?_, fun I g n hg => ?_⟩
    · cases i with
      | zero =>
        simp at hp; subst hp
        exact ⟨⟨[], rfl, treeP.nil w false e⟩, ⟨_, _, _, rfl⟩, by simp⟩
      | succ i =>
        obtain ⟨⟨r, a1, a2⟩, a3, a4⟩ := h2 i p (by simpa using hp)
        exact ⟨⟨r, by simpa [openO] using a1, a2⟩, a3, a4⟩
    · cases i with
      | zero => simp at hi; subst hi; simp at hb
      | succ i =>
        cases j with
        | zero => simp at hj; subst hj; simp at hb'
        | succ j => exact congrArg (· + 1) (h3 i j p q b (by simpa using hi) (by simpa using hj) hb hb')
    · refine .cons ?_ (h4 I g (n + 1) fun i p hp => ?_)
      · have := hg 0 _ rfl
        rw [Nat.add_zero] at this
        exact .own n _ _ _ (by rw [this]; rfl)
      · rw [Nat.add_right_comm]
        exact hg (i + 1) p (by simpa using hp)
  | sl b cap rows vs cur t F1 F us ds hne hcap hb hl hc hr h1' hs ih1 ih =>
    intro hn
    obtain ⟨hn1, hn2⟩ := List.nodup_cons.1 hn
    obtain ⟨hn3, hn4, hn5⟩ := List.nodup_append.1 hn2
    obtain ⟨gs, h1, h2, h3, h4⟩ := ih hn4
    have hd : ∀ c, c ∈ b :: F1 → c ∈ F → False := fun c hc1 hc2 => by
      rcases List.mem_cons.1 hc1 with rfl | hc1
      · exact hn1 (List.mem_append_right _ hc2)
      · exact hn5 c hc1 c hc2 rfl
    refine ⟨(.slice (some ⟨b, 0, none⟩) rows.length cap, b :: F1) :: gs, by simp [openO, h1], fun i p hp => ?_, fun i j p q c hi hj hc1 hc2 => ?_, fun I g n hg => ?_⟩
    · cases i with
      | zero =>
        simp at hp; subst hp
        refine ⟨⟨rows, rfl, List.nodup_cons.2 ⟨fun hm => hn1 (List.mem_append_left _ hm), hn3⟩, ?_, by simp⟩, ⟨_, _, _, rfl⟩, fun c hc => ?_⟩
        · have := AtTs.sl b cap rows vs cur t F1 [] [] [] hne hcap hb hl hc hr h1' .nil
          rwa [List.append_nil] at this
        · rcases List.mem_cons.1 hc with rfl | hc
          · exact List.mem_cons_self ..
          · exact List.mem_cons_of_mem _ (List.mem_append_left _ hc)
      | succ i =>
        obtain ⟨⟨r, a1, a2⟩, a3, a4⟩ := h2 i p (by simpa using hp)
        exact ⟨⟨r, by simpa [openO] using a1, a2⟩, a3, fun c hc => List.mem_cons_of_mem _ (List.mem_append_right _ (a4 c hc))⟩
    · cases i with
      | zero =>
        cases j with
        | zero => rfl
        | succ j =>
          simp at hi hj; subst hi
          exact (hd c hc1 ((h2 j q hj).2.2 c hc2)).elim
      | succ i =>
        cases j with
        | zero =>
          simp at hi hj; subst hj
          exact (hd c hc2 ((h2 i p hi).2.2 c hc1)).elim
        | succ j => exact congrArg (· + 1) (h3 i j p q c (by simpa using hi) (by simpa using hj) hc1 hc2)
    · refine .cons ?_ (h4 I g (n + 1) fun i p hp => ?_)
      · have := hg 0 _ rfl
        rw [Nat.add_zero] at this
        exact .own n _ _ _ (by rw [this]; rfl)
      · rw [Nat.add_right_comm]
        exact hg (i + 1) p (by simpa using hp)
theorem sw1_at {k : Nat} {x : V} (hI : ∀ b n, I b n → I' b n) (hkp : Keeps I w w') (hg : ∀ j, j ≠ k → g j ≠ .nilFunc → g' j = g j) (hgr : ∀ j, isRef (g j) = true → g' j = g j) (hx : ∀ v, v = gv (g k) → (∃ A n cap, gv (g k) = .slice A n cap) → AtV I' w' g' v x) (hel : ∀ b n cap, g k = .slice (some ⟨b, 0, none⟩) n cap → g' k = g k) : ∀ v y, AtV I w g v y → AtV I' w' g' v (sw1 k x y) := by
  intro v y h
  cases y with
  | own j =>
    show AtV I' w' g' v (match eqN j k with | true => x | false => .own j)
    obtain ⟨h1, A, n, cap, h2⟩ := h.unown
    cases e : eqN j k
    · refine (by rw [h1, h2]; exact .own j A n cap ((congrArg gv (hg j (eqN_no.1 e) (fun e2 => by rw [e2] at h2; cases h2))).trans h2))
    · obtain rfl := eqN_is.1 e
      exact hx v h1 ⟨A, n, cap, h2⟩
  | ag cs => exact .jk _
  | tu cs => exact .jk _
  | d x => cases h with | d h => exact .d (h.mono hI hkp)
  | em => cases h; exact .em
  | ptr j off => cases h with | ptr k off b h => exact .ptr _ off b ((hgr j (by rw [h]; rfl)).trans h)
  | cl f ks =>
    cases h with
    | cl f us ks hl h =>
      exact .cl f us ks hl fun i u j hu hj => by
        obtain ⟨h1, b, h2⟩ := h i u j hu hj
        have h3 := hgr j (by rw [h2]; rfl)
        exact ⟨h1.trans h3.symm, b, h3.trans h2⟩
  | el j i sz off =>
    cases h with
    | el j i sz off b n cap h =>
      by_cases e : j = k
      · subst e; exact .el j i sz off b n cap ((hel b n cap h).trans h)
      · exact .el j i sz off b n cap ((hg j e (by rw [h]; simp)).trans h)
  | ro cs off => exact ro_mono hI hkp h
  | mp j => cases h with | mp j b h => exact .mp j b ((hgr j (by rw [h]; rfl)).trans h)
  | bs j n => cases h with | bs j n b cap h hn => exact .bs j n b cap ((hgr j (by rw [h]; rfl)).trans h) hn
  | jk => exact .jk _
where
  ro_mono {I I' : Nat → Nat → Prop} {w w' : World} {g g' : Nat → Value} (hI : ∀ b n, I b n → I' b n) (hkp : Keeps I w w') {v : Value} {cs : List D} {off : Nat} (h : AtV I w g v (.ro cs off)) : AtV I' w' g' v (.ro cs off) := by
    cases h with
    | ro b o off us cs hi hc hd =>
      refine .ro b o off us cs (hi.mono hI) (fun i u hu => ?_) (hd.mono hI hkp)
      have hlt : i < cs.length := by rw [← hd.1]; exact (List.getElem?_eq_some_iff.1 hu).1
      obtain ⟨k, hk1, hk2⟩ := hi
      exact (hkp _ _ hk2 _ (by omega)).trans (hc i u hu)
end
end Go.Proofs.Ytclehkgnacekkaa.Vm
end
section
namespace Go.Proofs.Ytclehkgnacekkaa.Vm
open Go.RowKit
section
variable {I0 : Nat → Nat → Prop} {X : Nat → Prop} {w0 : W0} {I : Nat → Nat → Prop} {g : Nat → Value} {s : S} {a : Act} {w : World}
theorem RelI.melt (h : RelI I0 X w0 I g s a w) {k e : Nat} {z : Bool} {rows : List (List D)} (hk : s.o[k]? = some (.it (treeP z e rows))) :
    Rel I0 X w0 ⟨fT (sw1 k (.d (.sl (ty e).sz rows))) s.t, (fO (sw1 k (.d (.sl (ty e).sz rows))) k s.o).set k .dead⟩ a w := by
  obtain ⟨A, n, cap, F, hg, ⟨hn, hat, _⟩, hst, hF⟩ := h.obj k _ hk
  have hlt := (List.getElem?_eq_some_iff.1 hk).1
  have hlk : live s k := ⟨_, hk, by simp⟩
  have hgF : ∀ b, gbl (g k) b ↔ b ∈ F := fun b => by rw [hg, gbl_pack]
  have hI : ∀ b n, I b n → (fun b n => I b n ∨ b ∈ F) b n := fun b n h => .inl h
  refine ⟨fun b n => I b n ∨ b ∈ F, g, h.trade _ (fun j => j = k) (fun b => b ∈ F) _ h.fr (Keeps.refl I w) (Nat.le_refl _) hI (fun b hb => ⟨k, rfl, hlk, (hgF b).2 hb⟩) (fun b n h => h) (sw1_at hI (Keeps.refl I w) (fun _ _ _ => rfl) (fun _ _ => rfl) (fun v hv _ => ?_) (fun _ _ _ _ => rfl)) (fun _ _ _ _ _ => rfl) (fun j hj o ho => ⟨rfl, ?_⟩) (fun j hj o ho => ?_) (fun i j b hi hj _ _ _ _ => hi.trans hj.symm) (fun _ _ => rfl) (by rw [List.length_set, fO_len]; exact Nat.le_refl _) (fun j hj => h.out j (by rw [List.length_set, fO_len] at hj; exact hj))⟩
  · rw [hv, hg]
    refine .d ?_
    have h2 := hat.data (I := fun b n => I b n ∨ b ∈ F) fun b hb n => .inr hb
    exact h2.2 0 _ _ rfl rfl
  · rw [List.getElem?_set_ne (Ne.symm hj)] at ho
    obtain ⟨o0, h1, h2⟩ := fO_get _ _ _ _ _ ho
    refine ⟨o0, h1, h2.imp id (Or.imp (fun ⟨ks, a1, a2⟩ => ⟨ks, _, a1, a2, fun i hi => List.mem_cons_of_mem _ hi, fun i _ => .inl rfl⟩) id)⟩
  · subst hj
    rw [List.getElem?_set_self (by rw [fO_len]; exact hlt)] at ho
    obtain rfl := Option.some.inj ho
    exact ⟨True.intro, fun hd => absurd rfl hd⟩
theorem RelI.opened (h : RelI I0 X w0 I g s a w) {k e : Nat} {z : Bool} {rows : List (List D)} (hk : s.o[k]? = some (.it (treeP z e rows))) (hne : rows ≠ []) :
    Rel I0 X w0 ⟨fT (sw1 k (.bs s.o.length rows.length)) s.t, (fO (sw1 k (.bs s.o.length rows.length)) k s.o).set k (.it (treeP true e [])) ++ (.box (openL (s.o.length + 1) rows.flatten) :: openO e rows.flatten)⟩ a w := by
  obtain ⟨A, n, cap, F, hg, ⟨hn, hat, _⟩, hst, hF⟩ := h.obj k _ hk
  have hlt := (List.getElem?_eq_some_iff.1 hk).1
  have hlk : live s k := ⟨_, hk, by simp⟩
  have hgF : ∀ b, gbl (g k) b ↔ b ∈ F := fun b => by rw [hg, gbl_pack]
  rcases hat.top with ⟨h0, _⟩ | ⟨b, cap', vs, cur, t, F1, _, hv, hFe, hcap, hb, hl, hc, hr, hat1⟩
  · exact absurd h0 hne
  injection hv with hA hn' hcc
  subst hA; subst hn'; subst hcc; subst hFe
  obtain ⟨hn1, hn2⟩ := List.nodup_cons.1 hn
  obtain ⟨gs, q1, q2, q3, q4⟩ := opens_at hat1 hn2
  obtain ⟨N, hN⟩ : ∃ N, N = s.o.length := ⟨_, rfl⟩
  rw [← hN]
  obtain ⟨g', hg'⟩ : ∃ g' : Nat → Value, g' = fun j => if j = k then packG (.slice none 0 0) [] else if j = N then .pointer (some ⟨b, 0, none⟩) else match gs[j - (N + 1)]? with
    | some p => if N < j then packG p.1 p.2 else g j
    | none => g j := ⟨_, rfl⟩
  have gk : g' k = packG (.slice none 0 0) [] := by rw [hg']; simp
  have gN : g' N = .pointer (some ⟨b, 0, none⟩) := by rw [hg']; simp only [if_neg (show ¬ N = k by omega), if_true]
  have gO : ∀ j, j < N → j ≠ k → g' j = g j := fun j hj hjk => by
    rw [hg']; simp only
    rw [if_neg hjk, if_neg (by omega)]
    cases gs[j - (N + 1)]? with
    | none => rfl
    | some p => simp only; rw [if_neg (by omega)]
  have gS : ∀ i p, gs[i]? = some p → g' (N + 1 + i) = packG p.1 p.2 := fun i p hp => by
    rw [hg']; simp only
    rw [if_neg (by omega), if_neg (by omega), show N + 1 + i - (N + 1) = i by omega, hp]
    simp only
    rw [if_pos (by omega)]
  have gE : ∀ j, N + 1 + gs.length ≤ j → g' j = .nilFunc := fun j hj => by
    rw [hg']; simp only
    rw [if_neg (by omega), if_neg (by omega), List.getElem?_eq_none (by omega)]
    exact h.out j (by omega)
  have hsp : vs = cur.toList.take (rows.length * (ty e).sz) := hc.symm
  have hbox : w.heap[b]? = some (.cells (vs ++ cur.toList.drop (rows.length * (ty e).sz)).toArray t (0, 0)) := by rw [hb, hsp, List.take_append_drop]
  have hgn : ∀ j, j ≠ k → g j ≠ .nilFunc → g' j = g j := fun j hj hnn => by
    rcases Nat.lt_or_ge j N with h1 | h1
    · exact gO j h1 hj
    · exact absurd (h.out j (by omega)) hnn
  have hgr : ∀ j, isRef (g j) = true → g' j = g j := fun j hr => hgn j (fun e => by rw [e, hg] at hr; cases hr) fun e => by rw [e] at hr; cases hr
  refine ⟨I, g', h.trade _ (fun j => j = k ∨ N ≤ j) (fun c => c ∈ b :: F1) _ h.fr (Keeps.refl I w) (Nat.le_refl _) (fun _ _ h => h) (fun c hc => ⟨k, .inl rfl, hlk, (hgF c).2 hc⟩) (fun b n h => .inl h) (sw1_at (fun _ _ h => h) (Keeps.refl I w) hgn hgr (fun v hv _ => ?_) (fun b n cap e => by rw [hg] at e; cases e)) (fun _ _ _ _ _ => rfl) (fun j hj o ho => ?_) (fun j hj o ho => ?_) (fun i j c hi hj hli hlj hbi hbj => ?_) hgr ?_ (fun j hj => ?_)⟩
  · rw [hv, hg]
    exact .bs N _ b cap gN hcap
  · have hjk : j ≠ k := fun e => hj (.inl e)
    have hjN : j < N := by rcases Nat.lt_or_ge j N with h1 | h1; exact h1; exact absurd (.inr h1) hj
    refine ⟨gO j hjN hjk, ?_⟩
    rw [List.getElem?_append_left (by rw [List.length_set, fO_len, ← hN]; exact hjN), List.getElem?_set_ne (Ne.symm hjk)] at ho
    obtain ⟨o0, h1, h2⟩ := fO_get _ _ _ _ _ ho
    refine ⟨o0, h1, h2.imp id (Or.imp (fun ⟨ks, a1, a2⟩ => ⟨ks, _, a1, a2, fun i hi => List.mem_cons_of_mem _ hi, fun i hi => ?_⟩) id)⟩
    by_cases e : i = k
    · exact .inr (by rw [e]; exact List.mem_cons_self ..)
    · exact .inl (gO i (by omega) e)
  · rcases Nat.lt_or_ge j N with h1 | h1
    · obtain rfl : j = k := hj.resolve_right (by omega)
      rw [List.getElem?_append_left (by rw [List.length_set, fO_len, ← hN]; exact h1), List.getElem?_set_self (by rw [fO_len]; exact hlt)] at ho
      obtain rfl := Option.some.inj ho
      exact ⟨⟨none, 0, 0, [], gk, treeP.nil w true e, fun w' _ => treeP.nil w' true e, by simp⟩, fun _ c hc => by rw [gk, gbl_pack] at hc; simp at hc⟩
    · obtain ⟨d, rfl⟩ : ∃ d, j = N + d := ⟨j - N, by omega⟩
      have hL : ((fO (sw1 k (.bs N rows.length)) k s.o).set k (.it (treeP true e []))).length = N := by rw [List.length_set, fO_len, hN]
      rw [List.getElem?_append_right (by omega), hL, Nat.add_sub_cancel_left] at ho
      cases d with
      | zero =>
        simp at ho
        subst ho
        refine ⟨⟨b, vs, (t, cur.toList.drop (rows.length * (ty e).sz)), gN, hbox, q4 I g' (N + 1) gS, hat1.one, (hF b (List.mem_cons_self ..)).2.1, (hF b (List.mem_cons_self ..)).2.2⟩, fun _ c hc => .inl ?_⟩
        rw [Nat.add_zero, gN] at hc
        rw [show c = b from (show b = c from hc).symm]
        exact List.mem_cons_self ..
      | succ i =>
        simp at ho
        have hi : i < gs.length := by rw [q1]; exact (List.getElem?_eq_some_iff.1 ho).1
        obtain ⟨⟨r, a1, a2⟩, ⟨A', n', cap', a3⟩, a4⟩ := q2 i _ (List.getElem?_eq_getElem hi)
        rw [a1] at ho
        obtain rfl := Option.some.inj ho
        have e1 := gS i _ (List.getElem?_eq_getElem hi)
        rw [Nat.add_right_comm] at e1
        rw [a3] at e1 a2
        refine ⟨⟨A', n', cap', _, e1, a2, fun w' hw => a2.keep hw, fun c hc => hF c (List.mem_cons_of_mem _ (a4 c hc))⟩, fun _ c hc => .inl ?_⟩
        have e2 : g' (N + (i + 1)) = packG (.slice A' n' cap') gs[i].2 := e1
        rw [e2, gbl_pack] at hc
        exact List.mem_cons_of_mem _ (a4 c hc)
  · -- each block is one object's
    have cls : ∀ j, (j = k ∨ N ≤ j) → (∃ o, ((fO (sw1 k (.bs N rows.length)) k s.o).set k (.it (treeP true e [])) ++ (.box (openL (N + 1) rows.flatten) :: openO e rows.flatten))[j]? = some o ∧ o ≠ .dead) → gbl (g' j) c → (j = N ∧ c = b) ∨ ∃ i p, j = N + 1 + i ∧ gs[i]? = some p ∧ c ∈ p.2 := fun j hj hlj hb2 => by
      rcases hj with rfl | hj
      · rw [gk, gbl_pack] at hb2; simp at hb2
      · by_cases e : j = N
        · subst e
          rw [gN] at hb2
          exact .inl ⟨rfl, (show b = c from hb2).symm⟩
        · obtain ⟨i, rfl⟩ : ∃ i, j = N + 1 + i := ⟨j - (N + 1), by omega⟩
          rcases Nat.lt_or_ge i gs.length with h1 | h1
          · have hp := List.getElem?_eq_getElem h1
            obtain ⟨_, ⟨A', n', cap', a3⟩, _⟩ := q2 i _ hp
            rw [gS i _ hp, a3, gbl_pack] at hb2
            exact .inr ⟨i, _, rfl, hp, hb2⟩
          · rw [gE _ (by omega)] at hb2
            exact hb2.elim
    rcases cls i hi hli hbi with ⟨rfl, rfl⟩ | ⟨i1, p1, rfl, hp1, hc1⟩ <;> rcases cls j hj hlj hbj with ⟨rfl, e2⟩ | ⟨i2, p2, rfl, hp2, hc2⟩
    · rfl
    · exact absurd ((q2 i2 p2 hp2).2.2 _ hc2) hn1
    · subst e2
      exact absurd ((q2 i1 p1 hp1).2.2 _ hc1) hn1
    · rw [q3 i1 i2 p1 p2 c hp1 hp2 hc1 hc2]
  · rw [List.length_append, List.length_set, fO_len]; exact Nat.le_add_right _ _
  · rw [List.length_append, List.length_set, fO_len, ← hN, List.length_cons, ← q1] at hj
    exact gE j (by omega)
end
end Go.Proofs.Ytclehkgnacekkaa.Vm
end
section
namespace Go.Proofs.Ytclehkgnacekkaa.Vm
open Go.RowKit
theorem closes_it {os : List O} {e : Nat} : ∀ {cs : List V} {ds : List D} {ms : List Nat}, closes os e cs ds ms → ∀ m ∈ ms, ∃ b r, getO os m = .it (treeP b e r)
  | cs, ds, ms, hc, m, hm => by
    unfold closes at hc
    split at hc
    · simp at hm
    · exact closes_it hc.2 m hm
    · exact closes_it hc.2 m hm
    · obtain ⟨rfl, _, ⟨b, ho⟩, hc⟩ := hc
      rcases List.mem_cons.1 hm with rfl | hm
      · exact ⟨b, _, ho⟩
      · exact closes_it hc m hm
    · exact hc.elim
termination_by cs => cs.length
section
variable {I0 : Nat → Nat → Prop} {X : Nat → Prop} {w0 : W0} {I I' : Nat → Nat → Prop} {g g' : Nat → Value} {s : S} {a : Act} {w w' : World}
theorem RelI.closed (h : RelI I0 X w0 I g s a w) {p c j k n e : Nat} {bs cs : List V} {ds : List D} {ms : List Nat} {rows : List (List D)} {P : World → Value → List Nat → Prop} (hp : s.o[p]? = some (.box bs)) (hcell : bs[c]? = some (.bs j n)) (hj : s.o[j]? = some (.box cs)) (hk : s.o[k]? = some (.it P)) (hpj : p ≠ j)
    (hlen : cs.length = n * (ty e).sz) (hcl : closes s.o e cs ds ms) (hr1 : rows.flatten = ds) (hr2 : rows.length = n) (hr3 : ∀ r ∈ rows, r.length = (ty e).sz) (hn0 : 0 < n) (hms : ms.Nodup) :
    Rel I0 X w0 ⟨fT (sw1 k .jk) s.t, ((deadO (j :: ms) (fO (sw1 k .jk) k s.o)).set k (.it (treeP false e rows))).set p (.box ((fL (sw1 k .jk) bs).set c (.own k)))⟩ a w := by
  obtain ⟨b, us, t, hg, hb, hus, h1s, hIb, hMb⟩ := h.obj j _ hj
  obtain ⟨bp, usp, tp, hgp, hbp, husp, h1p, hIp, hMp⟩ := h.obj p _ hp
  obtain ⟨A0, n0, cap0, F0, hgk, _, _, _⟩ := h.obj k _ hk
  have lj : live s j := ⟨_, hj, by simp⟩
  have lp : live s p := ⟨_, hp, by simp⟩
  have lk : live s k := ⟨_, hk, by simp⟩
  have kp : k ≠ p := fun e => by rw [e, hp] at hk; cases hk
  have kj : k ≠ j := fun e => by rw [e, hj] at hk; cases hk
  have mit : ∀ m ∈ ms, m ≠ p ∧ m ≠ j := fun m hm => by
    obtain ⟨z, r, ho⟩ := closes_it hcl m hm
    have ho := getO_some ho (by simp)
    exact ⟨fun e => (by rw [e, hp] at ho; cases ho), fun e => (by rw [e, hj] at ho; cases ho)⟩
  obtain ⟨F2, hat, hn2, hF2⟩ := closes_at h hus hcl hms
  have hcl2 : c < usp.length := by rw [husp.1]; exact (List.getElem?_eq_some_iff.1 hcell).1
  obtain ⟨b2, cap, hgb, hu, hcap⟩ := (husp.2 c usp[c] _ (List.getElem?_eq_getElem hcl2) hcell).unbs
  have e1 : b2 = b := by rw [hg] at hgb; injection hgb with hgb; injection hgb with hgb; injection hgb with hgb; exact hgb.symm
  subst e1
  have hbF : b2 ∉ F2 := fun hm => by
    obtain ⟨m, hm', hl', hb'⟩ := hF2 b2 hm
    exact (mit m hm').2 (h.dis m j b2 hl' lj hb' (by rw [hg]; rfl))
  have htree : AtTs w e (b2 :: (F2 ++ [])) [.slice (some ⟨b2, 0, none⟩) rows.length cap] [.sl (ty e).sz rows] := by
    refine .sl b2 cap rows us (us ++ t.2).toArray t.1 F2 [] [] [] (fun e => by rw [e] at hr2; simp at hr2; omega) (by omega) hb (by rw [hus.1, hlen, hr2]) ?_ hr3 (by rw [hr1]; exact hat) .nil
    show ((us ++ t.2).toArray.toList).take _ = us
    have : us.length = rows.length * (ty e).sz := by rw [hus.1, hlen, hr2]
    rw [← this]
    simp
  rw [List.append_nil] at htree
  have hP : treeP false e rows w (.slice (some ⟨b2, 0, none⟩) rows.length cap) (b2 :: F2) := ⟨List.nodup_cons.2 ⟨hbF, hn2⟩, htree, by simp⟩
  have hgn : ∀ i, i ≠ k → g i ≠ .nilFunc → upd g k (packG (.slice (some ⟨b2, 0, none⟩) rows.length cap) (b2 :: F2)) i = g i := fun i hi _ => upd_ne hi
  have hgr : ∀ i, isRef (g i) = true → upd g k (packG (.slice (some ⟨b2, 0, none⟩) rows.length cap) (b2 :: F2)) i = g i := fun i hr => upd_ne fun e => by rw [e, hgk] at hr; cases hr
  have hsw := sw1_at (I := I) (I' := I) (w := w) (w' := w) (k := k) (x := .jk) (fun _ _ h => h) (Keeps.refl I w) hgn hgr (fun v _ _ => .jk v) (fun b n cap e => by rw [hgk] at e; cases e)
  have hltk := (List.getElem?_eq_some_iff.1 hk).1
  have hltp := (List.getElem?_eq_some_iff.1 hp).1
  have dl : (deadO (j :: ms) (fO (sw1 k .jk) k s.o)).length = s.o.length := by rw [deadO_len, fO_len]
  have look : ∀ i o, (((deadO (j :: ms) (fO (sw1 k .jk) k s.o)).set k (.it (treeP false e rows))).set p (.box ((fL (sw1 k .jk) bs).set c (.own k))))[i]? = some o → (i = p ∧ o = .box ((fL (sw1 k .jk) bs).set c (.own k))) ∨ (i = k ∧ o = .it (treeP false e rows)) ∨ (i ≠ p ∧ i ≠ k ∧ i ∈ j :: ms ∧ o = .dead) ∨ (i ≠ p ∧ i ≠ k ∧ i ∉ j :: ms ∧ (fO (sw1 k .jk) k s.o)[i]? = some o) := fun i o ho => by
    by_cases e1 : p = i
    · subst e1
      rw [List.getElem?_set_self (by rw [List.length_set, dl]; exact hltp)] at ho
      exact .inl ⟨rfl, (Option.some.inj ho).symm⟩
    · rw [List.getElem?_set_ne e1] at ho
      by_cases e2 : k = i
      · subst e2
        rw [List.getElem?_set_self (by rw [dl]; exact hltk)] at ho
        exact .inr (.inl ⟨rfl, (Option.some.inj ho).symm⟩)
      · rw [List.getElem?_set_ne e2] at ho
        rcases deadO_get _ _ _ _ ho with ⟨h1, h2⟩ | ⟨h1, h2⟩
        · exact .inr (.inr (.inr ⟨Ne.symm e1, Ne.symm e2, h1, h2⟩))
        · exact .inr (.inr (.inl ⟨Ne.symm e1, Ne.symm e2, h1, h2⟩))
  have inF : ∀ x, x ∈ b2 :: F2 → ∃ i, (i = k ∨ i = p ∨ i ∈ j :: ms) ∧ i ≠ p ∧ live s i ∧ gbl (g i) x := fun x hx => by
    rcases List.mem_cons.1 hx with rfl | hx
    · exact ⟨j, .inr (.inr (List.mem_cons_self ..)), Ne.symm hpj, lj, by rw [hg]; rfl⟩
    · obtain ⟨m, h1, h2, h3⟩ := hF2 x hx
      exact ⟨m, .inr (.inr (List.mem_cons_of_mem _ h1)), (mit m h1).1, h2, h3⟩
  refine ⟨I, upd g k (packG (.slice (some ⟨b2, 0, none⟩) rows.length cap) (b2 :: F2)), h.trade (sw1 k .jk) (fun i => i = k ∨ i = p ∨ i ∈ j :: ms) (fun x => ∃ i, (i = k ∨ i = p ∨ i ∈ j :: ms) ∧ live s i ∧ gbl (g i) x) _ h.fr (Keeps.refl I w) (Nat.le_refl _) (fun _ _ h => h) (fun x hx => hx) (fun b n h => .inl h) hsw (fun _ _ _ _ _ => rfl) (fun i hi o ho => ?_) (fun i hi o ho => ?_) (fun i1 i2 x hi1 hi2 hl1 hl2 hb1 hb2 => ?_) hgr (by rw [List.length_set, List.length_set, dl]; exact Nat.le_refl _) (fun i hi => ?_)⟩
  · refine ⟨upd_ne fun e => hi (.inl e), ?_⟩
    rcases look i o ho with ⟨h1, _⟩ | ⟨h1, _⟩ | ⟨_, _, h1, _⟩ | ⟨_, _, _, h1⟩
    · exact absurd (.inr (.inl h1)) hi
    · exact absurd (.inl h1) hi
    · exact absurd (.inr (.inr h1)) hi
    · obtain ⟨o0, h2, h3⟩ := fO_get _ _ _ _ _ h1
      refine ⟨o0, h2, h3.imp id (Or.imp (fun ⟨ks, a1, a2⟩ => ⟨ks, _, a1, a2, fun i hi => List.mem_cons_of_mem _ hi, fun i _ => ?_⟩) id)⟩
      by_cases e : i = k
      · exact .inr (by rw [e]; exact List.mem_cons_self ..)
      · exact .inl (upd_ne e)
  · rcases look i o ho with ⟨rfl, rfl⟩ | ⟨rfl, rfl⟩ | ⟨_, _, _, rfl⟩ | ⟨h1, h2, h3, _⟩
    · refine ⟨⟨bp, usp, tp, by rw [upd_ne (Ne.symm kp)]; exact hgp, hbp, ?_, h1p, hIp, hMp⟩, fun _ x hx => ?_⟩
      · refine (fL_at hsw husp).reset fun v hv => ?_
        rw [List.getElem?_eq_getElem hcl2, hu] at hv
        obtain rfl := Option.some.inj hv
        refine .own k _ _ _ ?_
        rw [upd_same, ← hr2]
        rfl
      · rw [upd_ne (Ne.symm kp)] at hx
        exact .inl ⟨i, .inr (.inl rfl), lp, hx⟩
    · refine ⟨⟨some ⟨b2, 0, none⟩, rows.length, cap, b2 :: F2, upd_same .., hP, fun w' hw => hP.keep hw, fun x hx => ?_⟩, fun _ x hx => ?_⟩
      · obtain ⟨cc, tt, hcc⟩ := htree.cells x hx
        obtain ⟨i', _, _, ⟨oi, hoi, hdi⟩, hbi⟩ := inF x hx
        refine ⟨⟨cc, tt, hcc⟩, ?_⟩
        rcases List.mem_cons.1 hx with rfl | hx
        · exact ⟨hIb, hMb⟩
        · obtain ⟨m, h1, ⟨om, hom, hdm⟩, h3⟩ := hF2 x hx
          obtain ⟨z, r, ho⟩ := closes_it hcl m h1
          have ho := getO_some ho (by simp)
          obtain ⟨A, n', cap', F, q1, _, _, q4⟩ := h.obj m _ ho
          rw [q1, gbl_pack] at h3
          exact (q4 x h3).2
      · rw [upd_same, gbl_pack] at hx
        obtain ⟨i', h1, _, h3, h4⟩ := inF x hx
        exact .inl ⟨i', h1, h3, h4⟩
    · exact ⟨True.intro, fun hd => absurd rfl hd⟩
    · rcases hi with hi | hi | hi
      · exact absurd hi h2
      · exact absurd hi h1
      · exact absurd hi h3
  · have cls : ∀ i, (i = k ∨ i = p ∨ i ∈ j :: ms) → (∃ o, (((deadO (j :: ms) (fO (sw1 k .jk) k s.o)).set k (.it (treeP false e rows))).set p (.box ((fL (sw1 k .jk) bs).set c (.own k))))[i]? = some o ∧ o ≠ .dead) → i = p ∨ i = k := fun i hi ⟨o, ho, hd⟩ => by
      rcases look i o ho with ⟨h1, _⟩ | ⟨h1, _⟩ | ⟨_, _, _, rfl⟩ | ⟨h1, h2, h3, _⟩
      · exact .inl h1
      · exact .inr h1
      · exact absurd rfl hd
      · rcases hi with hi | hi | hi
        · exact absurd hi h2
        · exact absurd hi h1
        · exact absurd hi h3
    have cross : gbl (upd g k (packG (.slice (some ⟨b2, 0, none⟩) rows.length cap) (b2 :: F2)) p) x → gbl (upd g k (packG (.slice (some ⟨b2, 0, none⟩) rows.length cap) (b2 :: F2)) k) x → False := fun h1 h2 => by
      rw [upd_ne (Ne.symm kp)] at h1
      rw [upd_same, gbl_pack] at h2
      obtain ⟨i', _, h3, h4, h5⟩ := inF x h2
      exact h3 (h.dis i' p x h4 lp h5 h1)
    rcases cls i1 hi1 hl1 with rfl | rfl <;> rcases cls i2 hi2 hl2 with rfl | rfl
    · rfl
    · exact (cross hb1 hb2).elim
    · exact (cross hb2 hb1).elim
    · rfl
  · rw [List.length_set, List.length_set, dl] at hi
    rw [upd_ne (by omega)]
    exact h.out i hi
theorem mv1_at {j k : Nat} (hgr : ∀ i, isRef (g i) = true → g' i = g i) (hg : ∀ i, i ≠ j → g' i = g i) (hj : gv (g' j) = gv (g k)) (hel : ∀ b n cap, g j ≠ .slice (some ⟨b, 0, none⟩) n cap) : ∀ v y, AtV I w g v y → AtV I w g' v (mv1 j k y) := by
  intro v y h
  cases y with
  | own i =>
    show AtV I w g' v (match eqN i j with | true => .jk | false => (match eqN i k with | true => .own j | false => .own i))
    obtain ⟨h1, A, n, cap, h2⟩ := h.unown
    cases e : eqN i j
    · cases e2 : eqN i k
      · rw [h1, h2]
        exact .own i A n cap ((congrArg gv (hg i (eqN_no.1 e))).trans h2)
      · obtain rfl := eqN_is.1 e2
        rw [h1, h2]
        exact .own j A n cap (hj.trans h2)
    · exact .jk _
  | ag cs => exact .jk _
  | tu cs => exact .jk _
  | d x => cases h with | d h => exact .d h
  | em => cases h; exact .em
  | ptr j off => cases h with | ptr k off b h => exact .ptr _ off b ((hgr j (by rw [h]; rfl)).trans h)
  | cl f ks =>
    cases h with
    | cl f us ks hl h =>
      exact .cl f us ks hl fun i u j hu hj => by
        obtain ⟨h1, b, h2⟩ := h i u j hu hj
        have h3 := hgr j (by rw [h2]; rfl)
        exact ⟨h1.trans h3.symm, b, h3.trans h2⟩
  | el i x sz off =>
    cases h with
    | el i x sz off b n cap h => exact .el i x sz off b n cap ((hg i fun e => hel b n cap (e ▸ h)).trans h)
  | ro cs off => cases h with | ro b o off us cs hi hc hd => exact .ro b o off us cs hi hc hd
  | mp j => cases h with | mp j b h => exact .mp j b ((hgr j (by rw [h]; rfl)).trans h)
  | bs j n => cases h with | bs j n b cap h hn => exact .bs j n b cap ((hgr j (by rw [h]; rfl)).trans h) hn
  | jk => exact .jk _
theorem RelI.moved (h : RelI I0 X w0 I g s a w) {j k : Nat} {Pj Pk : World → Value → List Nat → Prop} (hj : s.o[j]? = some (.it Pj)) (hk : s.o[k]? = some (.it Pk)) (hjk : j ≠ k) :
    Rel I0 X w0 ⟨fT (mv1 j k) s.t, ((fO (mv1 j k) j s.o).set k .dead).set j (.it Pk)⟩ a w := by
  obtain ⟨A0, n0, cap0, F0, hgj, _, _, _⟩ := h.obj j _ hj
  have hobk := h.obj k _ hk
  have lj : live s j := ⟨_, hj, by simp⟩
  have lk : live s k := ⟨_, hk, by simp⟩
  have hltj := (List.getElem?_eq_some_iff.1 hj).1
  have hltk := (List.getElem?_eq_some_iff.1 hk).1
  have hgr : ∀ i, isRef (g i) = true → upd g j (g k) i = g i := fun i hr => upd_ne fun e => by rw [e, hgj] at hr; cases hr
  have look : ∀ i o, (((fO (mv1 j k) j s.o).set k .dead).set j (.it Pk))[i]? = some o → (i = j ∧ o = .it Pk) ∨ (i = k ∧ o = .dead) ∨ (i ≠ j ∧ i ≠ k ∧ (fO (mv1 j k) j s.o)[i]? = some o) := fun i o ho => by
    by_cases e1 : j = i
    · subst e1
      rw [List.getElem?_set_self (by rw [List.length_set, fO_len]; exact hltj)] at ho
      exact .inl ⟨rfl, (Option.some.inj ho).symm⟩
    · rw [List.getElem?_set_ne e1] at ho
      by_cases e2 : k = i
      · subst e2
        rw [List.getElem?_set_self (by rw [fO_len]; exact hltk)] at ho
        exact .inr (.inl ⟨rfl, (Option.some.inj ho).symm⟩)
      · rw [List.getElem?_set_ne e2] at ho
        exact .inr (.inr ⟨Ne.symm e1, Ne.symm e2, ho⟩)
  refine ⟨I, upd g j (g k), h.trade (mv1 j k) (fun i => i = j ∨ i = k) (fun x => ∃ i, (i = j ∨ i = k) ∧ live s i ∧ gbl (g i) x) _ h.fr (Keeps.refl I w) (Nat.le_refl _) (fun _ _ h => h) (fun x hx => hx) (fun b n h => .inl h) (mv1_at hgr (fun i hi => upd_ne hi) (by rw [upd_same]) (fun b n cap e => by rw [hgj] at e; cases e)) (fun _ _ _ _ _ => rfl) (fun i hi o ho => ?_) (fun i hi o ho => ?_) (fun i1 i2 x hi1 hi2 hl1 hl2 hb1 hb2 => ?_) hgr (by rw [List.length_set, List.length_set, fO_len]; exact Nat.le_refl _) (fun i hi => ?_)⟩
  · refine ⟨upd_ne fun e => hi (.inl e), ?_⟩
    rcases look i o ho with ⟨h1, _⟩ | ⟨h1, _⟩ | ⟨_, _, h1⟩
    · exact absurd (.inl h1) hi
    · exact absurd (.inr h1) hi
    · obtain ⟨o0, h2, h3⟩ := fO_get _ _ _ _ _ h1
      refine ⟨o0, h2, h3.imp id (Or.imp (fun ⟨ks, a1, a2⟩ => ⟨ks, _, a1, a2, fun i hi => List.mem_cons_of_mem _ hi, fun i _ => ?_⟩) id)⟩
      by_cases e : i = j
      · exact .inr (by rw [e]; exact List.mem_cons_self ..)
      · exact .inl (upd_ne e)
  · rcases look i o ho with ⟨rfl, rfl⟩ | ⟨rfl, rfl⟩ | ⟨h1, h2, _⟩
    · refine ⟨?_, fun _ x hx => ?_⟩
      · obtain ⟨A, n, cap, F, q1, q2⟩ := hobk
        exact ⟨A, n, cap, F, by rw [upd_same]; exact q1, q2⟩
      · rw [upd_same] at hx
        exact .inl ⟨k, .inr rfl, lk, hx⟩
    · exact ⟨True.intro, fun hd => absurd rfl hd⟩
    · rcases hi with hi | hi
      · exact absurd hi h1
      · exact absurd hi h2
  · have cls : ∀ i, (i = j ∨ i = k) → (∃ o, (((fO (mv1 j k) j s.o).set k .dead).set j (.it Pk))[i]? = some o ∧ o ≠ .dead) → i = j := fun i hi ⟨o, ho, hd⟩ => by
      rcases look i o ho with ⟨h1, _⟩ | ⟨_, rfl⟩ | ⟨h1, h2, _⟩
      · exact h1
      · exact absurd rfl hd
      · rcases hi with hi | hi
        · exact hi
        · exact absurd hi h2
    rw [cls i1 hi1 hl1, cls i2 hi2 hl2]
  · rw [List.length_set, List.length_set, fO_len] at hi
    rw [upd_ne (by omega)]
    exact h.out i hi
end
end Go.Proofs.Ytclehkgnacekkaa.Vm
end
section
namespace Go.Proofs.Ytclehkgnacekkaa.Vm
open Go.RowKit
theorem ptr_inj {b c : Nat} (h : Value.pointer (some ⟨b, 0, none⟩) = .pointer (some ⟨c, 0, none⟩)) : b = c := by
  injection h with h
  injection h with h
  injection h
theorem lit_box {t n e : Nat} {ps : Array (Nat × Operand)} {dst : Option Nat} {s : S} {K : S → Prop} (l : List V) (he : (ty t).elem = some e) (hl : fillV s.get (places (ty e).sz (n + 1) 0) ps.toList (zeros (constL (ty e).zero) (n + 1) []) = some l) (h1 : ones l = true) (hK : K ((s.obj (.box l)).put dst (.bs (lenO s.o) (n + 1)))) :
    real.ext (.buildSlice t (n + 1) ps) dst s K := by
  rintro I0 X w0 a w o Q ho hd hop ⟨I, g, h⟩
  subst hd
  simp only [okOp, Bool.and_eq_true] at hop
  have hte : tyKnown e = true ∧ (n + 1) * (ty e).sz ≤ 16777216 := by
    have h2 := hop.2
    rw [he] at h2
    simp only [Bool.and_eq_true] at h2
    exact ⟨h2.1, Nat.le_of_ble_eq_true h2.2⟩
  obtain ⟨hke, hsz⟩ := hte
  have ht := hop.1.1
  have hun := ty_slice ht he
  obtain ⟨z, hz, hzc⟩ := ty_zero hke w
  obtain ⟨_, _, _, _, _, _, hzl, _⟩ := ty_info hke
  have hz0 := zeros_at (I := I) (w := w) (g := g) (constL_at (ty e).zero) (n + 1) (.nil I w g)
  rw [List.append_nil] at hz0
  have hpl : ∀ (m off i : Nat) (p : Nat × Nat), (places (ty e).sz m off)[i]? = some p → p = (off + i * (ty e).sz, (ty e).sz) := by
    intro m
    induction m with
    | zero => intro off i p hp; simp [places] at hp
    | succ m ih =>
      intro off i p hp
      cases i with
      | zero => simp [places] at hp; rw [← hp]; simp
      | succ i =>
        have := ih (off + (ty e).sz) i p (by simpa [places] using hp)
        rw [this, Nat.succ_mul]
        exact Prod.ext (by simp only; omega) rfl
  obtain ⟨us', h1', h2⟩ := fill_at h hz0 hl
  have hfill : ∀ (ps : List (Nat × Value)) (cs r : Array Value), Instr.fill (fun i => (places (ty e).sz (n + 1) 0)[i]?) cs ps = some r → Instr.fill (fun i => some (i * (ty e).sz, (ty e).sz)) cs ps = some r := by
    intro ps
    induction ps with
    | nil => intro cs r hr; exact hr
    | cons p ps ih =>
      intro cs r hr
      obtain ⟨i, v⟩ := p
      rw [Instr.fill] at hr ⊢
      cases hp : (places (ty e).sz (n + 1) 0)[i]? with
      | none => rw [hp] at hr; cases hr
      | some q =>
        rw [hp] at hr
        have := hpl _ _ _ _ hp
        rw [Nat.zero_add] at this
        subst this
        simp only at hr ⊢
        split at hr
        · cases hr
        · rename_i hc
          rw [if_neg hc]
          exact ih _ _ hr
  have h3 := hfill _ _ _ h1'
  have hcell : ((Array.range ((n + 1) * (ty e).sz)).map fun i => ((if (n + 1) * (ty e).sz = 0 then #[] else z.cells) : Array Value)[i % ((if (n + 1) * (ty e).sz = 0 then #[] else z.cells) : Array Value).size]!) = ((List.replicate (n + 1) (ty e).zero).flatten).toArray := by
    apply Array.ext'
    by_cases hs0 : (n + 1) * (ty e).sz = 0
    · have : (ty e).sz = 0 := by rcases Nat.mul_eq_zero.1 hs0 with h | h <;> omega
      rw [this] at hzl
      have hnil : (ty e).zero = [] := List.eq_nil_of_length_eq_zero hzl
      rw [hs0, hnil]
      simp
    · rw [if_neg hs0, hzc]
      have := range_zero (ty e).zero.toArray (n + 1)
      simp only [List.size_toArray, hzl] at this
      simpa [hzl] using this
  have hrun : (Instr.buildSlice t (n + 1) (ps.map fun p => (p.1, a.eval p.2))).run Try.prog w = .ok (.slice (some ⟨w.heap.size, 0, none⟩) (n + 1) (n + 1)) (w.alloc (.cells us'.toArray e)) := by
    have hbig : ¬ (n + 1) * (ty e).sz > 16777216 := by omega
    have hsize := ty_size hke w
    by_cases hs0 : (n + 1) * (ty e).sz = 0
    · rw [if_pos hs0] at hcell
      simp only [Instr.buildSlice, Sem.run_bind, run_underlying hun, Result.andThen_ok, hsize, Sem.run_ite, Sem.run_pure]
      rw [if_neg (by omega), if_pos hs0]
      simp only [Result.andThen_ok, hcell, Array.toList_map, h3]
      rfl
    · rw [if_neg hs0] at hcell
      simp only [Instr.buildSlice, Sem.run_bind, run_underlying hun, Result.andThen_ok, hsize, Sem.run_ite, Sem.run_pure]
      rw [if_neg (by omega), if_neg hs0]
      simp only [Sem.run_bind, hz, Result.andThen_ok, Sem.run_pure, hcell, Array.toList_map, h3]
      rfl
  unfold Oper.wp
  have hex : (execOp a.eval o).run Try.prog w = .ok (.value (.slice (some ⟨w.heap.size, 0, none⟩) (n + 1) (n + 1))) (w.alloc (.cells us'.toArray e)) := by
    unfold execOp
    rw [ho]
    simp only [Sem.run_bind, hrun, Result.andThen_ok, Sem.run_pure]
  rw [hex, Oper.upon_value]
  obtain ⟨g', hg, h4⟩ := h.box h2 (ones_at h2 h1) e
  rw [← lenO_is] at hg
  exact ⟨_, ⟨I, g', h4.put (.bs _ _ _ _ hg (Nat.le_refl _)) _⟩, hK⟩
theorem app_tree {t u n e j k : Nat} {x y : Operand} {dst : Option Nat} {s : S} {K : S → Prop} {cs : List V} {xs : List (List D)} (ds : List D) (ms : List Nat) (rows : List (List D)) (R : List (List D)) (he : (ty t).elem = some e) (hx : s.get x = .own k) (hk : getO s.o k = .it (treeP true e xs)) (hy : s.get y = .bs j (n + 1)) (hj : getO s.o j = .box cs)
    (hlen : eqN (lenL cs) ((n + 1) * (ty e).sz) = true) (hcl : closes s.o e cs ds ms) (hch : chunks (ty e).sz (n + 1) ds = some rows) (hms : nodupN (k :: ms) = true) (hroom : xs.length + (n + 1) ≤ 137438953472) (hR : xs ++ rows = R)
    (hK : K (S.put ⟨fT (sw1 k .jk) s.t, setO (deadO (j :: ms) (fO (sw1 k .jk) k s.o)) k (.it (treeP true e R))⟩ dst (.own k))) : real.ext (.call ⟨.builtin .append, ⟨[x, y]⟩, ⟨[t, u]⟩⟩) dst s K := by
  rintro I0 X w0 a w o Q ho hd hop ⟨I, g, h⟩
  subst hd
  simp only [okOp, Bool.and_eq_true] at hop
  obtain ⟨⟨⟨ht, hte⟩, htu⟩, hpos⟩ := hop
  obtain rfl := eqN_is.1 htu
  rw [he] at hpos
  simp only [Nat.blt_eq] at hpos
  have hke := elem_known hte e he
  have hun := ty_slice ht he
  obtain ⟨i, z, hi, his, hiz, hzc, hzl, hby⟩ := ty_info hke
  have hzs : z.cells.size = (ty e).sz := by rw [hzc]; simp [hzl]
  have hk := getO_some hk (by simp)
  have hj := getO_some hj (by simp)
  obtain ⟨hf1, hf2, hf3⟩ := chunks_is hch
  have hlen2 : cs.length = (n + 1) * (ty e).sz := by rw [← lenL_is]; exact eqN_is.1 hlen
  obtain ⟨hkms, hmsn⟩ := List.nodup_cons.1 (nodupN_is hms)
  obtain ⟨b, us, tt, hg, hb, hus, h1s, hIb, hMb⟩ := h.obj j _ hj
  obtain ⟨A, m, cap, F1, hgk, ⟨nd1, hat1, hz1⟩, hst1, hF1⟩ := h.obj k _ hk
  obtain ⟨us0, hown⟩ := hz1 rfl
  obtain ⟨F2, hat2, hn2, hF2⟩ := closes_at h hus hcl hmsn
  have lj : live s j := ⟨_, hj, by simp⟩
  have lk : live s k := ⟨_, hk, by simp⟩
  have kj : k ≠ j := fun e => by rw [e, hj] at hk; cases hk
  have mit : ∀ m ∈ ms, m ≠ j := fun m hm e => by
    obtain ⟨z, r, ho⟩ := closes_it hcl m hm
    have ho := getO_some ho (by simp)
    rw [e, hj] at ho; cases ho
  have hgF1 : ∀ c, gbl (g k) c ↔ c ∈ F1 := fun c => by rw [hgk, gbl_pack]
  have disF : ∀ c, c ∈ F1 → c ∈ F2 → False := fun c h1 h2 => by
    obtain ⟨m', hm', hl', hb'⟩ := hF2 c h2
    exact hkms (h.dis k m' c lk hl' ((hgF1 c).2 h1) hb' ▸ hm')
  have ltF2 : ∀ c ∈ F2, c < w.heap.size := fun c hc => by
    obtain ⟨c1, t1, hc1⟩ := hat2.cells c hc
    exact (Array.getElem?_eq_some_iff.1 hc1).1
  have ltF1 : ∀ c ∈ F1, c < w.heap.size := fun c hc => by
    obtain ⟨⟨c1, t1, hc1⟩, _⟩ := hF1 c hc
    exact (Array.getElem?_eq_some_iff.1 hc1).1
  obtain ⟨F11, hat11, hF11⟩ : ∃ F11, AtTs w e F11 us0 xs.flatten ∧ ((F1 = F11 ∧ (Value.slice A m cap).ownBlock = none) ∨ ∃ b1, F1 = b1 :: F11 ∧ (Value.slice A m cap).ownBlock = some b1) := by
    rcases hat1.top with ⟨h0, hv, hF⟩ | ⟨b1, cap1, vs, cur, t1, F11, hne, hv, hF, hcap1, hb1, hl1, hc1, hr1, hat⟩
    · subst h0
      have : us0 = [] := List.eq_nil_of_length_eq_zero (by rw [hown.1]; simp)
      subst this
      exact ⟨[], .nil, .inl ⟨hF, by rw [hv]; rfl⟩⟩
    · rcases hown.2 with ⟨e0, hz⟩ | ⟨b2, cap2, cur2, e2, _, hh, _, _, _, htk⟩
      · rw [hv] at e0; cases e0
      · rw [hv] at e2
        injection e2 with e2 _ _
        injection e2 with e2
        injection e2 with e2
        subst e2
        rw [hb1] at hh
        injection hh with hh
        injection hh with hh
        subst hh
        rw [hc1] at htk
        subst htk
        exact ⟨F11, hat, .inr ⟨b1, hF, by rw [hv]; rfl⟩⟩
  have subF : ∀ c ∈ F11, c ∈ F1 := fun c hc => by
    rcases hF11 with ⟨e1, _⟩ | ⟨b1, e1, _⟩
    · rw [e1]; exact hc
    · rw [e1]; exact List.mem_cons_of_mem _ hc
  have nd11 : F11.Nodup := by
    rcases hF11 with ⟨e1, _⟩ | ⟨b1, e1, _⟩
    · rw [← e1]; exact nd1
    · rw [e1] at nd1; exact (List.nodup_cons.1 nd1).2
  have ownF : ∀ c, (Value.slice A m cap).ownBlock = some c → c ∈ F1 ∧ c ∉ F11 := fun c hc => by
    rcases hF11 with ⟨e1, e2⟩ | ⟨b1, e1, e2⟩
    · rw [e2] at hc; cases hc
    · rw [e2] at hc
      injection hc with hc
      subst hc
      rw [e1] at nd1 ⊢
      exact ⟨List.mem_cons_self .., (List.nodup_cons.1 nd1).1⟩
  have hxv : a.eval x = .slice A m cap := by
    have h1 := h.get x
    rw [hx] at h1
    rw [h1.unown.1, hgk]; rfl
  obtain ⟨b', capy, hgb, hyv, hcapy⟩ : ∃ b' c', g j = .pointer (some ⟨b', 0, none⟩) ∧ a.eval y = .slice (some ⟨b', 0, none⟩) (n + 1) c' ∧ n + 1 ≤ c' := by
    have h1 := h.get y
    rw [hy] at h1
    exact h1.unbs
  have e1 : b' = b := ptr_inj (hgb.symm.trans hg)
  subst e1
  have hsrc : SrcAt w (some ⟨b', 0, none⟩) (n + 1) (ty e).sz us := ⟨by rw [hus.1, hlen2], by simp, fun ad had q v hq => by
    have h9 := Option.some.inj had
    rw [← h9, Addr.add_lit]
    rw [cell_of_row w b' (0 + q) (us ++ tt.2).toArray tt.1 (0, 0) hb]
    have hlt := (List.getElem?_eq_some_iff.1 hq).1
    simp only [List.getElem?_toArray, Nat.zero_add]
    rw [List.getElem?_append_left hlt]
    exact hq, h1s⟩
  have hr0 : xs.length + (n + 1) ≤ maxLen ∧ (xs.length + (n + 1)) * i.bytes ≤ 140737488355328 := by
    refine ⟨by unfold maxLen; omega, ?_⟩
    have h1 : (xs.length + (n + 1)) * i.bytes ≤ 137438953472 * 1024 := Nat.mul_le_mul hroom hby
    omega
  obtain ⟨v', w', hrun, hown', hsp⟩ : ∃ v' w', (Builtin.append_ #[t, t] o.type #[.slice A m cap, .slice (some ⟨b', 0, none⟩) (n + 1) capy]).run Try.prog w = .ok v' w' ∧ w'.ownsRow 0 e (ty e).sz v' (xs.length + (n + 1)) (us0 ++ us) ∧
      ((∃ g, (Value.slice A m cap).ownBlock = some g ∧ v'.ownBlock = some g ∧ w.grownBy w' (some g)) ∨ (Below w.heap.size w w' ∧ (v'.ownBlock = none ∨ v'.ownBlock = some w.heap.size))) := by
    clear hroom
    generalize n + 1 = nn at *
    exact run_append_split (P := Try.prog) w 0 t o.type e i z (ty e).sz i.bytes hun hi hiz his rfl hzs hpos (.slice A m cap) xs.length us0 hown (some ⟨b', 0, none⟩) nn capy us hsrc hr0.1 hr0.2 (Nat.zero_le _)
  have hsz : w.heap.size ≤ w'.heap.size := by
    rcases hsp with ⟨_, _, _, h3⟩ | ⟨h3, _⟩
    · exact h3.size
    · exact h3.size
  have hother : ∀ c, c < w.heap.size → (Value.slice A m cap).ownBlock ≠ some c → w'.heap[c]? = w.heap[c]? := fun c hc hne => by
    rcases hsp with ⟨d, h1, _, h3⟩ | ⟨h3, _⟩
    · exact h3.block c hc (fun e => hne (by rw [h1, ← e]))
    · exact h3.block c hc
  obtain ⟨bn, capn, curn, hv', _, hbn, hncn, _, hcsn, htkn⟩ : ∃ bn capn curn, v' = .slice (some ⟨bn, 0, none⟩) (xs.length + (n + 1)) capn ∧ 0 ≤ bn ∧ w'.heap[bn]? = some (.cells curn e (0, 0)) ∧ xs.length + (n + 1) ≤ capn ∧ capn ≤ maxLen ∧ curn.size = capn * (ty e).sz ∧ curn.toList.take ((xs.length + (n + 1)) * (ty e).sz) = us0 ++ us := by
    rcases hown'.2 with ⟨_, e2⟩ | h1
    · omega
    · exact h1
  have hbn2 : (Value.slice A m cap).ownBlock = some bn ∨ bn = w.heap.size := by
    rcases hsp with ⟨c, h1, h2, _⟩ | ⟨_, h2 | h2⟩
    · rw [hv'] at h2
      exact .inl (by rw [h1]; exact h2.symm)
    · rw [hv'] at h2; cases h2
    · rw [hv'] at h2; exact .inr (Option.some.inj h2)
  have same1 : ∀ c ∈ F11, w'.heap[c]? = w.heap[c]? := fun c hc => hother c (ltF1 c (subF c hc)) fun e => (ownF c e).2 hc
  have same2 : ∀ c ∈ F2, w'.heap[c]? = w.heap[c]? := fun c hc => hother c (ltF2 c hc) fun e => disF c (ownF c e).1 hc
  have hRl : (xs ++ rows).length = xs.length + (n + 1) := by rw [List.length_append, hf2]
  have htree : AtTs w' e (bn :: ((F11 ++ F2) ++ [])) [.slice (some ⟨bn, 0, none⟩) (xs ++ rows).length capn] [.sl (ty e).sz (xs ++ rows)] := by
    refine .sl bn capn (xs ++ rows) (us0 ++ us) curn e (F11 ++ F2) [] [] [] (fun e => by rw [e] at hRl; simp at hRl) (by omega) hbn ?_ (by rw [hRl]; exact htkn) (fun r hr => ?_) ?_ .nil
    · rw [hRl, hown'.1]
    · rcases List.mem_append.1 hr with hr | hr
      · rcases hat1.top with ⟨h0, _⟩ | ⟨_, _, _, _, _, _, _, _, _, _, _, _, _, hr1, _⟩
        · rw [h0] at hr; simp at hr
        · exact hr1 r hr
      · exact hf3 r hr
    · rw [List.flatten_append, hf1]
      exact (hat11.keep same1).app (hat2.keep same2)
  rw [List.append_nil, hRl, hR] at htree
  have hndn : (bn :: (F11 ++ F2)).Nodup := by
    refine List.nodup_cons.2 ⟨fun hm => ?_, List.nodup_append.2 ⟨nd11, hn2, fun c hc c' hc' e => disF c (subF c hc) (e ▸ hc')⟩⟩
    rcases hbn2 with h1 | h1
    · rcases List.mem_append.1 hm with hm | hm
      · exact (ownF bn h1).2 hm
      · exact disF bn (ownF bn h1).1 hm
    · rcases List.mem_append.1 hm with hm | hm
      · have := ltF1 bn (subF bn hm); omega
      · have := ltF2 bn hm; omega
  have hRl2 : R.length = xs.length + (n + 1) := by rw [← hR, hRl]
  have hP : treeP true e R w' (.slice (some ⟨bn, 0, none⟩) (xs.length + (n + 1)) capn) (bn :: (F11 ++ F2)) := ⟨hndn, htree, fun _ => ⟨us0 ++ us, by rw [hRl2, ← hv']; exact hown'⟩⟩
  obtain ⟨gn, hgn0⟩ : ∃ gn, gn = packG (.slice (some ⟨bn, 0, none⟩) (xs.length + (n + 1)) capn) (bn :: (F11 ++ F2)) := ⟨_, rfl⟩
  have hgn : ∀ q, q ≠ k → g q ≠ .nilFunc → upd g k gn q = g q := fun q hq _ => upd_ne hq
  have hgr : ∀ q, isRef (g q) = true → upd g k gn q = g q := fun q hr => upd_ne fun e => by rw [e, hgk] at hr; cases hr
  have hkp : Keeps I w w' := fun c h' hi q hq => by
    have hc := (h.lt c h' hi).1
    exact blk_cell (hother c hc fun e => (hF1 c (ownF c e).1).2.1 h' hi) q
  have hfr : Fr X w0.w w' := by
    have hos : w'.os = w.os ∧ w'.tape = w.tape ∧ w'.output = w.output := by
      rcases hsp with ⟨_, _, _, h3⟩ | ⟨h3, _⟩
      · exact ⟨h3.os, h3.tape, h3.output⟩
      · exact ⟨h3.os, h3.tape, h3.output⟩
    refine ⟨hos.1.trans h.fr.os, hos.2.1.trans h.fr.tape, hos.2.2.trans h.fr.output, Nat.le_trans h.fr.size hsz, fun c hc hX => ?_⟩
    rw [hother c (Nat.lt_of_lt_of_le hc h.fr.size) fun e => ?_]
    · exact h.fr.block c hc hX
    · rcases (hF1 c (ownF c e).1).2.2 with h1 | h1
      · omega
      · exact hX h1
  have hltk := (List.getElem?_eq_some_iff.1 hk).1
  have dl : (deadO (j :: ms) (fO (sw1 k .jk) k s.o)).length = s.o.length := by rw [deadO_len, fO_len]
  have look : ∀ q ob, ((deadO (j :: ms) (fO (sw1 k .jk) k s.o)).set k (.it (treeP true e R)))[q]? = some ob → (q = k ∧ ob = .it (treeP true e R)) ∨ (q ≠ k ∧ q ∈ j :: ms ∧ ob = .dead) ∨ (q ≠ k ∧ q ∉ j :: ms ∧ (fO (sw1 k .jk) k s.o)[q]? = some ob) := fun q ob ho => by
    by_cases e2 : k = q
    · subst e2
      rw [List.getElem?_set_self (by rw [dl]; exact hltk)] at ho
      exact .inl ⟨rfl, (Option.some.inj ho).symm⟩
    · rw [List.getElem?_set_ne e2] at ho
      rcases deadO_get _ _ _ _ ho with ⟨h1, h2⟩ | ⟨h1, h2⟩
      · exact .inr (.inr ⟨Ne.symm e2, h1, h2⟩)
      · exact .inr (.inl ⟨Ne.symm e2, h1, h2⟩)
  have inF : ∀ c, c ∈ bn :: (F11 ++ F2) → (∃ q, (q = k ∨ q ∈ j :: ms) ∧ live s q ∧ gbl (g q) c) ∨ w.heap.size ≤ c := fun c hc => by
    have key : c ∈ F1 → ∃ q, (q = k ∨ q ∈ j :: ms) ∧ live s q ∧ gbl (g q) c := fun hc => ⟨k, .inl rfl, lk, (hgF1 c).2 hc⟩
    rcases List.mem_cons.1 hc with rfl | hc
    · rcases hbn2 with h1 | h1
      · exact .inl (key (ownF _ h1).1)
      · exact .inr (by omega)
    · rcases List.mem_append.1 hc with hc | hc
      · exact .inl (key (subF c hc))
      · obtain ⟨m', h1, h2, h3⟩ := hF2 c hc
        exact .inl ⟨m', .inr (List.mem_cons_of_mem _ h1), h2, h3⟩
  have hrel : RelI I0 X w0 I (upd g k gn) ⟨fT (sw1 k .jk) s.t, (deadO (j :: ms) (fO (sw1 k .jk) k s.o)).set k (.it (treeP true e R))⟩ a w' := by
    refine h.trade (sw1 k .jk) (fun q => q = k ∨ q ∈ j :: ms) (fun c => ∃ q, (q = k ∨ q ∈ j :: ms) ∧ live s q ∧ gbl (g q) c) _ hfr hkp hsz (fun _ _ h => h) (fun c hc => hc) (fun b n h => .inl h) (sw1_at (fun _ _ h => h) hkp hgn hgr (fun v _ _ => .jk v) (fun b n cap e => by rw [hgk] at e; cases e)) (fun q hq hl c hc => ?_) (fun q hq ob ho => ?_) (fun q hq ob ho => ?_) (fun i1 i2 c hi1 hi2 hl1 hl2 hb1 hb2 => ?_) hgr (by rw [List.length_set, dl]; exact Nat.le_refl _) (fun q hq => ?_)
    · refine hother c (h.blk_lt hl hc) fun e => hq (.inl ?_)
      exact h.dis q k c hl lk hc ((hgF1 c).2 (ownF c e).1)
    · refine ⟨upd_ne fun e => hq (.inl e), ?_⟩
      rcases look q ob ho with ⟨h1, _⟩ | ⟨_, h1, _⟩ | ⟨_, _, h1⟩
      · exact absurd (.inl h1) hq
      · exact absurd (.inr h1) hq
      · obtain ⟨o0, h2, h3⟩ := fO_get _ _ _ _ _ h1
        refine ⟨o0, h2, h3.imp id (Or.imp (fun ⟨ks, a1, a2⟩ => ⟨ks, _, a1, a2, fun i hi => List.mem_cons_of_mem _ hi, fun i _ => ?_⟩) id)⟩
        by_cases e : i = k
        · exact .inr (by rw [e]; exact List.mem_cons_self ..)
        · exact .inl (upd_ne e)
    · rcases look q ob ho with ⟨rfl, rfl⟩ | ⟨_, _, rfl⟩ | ⟨h1, h2, _⟩
      · refine ⟨⟨some ⟨bn, 0, none⟩, xs.length + (n + 1), capn, bn :: (F11 ++ F2), by rw [upd_same, hgn0], hP, fun w2 hw => hP.keep hw, fun c hc => ?_⟩, fun _ c hc => ?_⟩
        · obtain ⟨cc, t1, hcc⟩ := htree.cells c hc
          refine ⟨⟨cc, t1, hcc⟩, ?_⟩
          have key : c ∈ F1 → (∀ h', ¬ I c h') ∧ Mine X w0 c := fun hc => (hF1 c hc).2
          rcases List.mem_cons.1 hc with rfl | hc
          · rcases hbn2 with h1 | h1
            · exact key (ownF _ h1).1
            · exact ⟨fun h' hi => by have := (h.lt _ h' hi).1; omega, .inl (by have := h.fr.size; omega)⟩
          · rcases List.mem_append.1 hc with hc | hc
            · exact key (subF c hc)
            · obtain ⟨m', h1, h2, h3⟩ := hF2 c hc
              obtain ⟨zz, r, ho⟩ := closes_it hcl m' h1
              have ho := getO_some ho (by simp)
              obtain ⟨A', n', cap', F, q1, _, _, q4⟩ := h.obj m' _ ho
              rw [q1, gbl_pack] at h3
              exact (q4 c h3).2
        · rw [upd_same, hgn0, gbl_pack] at hc
          exact inF c hc
      · exact ⟨True.intro, fun hd => absurd rfl hd⟩
      · rcases hq with hq | hq
        · exact absurd hq h1
        · exact absurd hq h2
    · have cls : ∀ q, (q = k ∨ q ∈ j :: ms) → (∃ ob, ((deadO (j :: ms) (fO (sw1 k .jk) k s.o)).set k (.it (treeP true e R)))[q]? = some ob ∧ ob ≠ .dead) → q = k := fun q hq ⟨ob, ho, hd⟩ => by
        rcases look q ob ho with ⟨h1, _⟩ | ⟨_, _, rfl⟩ | ⟨h1, h2, _⟩
        · exact h1
        · exact absurd rfl hd
        · rcases hq with hq | hq
          · exact hq
          · exact absurd hq h2
      rw [cls i1 hi1 hl1, cls i2 hi2 hl2]
    · rw [List.length_set, dl] at hq
      rw [upd_ne (by omega)]
      exact h.out q hq
  unfold Oper.wp
  have hexec : (execOp a.eval o).run Try.prog w = .ok (.value v') w' := by
    unfold execOp
    rw [ho]
    simp only [resolve, invoke, builtin, Sem.run_bind, Sem.run_pure, Result.andThen_ok, List.map_toArray, List.map_cons, List.map_nil, hxv, hyv, hrun]
  rw [hexec, Oper.upon_value]
  rw [setO_is] at hK
  refine ⟨_, ⟨_, _, hrel.put (x := .own k) ?_ _⟩, hK⟩
  rw [hv']
  exact .own _ _ _ _ (by rw [upd_same, hgn0]; rfl)
end Go.Proofs.Ytclehkgnacekkaa.Vm
end
section
namespace Go.Proofs.Ytclehkgnacekkaa.Vm
open Go.RowKit
def catL : List (List D) → List D
  | [] => []
  | r :: l => catD r (catL l)
where
  catD : List D → List D → List D
    | [], m => m
    | x :: l, m => x :: catD l m
theorem catL_is : ∀ l : List (List D), catL l = l.flatten
  | [] => rfl
  | r :: l => by
    have h : ∀ r m : List D, catL.catD r m = r ++ m := by
      intro r m
      induction r with
      | nil => rfl
      | cons x r ih => rw [catL.catD, ih]; rfl
    rw [catL, h, catL_is l]; simp
theorem Ghost.melt {s : S} {k e : Nat} {z : Bool} {rows : List (List D)} (hk : getO s.o k = .it (treeP z e rows)) : Ghost s ⟨fT (sw1 k (.d (.sl (ty e).sz rows))) s.t, setO (fO (sw1 k (.d (.sl (ty e).sz rows))) k s.o) k .dead⟩ := by
  rintro I0 X w0 a w ⟨I, g, h⟩
  rw [setO_is]
  exact h.melt (getO_some hk (by simp))
theorem Ghost.openT {s : S} {k e : Nat} {z : Bool} {rows : List (List D)} (hk : getO s.o k = .it (treeP z e rows)) (hne : rows ≠ []) : Ghost s ⟨fT (sw1 k (.bs (lenO s.o) (lenL rows))) s.t, appO (setO (fO (sw1 k (.bs (lenO s.o) (lenL rows))) k s.o) k (.it (treeP true e []))) (.box (openL (lenO s.o + 1) (catL rows)) :: openO e (catL rows))⟩ := by
  rintro I0 X w0 a w ⟨I, g, h⟩
  rw [setO_is, appO_is, lenO_is, lenL_is, catL_is]
  exact h.opened (getO_some hk (by simp)) hne
theorem Ghost.closeT {s : S} {p c j k n e : Nat} {bs cs : List V} {ds : List D} {ms : List Nat} {rows : List (List D)} {P : World → Value → List Nat → Prop} (hp : getO s.o p = .box bs) (hcell : getN bs c = .bs j (n + 1)) (hj : getO s.o j = .box cs) (hk : getO s.o k = .it P) (hpj : eqN p j = false) (hlen : eqN (lenL cs) ((n + 1) * (ty e).sz) = true) (hcl : closes s.o e cs ds ms) (hch : chunks (ty e).sz (n + 1) ds = some rows) (hms : nodupN ms = true) :
    Ghost s ⟨fT (sw1 k .jk) s.t, setO (setO (deadO (j :: ms) (fO (sw1 k .jk) k s.o)) k (.it (treeP false e rows))) p (.box (setN (fL (sw1 k .jk) bs) c (.own k)))⟩ := by
  rintro I0 X w0 a w ⟨I, g, h⟩
  rw [setO_is, setO_is, setN_is]
  obtain ⟨h1, h2, h3⟩ := chunks_is hch
  exact h.closed (getO_some hp (by simp)) (getN_some hcell (by simp)) (getO_some hj (by simp)) (getO_some hk (by simp)) (eqN_no.1 hpj) (by rw [← lenL_is]; exact eqN_is.1 hlen) hcl h1 h2 h3 (Nat.succ_pos _) (nodupN_is hms)
theorem Ghost.moveT {s : S} {j k : Nat} {Pj Pk : World → Value → List Nat → Prop} (hj : getO s.o j = .it Pj) (hk : getO s.o k = .it Pk) (hjk : eqN j k = false) : Ghost s ⟨fT (mv1 j k) s.t, setO (setO (fO (mv1 j k) j s.o) k .dead) j (.it Pk)⟩ := by
  rintro I0 X w0 a w ⟨I, g, h⟩
  rw [setO_is, setO_is]
  exact h.moved (getO_some hj (by simp)) (getO_some hk (by simp)) (eqN_no.1 hjk)
theorem Ghost.newT (s : S) (i e : Nat) (hi : getN s.t i = .em) : Ghost s ⟨setN s.t i (.own (lenO s.o)), snocO s.o (.it (treeP true e []))⟩ := by
  rintro I0 X w0 a w ⟨I, g, h⟩
  have h2 := h.newObj (.it (treeP true e [])) (packG (.slice none 0 0) []) ⟨none, 0, 0, [], by rw [upd_same], treeP.nil w true e, fun w' _ => treeP.nil w' true e, by simp⟩ (fun j b _ _ hb => by rw [gbl_pack] at hb; simp at hb)
  refine ⟨I, upd g s.o.length (packG (.slice none 0 0) []), ?_⟩
  have h3 : RelI I0 X w0 I (upd g s.o.length (packG (.slice none 0 0) [])) ⟨s.t, snocO s.o (.it (treeP true e []))⟩ a w := h2
  refine h3.reread fun v hv => ?_
  have hs := getN_some hi (by simp)
  have h4 := h.tmp.2 i v _ hv hs
  rw [h4.unem]
  exact .own _ _ _ _ (by rw [lenO_is, upd_same]; rfl)
section
variable {I0 : Nat → Nat → Prop} {X : Nat → Prop} {w0 : W0} {I : Nat → Nat → Prop} {g : Nat → Value} {s : S} {a : Act} {w : World}
theorem RelI.emV (h : RelI I0 X w0 I g s a w) {k e : Nat} {z : Bool} (hk : s.o[k]? = some (.it (treeP z e []))) : gv (g k) = .slice none 0 0 := by
  obtain ⟨A, n, cap, F, hg, ⟨_, hat, _⟩, _⟩ := h.obj k _ hk
  rw [hg]
  rcases hat.top with ⟨_, hv, _⟩ | ⟨_, _, _, _, _, _, h0, _⟩
  · exact hv
  · exact absurd rfl h0
theorem RelI.weakT (h : RelI I0 X w0 I g s a w) {k : Nat} {P P' : World → Value → List Nat → Prop} (hk : s.o[k]? = some (.it P)) (hP : ∀ w v F, P w v F → P' w v F) : RelI I0 X w0 I g ⟨s.t, s.o.set k (.it P')⟩ a w := by
  have hlt := (List.getElem?_eq_some_iff.1 hk).1
  refine ⟨h.im, h.lt, h.fr, h.kp, by simp only [List.length_set]; exact h.lo, h.st, fun i o ho => ?_, fun i j b hi hj => h.dis i j b (live_set hk (by simp) hi) (live_set hk (by simp) hj), fun i hi => h.out i (by simpa using hi), h.tmp, h.dfr⟩
  by_cases hik : k = i
  · subst hik
    simp only [List.getElem?_set_self hlt] at ho
    cases ho
    obtain ⟨A, n, cap, F, h1, h2, h3, h4⟩ := h.obj k _ hk
    exact ⟨A, n, cap, F, h1, hP _ _ _ h2, fun w' hw => hP _ _ _ (h3 w' hw), h4⟩
  · simp only [List.getElem?_set_ne hik] at ho
    exact h.obj i o ho
end
theorem Ghost.weakT {s : S} {k e : Nat} {z : Bool} {rows : List (List D)} (hk : getO s.o k = .it (treeP z e rows)) : Ghost s ⟨s.t, setO s.o k (.it (treeP false e rows))⟩ := by
  rintro I0 X w0 a w ⟨I, g, h⟩
  rw [setO_is]
  exact ⟨I, g, h.weakT (getO_some hk (by simp)) fun w v F ⟨h1, h2, _⟩ => ⟨h1, h2, by simp⟩⟩
theorem Ghost.emT {s : S} {k e : Nat} {z : Bool} (hk : getO s.o k = .it (treeP z e [])) : Ghost s ⟨fT (sw1 k .em) s.t, fO (sw1 k .em) k s.o⟩ := by
  rintro I0 X w0 a w ⟨I, g, h⟩
  have hv := h.emV (getO_some hk (by simp))
  refine ⟨I, g, h.trade (sw1 k .em) (fun _ => False) (fun _ => False) _ h.fr (Keeps.refl I w) (Nat.le_refl _) (fun _ _ h => h) (fun _ hb => hb.elim) (fun b n h => .inl h) (sw1_at (fun _ _ h => h) (Keeps.refl I w) (fun _ _ _ => rfl) (fun _ _ => rfl) (fun v hv2 _ => by rw [hv2, hv]; exact .em) (fun _ _ _ _ => rfl)) (fun _ _ _ _ _ => rfl) (fun j hj o ho => ⟨rfl, ?_⟩) (fun j hj => hj.elim) (fun i j b hi => hi.elim) (fun _ _ => rfl) (by rw [fO_len]; exact Nat.le_refl _) (fun j hj => h.out j (by rw [fO_len] at hj; exact hj))⟩
  obtain ⟨o0, h1, h2⟩ := fO_get _ _ _ _ _ ho
  exact ⟨o0, h1, h2.imp id (Or.imp (fun ⟨ks, a1, a2⟩ => ⟨ks, _, a1, a2, fun i hi => List.mem_cons_of_mem _ hi, fun i _ => .inl rfl⟩) id)⟩
theorem Ghost.cellT {s : S} {p c k e : Nat} {z : Bool} {bs : List V} (hp : getO s.o p = .box bs) (hc : getN bs c = .em) (hk : getO s.o k = .it (treeP z e [])) : Ghost s ⟨s.t, setO s.o p (.box (setN bs c (.own k)))⟩ := by
  rintro I0 X w0 a w ⟨I, g, h⟩
  have hv := h.emV (getO_some hk (by simp))
  rw [setO_is, setN_is]
  refine ⟨I, g, h.rebox (getO_some hp (by simp)) fun us hus => hus.reset fun v hv2 => ?_⟩
  rw [(hus.2 c v _ hv2 (getN_some hc (by simp))).unem]
  exact .own k _ _ _ hv
section
variable {qa : IntKind → Int → Int} {qb : Int → Int → Int} {qc : Int → Int → Int} {qd : Int → Int → Int} {qe : Int → Int → Int} {qf : Int → Int → Int} {qg : BinOp → IntKind → Int → IntKind → Int → Option Int} {qh : Int → Int → Bool} {qi : Int → Int → Bool} {qj : Int → Int → Bool} {qk : Int → Prop → Prop} {ql : List UInt8 → List UInt8 → Bool} {qm : List UInt8 → List UInt8 → Bool} {qo : ByteArray → List UInt8} {qp : ByteArray → ByteArray → ByteArray} {qq : ByteArray → ByteArray → Prop → Prop} {qs : ByteArray → Int} {qt : ByteArray → Int → Option Int} {qu : ByteArray → Int → Int → Option ByteArray} {qv : Int → Nat → Option Nat} {qw : List (List D) → Int} {qx : List (List D) → Int → Option (List D)} {qy : List (List D) → Int → Int → Option (List (List D))} {qz : List (List D) → List (List D) → List (List D)} {va : List (List D) → Int → List D → List (List D)} {vc : List (List D) → List (List D) → Prop → Prop} {vd : List (R × R) → R → Option R} {ve : List (R × R) → R → R → List (R × R)} {vf : Int → List D → (List (List D) → Prop) → Prop} {vg : Nat → List R → (List R → Prop) → Prop} {vh : Nat → List V → List O → (List R → Prop) → Prop} {vj : Nat → List V → S → (V → S → Prop) → Prop} {vk : Nat → (Bool → Prop) → Prop} {vl : Nat → (Bool → Prop) → Prop} {vp : Nat → (List V → List O → Prop) → List V → S → Prop} {vq : (S → Prop) → S → Prop} {vr : Op → Option Nat → S → (S → Prop) → Prop} {vt : Array Oper → S → (S → Prop) → Prop} {vu : Code → (S → (X → S → Prop) → Prop) → S → (X → S → Prop) → Prop}
theorem melt_at (hA : Ar.mk qa qb qc qd qe qf qg qh qi qj qk ql qm qo qp qq qs qt qu qv qw qx qy qz va vc vd ve vf vg vh vj vk vl vp vq vr vt vu = real) {N : S → Prop} {s : S} (k : Nat) {e : Nat} {z : Bool} {rows : List (List D)} (hk : getO s.o k = .it (treeP z e rows)) (h : N ⟨fT (sw1 k (.d (.sl (ty e).sz rows))) s.t, setO (fO (sw1 k (.d (.sl (ty e).sz rows))) k s.o) k .dead⟩) : vq N s := ghost_at hA _ (Ghost.melt hk) h
theorem open_at (hA : Ar.mk qa qb qc qd qe qf qg qh qi qj qk ql qm qo qp qq qs qt qu qv qw qx qy qz va vc vd ve vf vg vh vj vk vl vp vq vr vt vu = real) {N : S → Prop} {s : S} (k : Nat) {e : Nat} {z : Bool} {rows : List (List D)} (hk : getO s.o k = .it (treeP z e rows)) (hne : rows ≠ []) (h : N ⟨fT (sw1 k (.bs (lenO s.o) (lenL rows))) s.t, appO (setO (fO (sw1 k (.bs (lenO s.o) (lenL rows))) k s.o) k (.it (treeP true e []))) (.box (openL (lenO s.o + 1) (catL rows)) :: openO e (catL rows))⟩) : vq N s := ghost_at hA _ (Ghost.openT hk hne) h
theorem close_at (hA : Ar.mk qa qb qc qd qe qf qg qh qi qj qk ql qm qo qp qq qs qt qu qv qw qx qy qz va vc vd ve vf vg vh vj vk vl vp vq vr vt vu = real) {N : S → Prop} {s : S} (p c j k : Nat) {n e : Nat} {bs cs : List V} (ds : List D) (ms : List Nat) (rows : List (List D)) {P : World → Value → List Nat → Prop} (hp : getO s.o p = .box bs) (hcell : getN bs c = .bs j (n + 1)) (hj : getO s.o j = .box cs) (hk : getO s.o k = .it P) (hpj : eqN p j = false) (hlen : eqN (lenL cs) ((n + 1) * (ty e).sz) = true) (hcl : closes s.o e cs ds ms) (hch : chunks (ty e).sz (n + 1) ds = some rows) (hms : nodupN ms = true)
    (h : N ⟨fT (sw1 k .jk) s.t, setO (setO (deadO (j :: ms) (fO (sw1 k .jk) k s.o)) k (.it (treeP false e rows))) p (.box (setN (fL (sw1 k .jk) bs) c (.own k)))⟩) : vq N s := ghost_at hA _ (Ghost.closeT hp hcell hj hk hpj hlen hcl hch hms) h
theorem movet_at (hA : Ar.mk qa qb qc qd qe qf qg qh qi qj qk ql qm qo qp qq qs qt qu qv qw qx qy qz va vc vd ve vf vg vh vj vk vl vp vq vr vt vu = real) {N : S → Prop} {s : S} (j k : Nat) {Pj Pk : World → Value → List Nat → Prop} (hj : getO s.o j = .it Pj) (hk : getO s.o k = .it Pk) (hjk : eqN j k = false) (h : N ⟨fT (mv1 j k) s.t, setO (setO (fO (mv1 j k) j s.o) k .dead) j (.it Pk)⟩) : vq N s := ghost_at hA _ (Ghost.moveT hj hk hjk) h
theorem newt_at (hA : Ar.mk qa qb qc qd qe qf qg qh qi qj qk ql qm qo qp qq qs qt qu qv qw qx qy qz va vc vd ve vf vg vh vj vk vl vp vq vr vt vu = real) {N : S → Prop} {s : S} (i e : Nat) (hi : getN s.t i = .em) (h : N ⟨setN s.t i (.own (lenO s.o)), snocO s.o (.it (treeP true e []))⟩) : vq N s := ghost_at hA _ (Ghost.newT s i e hi) h
theorem weakt_at (hA : Ar.mk qa qb qc qd qe qf qg qh qi qj qk ql qm qo qp qq qs qt qu qv qw qx qy qz va vc vd ve vf vg vh vj vk vl vp vq vr vt vu = real) {N : S → Prop} {s : S} (k : Nat) {e : Nat} {z : Bool} {rows : List (List D)} (hk : getO s.o k = .it (treeP z e rows)) (h : N ⟨s.t, setO s.o k (.it (treeP false e rows))⟩) : vq N s := ghost_at hA _ (Ghost.weakT hk) h
theorem emt_at (hA : Ar.mk qa qb qc qd qe qf qg qh qi qj qk ql qm qo qp qq qs qt qu qv qw qx qy qz va vc vd ve vf vg vh vj vk vl vp vq vr vt vu = real) {N : S → Prop} {s : S} (k : Nat) {e : Nat} {z : Bool} (hk : getO s.o k = .it (treeP z e [])) (h : N ⟨fT (sw1 k .em) s.t, fO (sw1 k .em) k s.o⟩) : vq N s := ghost_at hA _ (Ghost.emT hk) h
theorem cellt_at (hA : Ar.mk qa qb qc qd qe qf qg qh qi qj qk ql qm qo qp qq qs qt qu qv qw qx qy qz va vc vd ve vf vg vh vj vk vl vp vq vr vt vu = real) {N : S → Prop} {s : S} (p c k : Nat) {e : Nat} {z : Bool} {bs : List V} (hp : getO s.o p = .box bs) (hc : getN bs c = .em) (hk : getO s.o k = .it (treeP z e [])) (h : N ⟨s.t, setO s.o p (.box (setN bs c (.own k)))⟩) : vq N s := ghost_at hA _ (Ghost.cellT hp hc hk) h
end
end Go.Proofs.Ytclehkgnacekkaa.Vm
end
section
namespace Go.Proofs.Ytclehkgnacekkaa.Vm
open Go.RowKit
set_option maxRecDepth 100000
set_option maxHeartbeats 4000000
def oT (op nm n : Value) (k : Nat) : V := .ag [.d (.sc op), .d (.sc nm), .d (.sc n), .own k]
def ownR (op nm n : Value) (K : List (List D)) (res : List V) (os : List O) : Prop := res = [oT op nm n 0] ∧ ∃ z, os = [.it (treeP z 25 K)]
def ownT (t : Ty) : List V → List O → Prop := ownR (.int .u8 t.op) (.string t.name) (.int .i64 t.n) (rT t.kids)
theorem copiedO_s : ∀ (m : Nat) (t : Ty), t.parts.length ≤ m → m ≤ 1048576 → SpecO 113 [.ag (ofD (cT t))] [] (ownT t) := by
  intro m
  induction m with
  | zero => intro t h; have := parts_pos t; omega
  | succ m ih =>
    intro t hm hm2
    have hkl := kids_le t
    obtain ⟨op, nm, n, ks⟩ := t
    simp only [Ty.kids] at hkl ih
    rw [cT]
    show SpecO _ _ _ (ownR (.int .u8 op) (.string nm) (.int .i64 n) (rT ks))
    obtain ⟨K, hK⟩ : ∃ K, K = rT ks := ⟨_, rfl⟩
    rw [← hK]
    refine speco_of Try.func113 rfl (by kernel_rfl) (by kernel_rfl) (by kernel_rfl) fun qa qb qc qd qe qf qg qh qi qj qk ql qm qo qp qq qs qt qu qv qw qx qy qz va vc vd ve vf vg vh vj vk vl vp vq vr vt vu hA => ?_
    cbv
    with_reducible apply next_at hA
    cbv
    refine newt_at hA 3 25 rfl ?_
    cbv
    repeat ((with_reducible apply next_at hA); cbv)
    obtain ⟨e1, e2, e3, e4, e5, e6, e7, e8, e9⟩ := ar_at hA
    obtain ⟨r1, r2, r3, r4⟩ := row_at hA
    refine loop_at hA (γ := Int × List (List D)) (fun x => [(9, vi .i64 x.1), (3, .own 2), (13, .jk), (14, .jk), (15, .jk), (16, .jk), (17, .jk)]) (fun x => [(2, .it (treeP true 25 x.2))]) (fun x => ∃ k : Nat, x.1 = (k : Int) ∧ k ≤ ks.length ∧ x.2 = rT (ks.take k)) (fun x => ks.length - x.1.toNat) (0, []) ?_ ?_ ?_
    · exact ⟨0, rfl, Nat.zero_le _, rfl⟩
    · cbv
    · intro x hinv
      obtain ⟨z, L⟩ := x
      cbv
      repeat ((with_reducible apply next_at hA); cbv)
      obtain ⟨k, hz, hk, hE⟩ := hinv
      have hz : z = (k : Int) := hz
      replace hE : L = rT (ks.take k) := hE
      have hlen : qw K = (ks.length : Int) := by rw [r1, hK, rT_len]
      have hlt : qh z (qw K) = decide (k < ks.length) := by rw [e7, hlen, hz]; exact decide_eq_decide.2 (by omega)
      by_cases h9 : k < ks.length
      · rw [decide_eq_true h9] at hlt
        obtain ⟨x, hx⟩ : ∃ x, ks[k]? = some x := ⟨_, List.getElem?_eq_getElem h9⟩
        have g1 : qx K z = some (cT x) := by rw [r2, hz, if_pos (by omega), hK]; exact rT_get hx
        have hsp := ih x (by have := hkl.2 x (List.mem_of_getElem? hx); omega) (by omega)
        have hsn := rT_snoc hx
        obtain ⟨o1, m1, n1, l1⟩ := x
        rw [cT] at g1 hsp hsn
        replace hsp : SpecO 113 _ _ (ownR (.int .u8 o1) (.string m1) (.int .i64 n1) (rT l1)) := hsp
        generalize rT l1 = L1 at *
        rw [hlt]
        cbv
        repeat ((with_reducible apply next_at hA); cbv)
        rw [g1]
        cbv
        repeat ((with_reducible apply next_at hA); cbv)
        refine callo_at hA [] hsp ⟨rfl, rfl, rfl, rfl, rfl, rfl, rfl⟩ ?_
        rintro res os2 ⟨rfl, zz, rfl⟩
        cbv
        refine ext_at hA (lit_box [.d (.sc (.int .u8 o1)), .d (.sc (.string m1)), .d (.sc (.int .i64 n1)), .own 4] rfl rfl rfl ?_)
        cbv
        refine ext_at hA (app_tree [.sc (.int .u8 o1), .sc (.string m1), .sc (.int .i64 n1), .sl 4 L1] [4] [[.sc (.int .u8 o1), .sc (.string m1), .sc (.int .i64 n1), .sl 4 L1]] (qz L [[.sc (.int .u8 o1), .sc (.string m1), .sc (.int .i64 n1), .sl 4 L1]]) rfl rfl rfl rfl rfl rfl ⟨rfl, rfl, rfl, rfl, rfl, ⟨_, rfl⟩, trivial⟩ rfl rfl ?_ (r4 _ _).symm ?_)
        · rw [hE, rT_len]; simp; omega
        cbv
        repeat ((with_reducible apply next_at hA); cbv)
        replace hz : z = (k : Int) := hz
        have hz1 : qa .i64 (qb z 1) = ((k + 1 : Nat) : Int) := by rw [e1, e2, hz, IntWalk.i64_in _ (by omega)]; omega
        refine ⟨(qa .i64 (qb z 1), qz L [[.sc (.int .u8 o1), .sc (.string m1), .sc (.int .i64 n1), .sl 4 L1]]), ⟨k + 1, hz1, h9, by show qz L _ = _; rw [r4, hE, hsn]⟩, by show ks.length - (qa .i64 (qb z 1)).toNat < ks.length - z.toNat; rw [hz1, hz]; omega, ?_⟩
        cbv
      · rw [decide_eq_false h9] at hlt
        rw [hlt]
        cbv
        repeat ((with_reducible apply next_at hA); cbv)
        have hE2 : L = K := by rw [hE, hK, List.take_of_length_le (by omega)]
        rw [hE2]
        exact keep_is hA [2] ⟨rfl, rfl, rfl, rfl, rfl, rfl, rfl, rfl⟩ ⟨rfl, true, rfl⟩
end Go.Proofs.Ytclehkgnacekkaa.Vm
end
section
namespace Go.Proofs.Ytclehkgnacekkaa.Vm
open Go.RowKit
set_option maxRecDepth 100000
set_option maxHeartbeats 4000000
def jT2 (rows : List (List D)) (d0 d1 d2 d3 : D) (x : V) : List V := [.d (.sl 5 rows), .ag [.d d0, .d d1, .d d2, .d d3], .tu [], .ptr 0 0, .ptr 1 0, .ptr 3 0, .tu [], .tu [], .ag [.d d0, .d d1, .d d2, .d d3], x, .d (.sl 5 rows),
  .cl 137 [5], .tu [], .tu [], .tu [], .tu [], .tu [], .tu [], .tu [], .tu [], .tu [], .tu [], .tu []]
def jO2 (d0 d1 d2 d3 : D) (op nm n : Value) (R : List (List D)) (b : O) : List O := [.box [.d d0, .d d1, .d d2, .d d3], .box [.d (.sc (.int .u8 0)), .d (.sc (.string ⟨#[]⟩)), .d (.sc (.int .i64 0)), .em], .it (treeP false 25 R), .box [.d (.sc op), .d (.sc nm), .d (.sc n), .own 2], .dead, b]
theorem pre_joinO (rows : List (List D)) (d0 d1 d2 d3 : D) (op nm n : Value) (R : List (List D)) (hcp : SpecO 113 [.ag [.d d0, .d d1, .d d2, .d d3]] [] (ownR op nm n R)) (P : S → Prop) (hP : P ⟨jT2 rows d0 d1 d2 d3 (oT op nm n 2), jO2 d0 d1 d2 d3 op nm n R (.box [.d (.sl 5 rows)])⟩) : ∀ qa qb qc qd qe qf qg qh qi qj qk ql qm qo qp qq qs qt qu qv qw qx qy qz va vc vd ve vf vg vh vj vk vl vp vq vr vt vu, Ar.mk qa qb qc qd qe qf qg qh qi qj qk ql qm qo qp qq qs qt qu qv qw qx qy qz va vc vd ve vf vg vh vj vk vl vp vq vr vt vu = real → exec (Ar.mk qa qb qc qd qe qf qg qh qi qj qk ql qm qo qp qq qs qt qu qv qw qx qy qz va vc vd ve vf vg vh vj vk vl vp vq vr vt vu) (.seq (seqL (Try.f63.body.getD .skip)) (.seq (seqL (seqR (Try.f63.body.getD .skip))) (seqL (seqL (seqR (seqR (Try.f63.body.getD .skip)))))))
    (startO [.d (.sl 5 rows), .ag [.d d0, .d d1, .d d2, .d d3]] [] (Try.f63.ntmps - lenL [V.d (.sl 5 rows), .ag [.d d0, .d d1, .d d2, .d d3]])) (fun x s => x = .normal ∧ P s) := by
  intro qa qb qc qd qe qf qg qh qi qj qk ql qm qo qp qq qs qt qu qv qw qx qy qz va vc vd ve vf vg vh vj vk vl vp vq vr vt vu hA
  cbv
  repeat ((with_reducible apply next_at hA); cbv)
  refine callo_at hA [] hcp ⟨rfl, rfl, rfl, rfl, rfl, rfl, rfl⟩ ?_
  rintro res os2 ⟨rfl, zz, rfl⟩
  cbv
  refine weakt_at hA 2 (z := zz) rfl ?_
  cbv
  repeat ((with_reducible apply next_at hA); cbv)
  refine inl_at hA Try.func114 rfl (by kernel_rfl) (by kernel_rfl) (by kernel_rfl) ?_
  cbv
  repeat ((with_reducible apply next_at hA); cbv)
  exact hP
theorem round_joinO (rows : List (List D)) (d0 d1 d2 d3 : D) (op nm n nv o1 m1 n1 : Value) (R L1 : List (List D)) (i : Int) (hcp : SpecO 113 [.ag [.d (.sc o1), .d (.sc m1), .d (.sc n1), .d (.sl 4 L1)]] [] (ownR o1 m1 n1 L1)) : ∀ qa qb qc qd qe qf qg qh qi qj qk ql qm qo qp qq qs qt qu qv qw qx qy qz va vc vd ve vf vg vh vj vk vl vp vq vr vt vu, Ar.mk qa qb qc qd qe qf qg qh qi qj qk ql qm qo qp qq qs qt qu qv qw qx qy qz va vc vd ve vf vg vh vj vk vl vp vq vr vt vu = real →
    exec (Ar.mk qa qb qc qd qe qf qg qh qi qj qk ql qm qo qp qq qs qt qu qv qw qx qy qz va vc vd ve vf vg vh vj vk vl vp vq vr vt vu) (rangeA (seqR (seqL (seqR (seqR (Try.f63.body.getD .skip)))))) ⟨setN (setN (jT2 rows d0 d1 d2 d3 .jk) 12 (vi .i64 i)) 13 (.ag [.d (.sc nv), .d (.sc o1), .d (.sc m1), .d (.sc n1), .d (.sl 4 L1)]), snocO (jO2 d0 d1 d2 d3 op nm n R .dead) (.kl [])⟩
      (fun x s1 => x = .normal ∧ mpSub (jO2 d0 d1 d2 d3 op nm n R .dead) s1.o = true ∧ exec (Ar.mk qa qb qc qd qe qf qg qh qi qj qk ql qm qo qp qq qs qt qu qv qw qx qy qz va vc vd ve vf vg vh vj vk vl vp vq vr vt vu) (rangeB (seqR (seqL (seqR (seqR (Try.f63.body.getD .skip)))))) ⟨s1.t, snocO s1.o (.kl [])⟩ (fun x s2 => x = .normal ∧
        roundF [2] [2] 6 (jO2 d0 d1 d2 d3 op nm n R .dead) (jO2 d0 d1 d2 d3 (.int .u8 11) nv (.int .i64 0) [[.sc o1, .sc m1, .sc n1, .sl 4 L1], [.sc op, .sc nm, .sc n, .sl 4 R]] .dead) (lenO s1.o) s2)) := by
  intro qa qb qc qd qe qf qg qh qi qj qk ql qm qo qp qq qs qt qu qv qw qx qy qz va vc vd ve vf vg vh vj vk vl vp vq vr vt vu hA
  cbv
  repeat ((with_reducible apply next_at hA); cbv)
  refine reg_at hA [2, 3] (by kernel_rfl) ?_
  cbv
  repeat' (first
    | (with_reducible apply And.intro)
    | (refine callo_at hA [] hcp ⟨rfl, rfl, rfl, rfl, rfl, rfl, rfl⟩ ?_; rintro _ _ ⟨rfl, zz, rfl⟩; cbv)
    | (refine ext_at hA (lit_box [.d (.sc o1), .d (.sc m1), .d (.sc n1), .own 9, .d (.sc op), .d (.sc nm), .d (.sc n), .own 2] rfl rfl rfl ?_); cbv)
    | (refine close_at hA 3 3 10 2 (n := 1) (e := 25) [.sc o1, .sc m1, .sc n1, .sl 4 L1, .sc op, .sc nm, .sc n, .sl 4 R] [9, 2] [[.sc o1, .sc m1, .sc n1, .sl 4 L1], [.sc op, .sc nm, .sc n, .sl 4 R]] rfl rfl rfl rfl rfl rfl ⟨rfl, rfl, rfl, rfl, rfl, ⟨_, rfl⟩, rfl, rfl, rfl, rfl, rfl, ⟨_, rfl⟩, trivial⟩ rfl rfl ?_; cbv))
theorem end_joinO (rows : List (List D)) (d0 d1 d2 d3 : D) (op nm n : Value) (R : List (List D)) : ∀ qa qb qc qd qe qf qg qh qi qj qk ql qm qo qp qq qs qt qu qv qw qx qy qz va vc vd ve vf vg vh vj vk vl vp vq vr vt vu, Ar.mk qa qb qc qd qe qf qg qh qi qj qk ql qm qo qp qq qs qt qu qv qw qx qy qz va vc vd ve vf vg vh vj vk vl vp vq vr vt vu = real → exec (Ar.mk qa qb qc qd qe qf qg qh qi qj qk ql qm qo qp qq qs qt qu qv qw qx qy qz va vc vd ve vf vg vh vj vk vl vp vq vr vt vu) (seqR (seqR (seqR (Try.f63.body.getD .skip)))) ⟨jT2 rows d0 d1 d2 d3 .jk, snocO (jO2 d0 d1 d2 d3 op nm n R .dead) (.kl [])⟩
    (fun x s => endKO Try.f63.results.toList (ownR op nm n R) 6 [] x s) := by
  intro qa qb qc qd qe qf qg qh qi qj qk ql qm qo qp qq qs qt qu qv qw qx qy qz va vc vd ve vf vg vh vj vk vl vp vq vr vt vu hA
  cbv
  repeat ((with_reducible apply next_at hA); cbv)
  exact ⟨[2], [oT op nm n 0], [.it (treeP false 25 R)], ⟨rfl, rfl, rfl, rfl, rfl, rfl, rfl, rfl⟩, rfl, false, rfl⟩
theorem pre_joinOR (rows : List (List D)) (d0 d1 d2 d3 : D) (op nm n : Value) (R : List (List D)) (hcp : SpecO 113 [.ag [.d d0, .d d1, .d d2, .d d3]] [] (ownR op nm n R)) (P : S → Prop) (hP : P ⟨jT2 rows d0 d1 d2 d3 (oT op nm n 2), jO2 d0 d1 d2 d3 op nm n R (.box [.d (.sl 5 rows)])⟩) : exec real (.seq (seqL (Try.f63.body.getD .skip)) (.seq (seqL (seqR (Try.f63.body.getD .skip))) (seqL (seqL (seqR (seqR (Try.f63.body.getD .skip)))))))
    (startO [.d (.sl 5 rows), .ag [.d d0, .d d1, .d d2, .d d3]] [] (Try.f63.ntmps - lenL [V.d (.sl 5 rows), .ag [.d d0, .d d1, .d d2, .d d3]])) (fun x s => x = .normal ∧ P s) :=
  pre_joinO rows d0 d1 d2 d3 op nm n R hcp P hP _ _ _ _ _ _ _ _ _ _ _ _ _ _ _ _ _ _ _ _ _ _ _ _ _ _ _ _ _ _ _ _ _ _ _ _ _ _ _ rfl
theorem joinO_s (L : List (ByteArray × Ty)) (tl : Ty) (hlen : L.length * 80 ≤ 140737488351232) (htl : tl.parts.length ≤ 1048576) (hL : ∀ f ∈ L, f.2.parts.length ≤ 1048576) : SpecO 63 [.d (.sl 5 (rF L)), .ag (ofD (cT tl))] [] (ownT (rowS L tl)) := by
  have hct := copiedO_s 1048576 tl htl (Nat.le_refl _)
  obtain ⟨a, ha⟩ : ∃ a : Nat → Ty, a = fun k => rowS (L.drop (L.length - k)) tl := ⟨_, rfl⟩
  have ha0 : a 0 = tl := by rw [ha]; simp only; rw [List.drop_eq_nil_of_le (by omega)]; rfl
  have haN : a L.length = rowS L tl := by rw [ha]; simp only; rw [Nat.sub_self]; rfl
  have haS : ∀ k f, k < L.length → L[L.length - 1 - k]? = some f → a (k + 1) = .mk 11 f.1 0 [f.2, a k] := fun k f hk hf => by
    rw [ha]; simp only
    have h1 : L.length - (k + 1) < L.length := by omega
    have h2 := List.drop_eq_getElem_cons h1
    have e1 : L.length - 1 - k = L.length - (k + 1) := by omega
    rw [e1, List.getElem?_eq_getElem h1] at hf
    rw [h2, Option.some.inj hf, show L.length - (k + 1) + 1 = L.length - k by omega, rowS_op_ne]
  obtain ⟨rows, hrows⟩ : ∃ rows, rows = rF L := ⟨_, rfl⟩
  have hrl : rows.length = L.length := by rw [hrows, rF_len]
  rw [← hrows]
  have etl : ofD (cT tl) = [.d (.sc (.int .u8 tl.op)), .d (.sc (.string tl.name)), .d (.sc (.int .i64 tl.n)), .d (.sl 4 (rT tl.kids))] := by cases tl; rw [cT]; rfl
  rw [etl] at hct ⊢
  replace hct : SpecO 113 _ _ (ownR (.int .u8 tl.op) (.string tl.name) (.int .i64 tl.n) (rT tl.kids)) := hct
  obtain ⟨d0, hd0⟩ : ∃ d, d = D.sc (.int .u8 tl.op) := ⟨_, rfl⟩
  obtain ⟨d1, hd1⟩ : ∃ d, d = D.sc (.string tl.name) := ⟨_, rfl⟩
  obtain ⟨d2, hd2⟩ : ∃ d, d = D.sc (.int .i64 tl.n) := ⟨_, rfl⟩
  obtain ⟨d3, hd3⟩ : ∃ d, d = D.sl 4 (rT tl.kids) := ⟨_, rfl⟩
  rw [← hd0, ← hd1, ← hd2, ← hd3] at hct ⊢
  refine speco_range (Pre := fun s => s = ⟨jT2 rows d0 d1 d2 d3 (oT (.int .u8 tl.op) (.string tl.name) (.int .i64 tl.n) 2), jO2 d0 d1 d2 d3 (.int .u8 tl.op) (.string tl.name) (.int .i64 tl.n) (rT tl.kids) (.box [.d (.sl 5 rows)])⟩) Try.func63 join_xb join_xn join_x0 join_x1 join_xp ?_ ?_
  · exact pre_joinOR rows d0 d1 d2 d3 _ _ _ _ hct _ rfl
  intro I I' g w W s act hs h0
  subst hs
  have h : RelI I (fun _ => False) ⟨w, fun _ => .nilFunc, 0, []⟩ I' g ⟨jT2 rows d0 d1 d2 d3 .jk, jO2 d0 d1 d2 d3 (.int .u8 tl.op) (.string tl.name) (.int .i64 tl.n) (rT tl.kids) (.box [.d (.sl 5 rows)])⟩ act W := h0.reread (i := 9) (x := .jk) fun v _ => .jk v
  obtain ⟨b, us, ty, h1, h2, h3, h4⟩ := h.frzBox (k := 5) rfl
  obtain ⟨v, us', rfl, hv, hn⟩ := h3.uncons
  obtain rfl := hn.unnil
  have hvD : AtD I' W v (.sl 5 rows) := by cases hv with | d h => exact h
  have hBs : W.cell? ⟨b, 0, none⟩ = some v := cells_cell h2
  have hbl : b < W.heap.size := (Array.getElem?_eq_some_iff.1 h2).1
  obtain ⟨bb, off, vs, hl, hup, hds, hr5, hseq⟩ := backF_seq (fun b k hb => (h.lt b k hb).1) hvD hbl hBs (by rw [hrl]; exact hlen)
  have hcl : act.eval (.tmp 11) = .func (.func 137) #[] #[.pointer (some ⟨b, 0, none⟩)] := by
    have h5 := h4.get (.tmp 11)
    have h5 : AtV _ W g (act.eval (.tmp 11)) (.cl 137 [5]) := h5
    generalize act.eval (.tmp 11) = ax at h5 ⊢
    cases h5 with
    | cl f us ks hl hh =>
      match us, hl with
      | [u], _ => rw [(hh 0 u 5 rfl rfl).1, h1]
  obtain ⟨st, hst⟩ : ∃ st : Nat → List O, st = fun k => jO2 d0 d1 d2 d3 (.int .u8 (a k).op) (.string (a k).name) (.int .i64 (a k).n) (rT (a k).kids) .dead := ⟨_, rfl⟩
  have hst0 : RelI I (fun _ => False) ⟨w, fun _ => .nilFunc, 0, []⟩ (fun b' n => I' b' n ∨ (b' = b ∧ n ≤ 1)) g ⟨jT2 rows d0 d1 d2 d3 .jk, st 0⟩ act W := by
    rw [hst]
    simp only
    rw [ha0]
    exact h4
  have hdec : rows.length = L.length := hrl
  refine range_go (ks1 := [2]) (ks2 := [2]) (t := jT2 rows d0 d1 d2 d3 .jk) (p1 := 12) (p2 := 13) (gf := 137) (N := rows.length) (lb := #[.pointer (some ⟨b, 0, none⟩)])
    (u1 := fun k => .int .i64 ((rows.length - 1 - k : Nat) : Int)) (u2 := fun k => .agg (((vs.drop ((rows.length - 1 - k) * 5)).take 5).toArray)) (Kp := KpB b bb off (rows.length * 5)) (st := st)
    (tk := fun k => setN (setN (jT2 rows d0 d1 d2 d3 .jk) 12 (vi .i64 ((rows.length - 1 - k : Nat) : Int))) 13 (.ag (ofD (rows.getD (rows.length - 1 - k) []))))
    join_xA join_xB hst0 (by decide) hcl (enters_of Try.func137 (by kernel_rfl) rfl) (hseq (FW none) 2 trivial rfl (by decide)) KpB.trans (fun W l o o' _ hl ho _ => KpB.turn W l o o' hl ho) ?_ ?_ rfl ?_ ?_
  · intro W1 W2 hk
    refine ⟨fun v hv => ?_, fun i hi v hv => ?_⟩
    · rw [hk b 1 (.inr ⟨rfl, Nat.le_refl _⟩) 0 (by decide)]
      exact hv
    · obtain ⟨n, hn1, hn2⟩ := hup (fun e => by rw [e] at hi; simp at hi)
      rw [hk bb n (.inl hn2) (off + i) (by omega)]
      exact hv
  · intro k W1 I1 g1 hk hI1 hk1 hvs
    have hlt : rows.length - 1 - k < rows.length := by omega
    have e1 : ∀ (ts : Array Value) (i : Nat) (u : Value), (ts.setIfInBounds i u).toList = ts.toList.set i u := fun ts i u => by simp
    rw [e1, e1, setN_is, setN_is]
    refine (hvs.set (.d (.sc _ rfl)) 12).set (atV_ag ?_) 13
    refine AtDs.toV g1 ?_
    have h5 := (hds.drop ((rows.length - 1 - k) * 5)).take 5
    have e2 : (rows.flatten.drop ((rows.length - 1 - k) * 5)).take 5 = rows.getD (rows.length - 1 - k) [] := by
      have hg : rows[rows.length - 1 - k]? = some (rows.getD (rows.length - 1 - k) []) := by rw [List.getD_eq_getElem?_getD, List.getElem?_eq_getElem hlt]; rfl
      apply List.ext_getElem?
      intro i
      rw [List.getElem?_take]
      have h6 : (rows.getD (rows.length - 1 - k) []).length = 5 := hr5 _ (List.mem_of_getElem? hg)
      split
      · rename_i hi
        rw [List.getElem?_drop, flat_get hr5 hg hi]
      · rename_i hi
        rw [List.getElem?_eq_none (by omega)]
    rw [e2] at h5
    exact h5.mono (fun b j hb => hI1 b j (.inl hb)) (fun b j hb => hk1 b j (.inl hb))
  · intro k hk
    have hlt : L.length - 1 - k < L.length := by omega
    obtain ⟨f, hf⟩ : ∃ f, L[L.length - 1 - k]? = some f := ⟨_, List.getElem?_eq_getElem hlt⟩
    have hg : rows.getD (rows.length - 1 - k) [] = .sc (.string f.1) :: cT f.2 := by rw [List.getD_eq_getElem?_getD, hdec, hrows, rF_get hf]; rfl
    have ea := haS k f (by omega) hf
    have hsp := copiedO_s 1048576 f.2 (hL f (List.mem_of_getElem? hf)) (Nat.le_refl _)
    rw [hst]
    try dsimp only
    rw [ea, hg]
    obtain ⟨fn, o1, m1, n1, l1⟩ := f
    rw [cT] at hsp ⊢
    have e7 : rT [Ty.mk o1 m1 n1 l1, a k] = [[.sc (.int .u8 o1), .sc (.string m1), .sc (.int .i64 n1), .sl 4 (rT l1)], [.sc (.int .u8 (a k).op), .sc (.string (a k).name), .sc (.int .i64 (a k).n), .sl 4 (rT (a k).kids)]] := by
      rw [(a k).eta]
      simp only [rT, cT]
      rfl
    simp only [Ty.op, Ty.name, Ty.n, Ty.kids]
    rw [e7]
    exact round_joinO rows d0 d1 d2 d3 _ _ _ _ _ _ _ _ _ _ hsp _ _ _ _ _ _ _ _ _ _ _ _ _ _ _ _ _ _ _ _ _ _ _ _ _ _ _ _ _ _ _ _ _ _ _ _ _ _ _ rfl
  · rintro D W1 hD ⟨I1, g1, q1, q2, q3, q4⟩ hd
    have hID : ∀ k, ¬ I1 D k := fun k => by rw [hD]; exact (q2 k).2
    have hD0 : w.heap.size ≤ D := by rw [hD]; exact h.fr.size
    rw [hst] at q3
    try dsimp only at q3
    rw [hdec, haN] at q3
    refine ends_speco (kl := []) join_x2 join_xr q3 hID hD0 hd ?_
    exact end_joinO rows d0 d1 d2 d3 _ _ _ _ _ _ _ _ _ _ _ _ _ _ _ _ _ _ _ _ _ _ _ _ _ _ _ _ _ _ _ _ _ _ _ _ _ _ _ _ _ _ _ rfl
end Go.Proofs.Ytclehkgnacekkaa.Vm
end
section
namespace Go.Proofs.Ytclehkgnacekkaa.Vm
open Go.RowKit
set_option maxRecDepth 100000
set_option maxHeartbeats 4000000
theorem canonO_s : ∀ (m : Nat) (t : Ty), t.parts.length ≤ m → m ≤ 1048576 → (∀ x ∈ t.parts, Spine x) → SpecO 97 [.ag (ofD (cT t))] [] (ownT (canonS t)) := by
  intro m
  induction m with
  | zero => intro t h; have := parts_pos t; omega
  | succ m ih =>
    intro t hm hm2 hsp
    have hself : t ∈ t.parts := by rw [parts_eq]; exact List.mem_cons_self ..
    have hkl := kids_le t
    obtain ⟨op, nm, n, ks⟩ := t
    generalize ht : Ty.mk op nm n ks = t at *
    have hc : cT t = [.sc (.int .u8 op), .sc (.string nm), .sc (.int .i64 n), .sl 4 (rT ks)] := by rw [← ht, cT]
    have hks : t.kids = ks := by rw [← ht]; rfl
    rw [hks] at hkl
    by_cases hop : op = 11
    · have hF := flat_s t (hsp t hself) (by omega)
      have hcr := canon_row (t := t) (by rw [← ht]; exact hop)
      have hfs : ∀ f ∈ sortS ltF (fieldsS t), f.2.parts.length ≤ m ∧ SpineAll f.2 := fun f hf => by
        have h1 := sortS_mem hf
        have h2 := fields_less _ t (Nat.le_refl _) f h1
        have h3 := fields_mem _ t (Nat.le_refl _) f h1
        exact ⟨by omega, fun x hx => hsp x (parts_trans hx h3)⟩
      have hih : ∀ f ∈ sortS ltF (fieldsS t), Spec 97 [.ag (cT f.2)] [.ag (cT (canonS f.2))] := fun f hf => canonP_s m f.2 (hfs f hf).1 (by omega) (hfs f hf).2
      have hlen : (sortS ltF (fieldsS t)).length ≤ 1048576 := by
        rw [sortS_len]
        have := fieldsS_len _ t (Nat.le_refl _)
        omega
      have htl : (tailS t).parts.length ≤ 1048576 := by
        have h1 := spine_parts _ t (Nat.le_refl _) (hsp t hself)
        omega
      rw [hc] at hF ⊢
      obtain ⟨K0, hK0⟩ : ∃ K, K = rT ks := ⟨_, rfl⟩
      rw [← hK0] at hF ⊢
      generalize sortS ltF (fieldsS t) = L at *
      have hJ := joinO_s (L.map cfS) (tailS t) (by rw [List.length_map]; omega) htl (fun f hf => by
        obtain ⟨f0, hf0, rfl⟩ := List.mem_map.1 hf
        have h1 := hfs f0 hf0
        have h2 := canon_len _ f0.2 (Nat.le_refl _) h1.2
        show (canonS f0.2).parts.length ≤ _
        omega)
      rw [show rowS (L.map cfS) (tailS t) = canonS t from hcr.symm] at hJ
      replace hJ : SpecO _ _ _ (ownR (.int .u8 (canonS t).op) (.string (canonS t).name) (.int .i64 (canonS t).n) (rT (canonS t).kids)) := hJ
      show SpecO _ _ _ (ownR (.int .u8 (canonS t).op) (.string (canonS t).name) (.int .i64 (canonS t).n) (rT (canonS t).kids))
      generalize (canonS t).op = yop at *
      generalize (canonS t).name = ynm at *
      generalize (canonS t).n = yn at *
      generalize rT (canonS t).kids = yK at *
      obtain ⟨q0, q1, q2, q3, hq⟩ := cT_four (tailS t)
      rw [hq] at hF hJ
      obtain ⟨M0, hM0⟩ : ∃ M, M = rF L := ⟨_, rfl⟩
      rw [← hM0] at hF
      refine speco_of Try.func97 rfl (by kernel_rfl) (by kernel_rfl) (by kernel_rfl) fun qa qb qc qd qe qf qg qh qi qj qk ql qm qo qp qq qs qt qu qv qw qx qy qz va vc vd ve vf vg vh vj vk vl vp vq vr vt vu hA => ?_
      cbv
      repeat ((with_reducible apply next_at hA); cbv)
      have h11 : qj op 11 = decide (op = 11) := by have e := ar_at hA; exact e.2.2.2.2.2.2.2.2 _ _
      rw [decide_eq_true hop] at h11
      rw [h11]
      cbv
      repeat ((with_reducible apply next_at hA); cbv)
      refine callo_at hA [] hF ⟨rfl, rfl, rfl, rfl, rfl, rfl, rfl⟩ ?_
      rintro res os2 ⟨rfl, rfl⟩
      cbv
      repeat ((with_reducible apply next_at hA); cbv)
      obtain ⟨e1, e2, e3, e4, e5, e6, e7, e8, e9⟩ := ar_at hA
      obtain ⟨r1, r2, r3, r4⟩ := row_at hA
      obtain ⟨m1, m2, m3, m4⟩ := map_at hA
      refine loop_at hA (γ := Int × List (List D)) (fun x => [(19, vi .i64 x.1), (12, .jk), (14, .jk)]) (fun x => [(2, .row false 86 x.2)]) (fun x => ∃ k : Nat, x.1 = (k : Int) ∧ k ≤ L.length ∧ x.2 = rF ((L.take k).map cfS ++ L.drop k)) (fun x => L.length - x.1.toNat) (0, M0) ?_ ?_ ?_
      · exact ⟨0, rfl, Nat.zero_le _, hM0⟩
      · cbv
      · intro x hinv
        obtain ⟨z, M⟩ := x
        cbv
        repeat ((with_reducible apply next_at hA); cbv)
        try simp (maxSteps := 4000000) only [nc] at *
        obtain ⟨k, hz, hk, hM⟩ := hinv
        have hll : qw M0 = ((L.length : Nat) : Int) := by rw [r1, hM0, rF_len]
        have hlt : qh z (qw M0) = decide (k < L.length) := by rw [e7, hll, hz]; exact decide_eq_decide.2 (by omega)
        by_cases h9 : k < L.length
        · rw [decide_eq_true h9] at hlt
          obtain ⟨x, hx⟩ : ∃ x, L[k]? = some x := ⟨_, List.getElem?_eq_getElem h9⟩
          have hspx := hih x (List.mem_of_getElem? hx)
          have hxe : ((L.take k).map cfS ++ L.drop k)[k]? = some x := by
            rw [List.getElem?_append_right (by simp; omega)]
            simp
            rw [Nat.min_eq_left (by omega), Nat.sub_self, Nat.add_zero]
            exact hx
          have hset : ((L.take k).map cfS ++ L.drop k).set k (cfS x) = (L.take (k + 1)).map cfS ++ L.drop (k + 1) := by
            obtain ⟨hi, e⟩ := List.getElem?_eq_some_iff.1 hx
            have e0 : k - ((L.take k).map cfS).length = 0 := by rw [List.length_map, List.length_take]; omega
            rw [List.set_append_right _ _ (by rw [List.length_map, List.length_take]; omega), List.take_add_one, hx, List.map_append, List.append_assoc, List.drop_eq_getElem_cons hi, e0]
            rfl
          obtain ⟨xn, xt⟩ := x
          obtain ⟨x0, x1, x2, x3, hxx⟩ := cT_four xt
          obtain ⟨v0, v1, v2, v3, hvv⟩ := cT_four (canonS xt)
          simp only at hspx
          rw [hxx, hvv] at hspx
          have gx : qx M z = some [.sc (.string xn), x0, x1, x2, x3] := by rw [r2, hz, if_pos (by omega), hM, show ((k : Int)).toNat = k by omega, rF_get hxe, hxx]
          have hz1 : qa .i64 (qb z 1) = ((k + 1 : Nat) : Int) := by rw [e1, e2, hz, IntWalk.i64_in _ (by omega)]; omega
          have hmu : L.length - (qa .i64 (qb z 1)).toNat < L.length - z.toNat := by rw [hz1, hz]; omega
          have hnew : va M z [.sc (.string xn), v0, v1, v2, v3] = rF ((L.take (k + 1)).map cfS ++ L.drop (k + 1)) := by
            rw [m4, ← hset, hM, hz, show ((k : Int)).toNat = k by omega]
            unfold rF
            rw [List.map_set]
            show _ = List.set _ k (.sc (.string xn) :: cT (canonS xt))
            rw [hvv]
          rw [hlt]
          cbv
          repeat (first | (with_reducible apply next_at hA; cbv) | (rw [gx]; cbv) | (refine call_at hA _ hspx rfl ?_; cbv))
          try cbv
          repeat (first | (with_reducible apply next_at hA; cbv) | (rw [gx]; cbv) | (refine call_at hA _ hspx rfl ?_; cbv))
          try simp (maxSteps := 4000000) only [nc] at *
          refine ⟨(qa .i64 (qb z 1), va M z [.sc (.string xn), v0, v1, v2, v3]), ⟨k + 1, hz1, h9, hnew⟩, hmu, ?_⟩
          cbv
        · rw [decide_eq_false h9] at hlt
          have hM2 : M = rF (L.map cfS) := by rw [hM, List.take_of_length_le (by omega), List.drop_of_length_le (by omega), List.append_nil]
          rw [← hM2] at hJ
          rw [hlt]
          cbv
          refine ghost_at hA _ ((Ghost.frz _ [2]).trans (Ghost.read _ 3 (.sl 5 M) rfl)) ?_
          cbv
          refine callo_at hA [] hJ ⟨rfl, rfl, rfl, rfl, rfl, rfl, rfl⟩ ?_
          rintro _ _ ⟨rfl, zz, rfl⟩
          cbv
          repeat ((with_reducible apply next_at hA); cbv)
          exact keep_is hA [4] ⟨rfl, rfl, rfl, rfl, rfl, rfl, rfl, rfl⟩ ⟨rfl, zz, rfl⟩
    · have hcn := canon_node (t := t) (by rw [← ht]; exact hop)
      rw [hks, show t.op = op by rw [← ht]; rfl, show t.name = nm by rw [← ht]; rfl, show t.n = n by rw [← ht]; rfl] at hcn
      have hih : ∀ x ∈ ks, SpecO 97 [.ag (ofD (cT x))] [] (ownT (canonS x)) := fun x hx => by
        have h2 := hkl.2 x hx
        exact ih x (by omega) (by omega) fun y hy => hsp y (by rw [parts_kids, hks]; exact List.mem_cons_of_mem _ (List.mem_flatMap.2 ⟨x, hx, hy⟩))
      rw [hcn, hc]
      show SpecO _ _ _ (ownR (.int .u8 op) (.string nm) (.int .i64 n) (rT (ks.map canonS)))
      obtain ⟨K, hK⟩ : ∃ K, K = rT ks := ⟨_, rfl⟩
      obtain ⟨Q, hQ⟩ : ∃ Q, Q = rT (ks.map canonS) := ⟨_, rfl⟩
      rw [← hK, ← hQ]
      refine speco_of Try.func97 rfl (by kernel_rfl) (by kernel_rfl) (by kernel_rfl) fun qa qb qc qd qe qf qg qh qi qj qk ql qm qo qp qq qs qt qu qv qw qx qy qz va vc vd ve vf vg vh vj vk vl vp vq vr vt vu hA => ?_
      cbv
      repeat ((with_reducible apply next_at hA); cbv)
      obtain ⟨e1, e2, e3, e4, e5, e6, e7, e8, e9⟩ := ar_at hA
      obtain ⟨r1, r2, r3, r4⟩ := row_at hA
      have h11 : qj op 11 = decide (op = 11) := e9 _ _
      rw [decide_eq_false hop] at h11
      rw [h11]
      cbv
      repeat (first | (refine newt_at hA 6 25 rfl ?_; cbv) | (with_reducible apply next_at hA; cbv))
      refine loop_at hA (γ := Int × List (List D)) (fun x => [(39, vi .i64 x.1), (6, .own 2)]) (fun x => [(2, .it (treeP true 25 x.2))]) (fun x => ∃ k : Nat, x.1 = (k : Int) ∧ k ≤ ks.length ∧ x.2 = rT ((ks.map canonS).take k)) (fun x => ks.length - x.1.toNat) (0, []) ?_ ?_ ?_
      · exact ⟨0, rfl, Nat.zero_le _, rfl⟩
      · cbv
      · intro x hinv
        obtain ⟨z, M⟩ := x
        cbv
        repeat ((with_reducible apply next_at hA); cbv)
        try simp (maxSteps := 4000000) only [nc] at *
        obtain ⟨k, hz, hk, hM⟩ := hinv
        have hll : qw K = ((ks.length : Nat) : Int) := by rw [r1, hK, rT_len]
        have hlt : qh z (qw K) = decide (k < ks.length) := by rw [e7, hll, hz]; exact decide_eq_decide.2 (by omega)
        by_cases h9 : k < ks.length
        · rw [decide_eq_true h9] at hlt
          obtain ⟨x, hx⟩ : ∃ x, ks[k]? = some x := ⟨_, List.getElem?_eq_getElem h9⟩
          have hspx := hih x (List.mem_of_getElem? hx)
          have hx2 : (ks.map canonS)[k]? = some (canonS x) := by rw [List.getElem?_map, hx]; rfl
          have hsn := rT_snoc hx2
          obtain ⟨x0, x1, x2, x3, hxx⟩ := cT_four x
          obtain ⟨vo, vm, vn, vK, hvv, hvs⟩ : ∃ vo vm vn vK, cT (canonS x) = [.sc vo, .sc vm, .sc vn, .sl 4 vK] ∧ ownT (canonS x) = ownR vo vm vn vK := by
            cases canonS x with
            | mk a b c d => exact ⟨_, _, _, _, by rw [cT]; rfl, rfl⟩
          rw [hvs, hxx] at hspx
          rw [hvv] at hsn
          have gx : qx K z = some [x0, x1, x2, x3] := by rw [r2, hz, if_pos (by omega), hK, show ((k : Int)).toNat = k by omega, rT_get hx, hxx]
          have hz1 : qa .i64 (qb z 1) = ((k + 1 : Nat) : Int) := by rw [e1, e2, hz, IntWalk.i64_in _ (by omega)]; omega
          have hmu : ks.length - (qa .i64 (qb z 1)).toNat < ks.length - z.toNat := by rw [hz1, hz]; omega
          have hnew : qz M [[.sc vo, .sc vm, .sc vn, .sl 4 vK]] = rT ((ks.map canonS).take (k + 1)) := by rw [r4, hsn, hM]
          have hMl : M.length ≤ 1048576 := by rw [hM, rT_len, List.length_take]; omega
          rw [hlt]
          cbv
          repeat (first | (with_reducible apply next_at hA; cbv) | (rw [gx]; cbv))
          refine callo_at hA [] hspx ⟨rfl, rfl, rfl, rfl, rfl, rfl, rfl⟩ ?_
          rintro _ _ ⟨rfl, zz, rfl⟩
          cbv
          refine ext_at hA (lit_box [.d (.sc vo), .d (.sc vm), .d (.sc vn), .own 4] rfl rfl rfl ?_)
          cbv
          refine ext_at hA (app_tree [.sc vo, .sc vm, .sc vn, .sl 4 vK] [4] [[.sc vo, .sc vm, .sc vn, .sl 4 vK]] (qz M [[.sc vo, .sc vm, .sc vn, .sl 4 vK]]) rfl rfl rfl rfl rfl rfl ⟨rfl, rfl, rfl, rfl, rfl, ⟨_, rfl⟩, trivial⟩ rfl rfl ?_ (r4 _ _).symm ?_)
          · omega
          cbv
          repeat ((with_reducible apply next_at hA); cbv)
          refine ⟨(qa .i64 (qb z 1), qz M [[.sc vo, .sc vm, .sc vn, .sl 4 vK]]), ⟨k + 1, hz1, h9, hnew⟩, hmu, ?_⟩
          cbv
        · rw [decide_eq_false h9] at hlt
          have hM2 : M = Q := by rw [hM, hQ, List.take_of_length_le (by rw [List.length_map]; omega)]
          rw [hlt]
          cbv
          repeat ((with_reducible apply next_at hA); cbv)
          rw [hM2]
          exact keep_is hA [2] ⟨rfl, rfl, rfl, rfl, rfl, rfl, rfl, rfl⟩ ⟨rfl, true, rfl⟩
end Go.Proofs.Ytclehkgnacekkaa.Vm
end
section
namespace Go.Proofs.Ytclehkgnacekkaa.Vm
open Go.RowKit
set_option maxRecDepth 100000
set_option maxHeartbeats 4000000
theorem asks_none {op : Int} (h : asks op = none) : kidsS op = none := by
  unfold asks at h
  unfold kidsS
  repeat' split at h
  all_goals first | (cases h; done) | skip
  rename_i h1 h2 h3 h4 h5 h6 h7
  rw [if_neg (by omega), if_neg h2, if_neg h3, if_neg h7]
theorem asks_head {op : Int} {kn : Int} {a b : Bool} (h : asks op = some (kn, a, b)) (nm : ByteArray) (n : Int) (ks : List Ty) (row : Bool) :
    headB wordB (.mk op nm n ks) (sI row) = hd2 row (decide (8 ≤ op)) (decide ((ks.length : Int) = kn)) a (wordB nm) (decide (nm.toList = [])) (decide (n < 0)) b (n == 0) ∧ (∃ kk, kidsS op = some kk ∧ (kk.length : Int) = kn ∧ ∀ (k : Nat) (c : Int), kk[k]? = some c → sI (orB (op == 5) (orB (op == 6) (nmF (op == 11) (k == 1) false))) = c) ∧
      (b = true ∧ (vbl (.mk op nm n ks) = some (n, decide (op = 10))) ∧ (op = 10 ∨ op = 7) ∨ b = false ∧ vbl (.mk op nm n ks) = none) := by
  have key : ∀ (i : Int) (kk : List Int), op = i → kidsS i = some kk → (kk.length : Int) = kn → (∀ (k : Nat) (c : Int), kk[k]? = some c → sI (orB (i == 5) (orB (i == 6) (nmF (i == 11) (k == 1) false))) = c) → a = (i == 11) → b = ((i == 7) || (i == 10)) →
      headB wordB (.mk op nm n ks) (sI row) = hd2 row (decide (8 ≤ op)) (decide ((ks.length : Int) = kn)) a (wordB nm) (decide (nm.toList = [])) (decide (n < 0)) b (n == 0) ∧ (∃ kk, kidsS op = some kk ∧ (kk.length : Int) = kn ∧ ∀ (k : Nat) (c : Int), kk[k]? = some c → sI (orB (op == 5) (orB (op == 6) (nmF (op == 11) (k == 1) false))) = c) := by
    rintro i kk rfl h1 h2 h3 rfl rfl
    refine ⟨?_, kk, h1, h2, h3⟩
    rw [head_hd, h1]
    have hk := kidsTx_is h1
    have e1 : decide (ks.length = (kidsTx op).size) = decide ((ks.length : Int) = kn) := by
      have : kk.length = (kidsTx op).size := by rw [hk, List.length_map, btl_size]
      exact decide_eq_decide.2 (by omega)
    have e2 : (decide (8 ≤ op) == (sI row == 114)) = (row == decide (8 ≤ op)) := by cases row <;> cases decide (8 ≤ op) <;> rfl
    unfold hdF hd2
    rw [e1, e2]
    simp only [Option.isSome_some, Bool.true_and, Bool.or_assoc]
    cases (op == 11) <;> rfl
  have two : ∀ {l : List Int} {P : Nat → Int → Prop} {x y : Int}, l = [x, y] → P 0 x → P 1 y → ∀ (k : Nat) (c : Int), l[k]? = some c → P k c := by
    rintro l P x y rfl h0 h1 k c h
    match k, h with
    | 0, h => cases h; exact h0
    | 1, h => cases h; exact h1
    | k + 2, h => simp at h
  have one : ∀ {l : List Int} {P : Nat → Int → Prop} {x : Int}, l = [x] → P 0 x → ∀ (k : Nat) (c : Int), l[k]? = some c → P k c := by
    rintro l P x rfl h0 k c h
    match k, h with
    | 0, h => cases h; exact h0
    | k + 1, h => simp at h
  have zero : ∀ {P : Nat → Int → Prop}, ∀ (k : Nat) (c : Int), ([] : List Int)[k]? = some c → P k c := fun k c h => by simp at h
  unfold asks at h
  repeat' split at h
  all_goals first | (cases h; done) | skip
  all_goals
    cases h
    rename_i h
    first
    | (rcases h with h | h | h <;> subst h <;> exact ⟨(key _ _ rfl rfl rfl zero rfl rfl).1, (key _ _ rfl rfl rfl zero rfl rfl).2, .inr ⟨rfl, rfl⟩⟩)
    | (rcases h with h | h <;> subst h <;> first | exact ⟨(key _ _ rfl rfl rfl zero rfl rfl).1, (key _ _ rfl rfl rfl zero rfl rfl).2, .inr ⟨rfl, rfl⟩⟩ | exact ⟨(key _ _ rfl rfl rfl (one rfl rfl) rfl rfl).1, (key _ _ rfl rfl rfl (one rfl rfl) rfl rfl).2, .inr ⟨rfl, rfl⟩⟩)
    | (subst h; exact ⟨(key _ _ rfl rfl rfl zero rfl rfl).1, (key _ _ rfl rfl rfl zero rfl rfl).2, .inl ⟨rfl, rfl, by decide⟩⟩)
    | (subst h; exact ⟨(key _ _ rfl rfl rfl (two rfl rfl rfl) rfl rfl).1, (key _ _ rfl rfl rfl (two rfl rfl rfl) rfl rfl).2, .inr ⟨rfl, rfl⟩⟩)
theorem right_s : ∀ (t : Ty), t.parts.length ≤ 1048576 → (∀ x ∈ t.parts, x.name.size ≤ 1048576) → ∀ (row : Bool) (es : List (R × R)) (s : Int → Option Bool), SAt es s →
    SpecO 93 [.mp 0, .ag (ofD (cT t)), vb row] [.mp 3 es] (RightQ (shapeB wordB t (sI row) && (meetL t.parts s).isSome) (meetL t.parts s)) := by
  intro t
  induction t using Ty.ind with
  | h t ih =>
    intro hN hnm row es s hes
    have hkl := kids_le t
    have hself := hnm t (by rw [parts_eq]; exact List.mem_cons_self ..)
    have hkn : ∀ x ∈ t.kids, ∀ y ∈ x.parts, y.name.size ≤ 1048576 := fun x hx y hy => hnm y (by rw [parts_kids]; exact List.mem_cons_of_mem _ (List.mem_flatMap.2 ⟨x, hx, hy⟩))
    have ih2 : ∀ x ∈ t.kids, ∀ (row : Bool) (es : List (R × R)) (s : Int → Option Bool), SAt es s → SpecO 93 [.mp 0, .ag (ofD (cT x)), vb row] [.mp 3 es] (RightQ (shapeB wordB x (sI row) && (meetL x.parts s).isSome) (meetL x.parts s)) := fun x hx => ih x hx (by have := hkl.2 x hx; omega) (hkn x hx)
    have hsh := shape_eq wordB t (sI row)
    have hpm : meetL t.parts s = match vbl t with | none => meetL (partsL t.kids) s | some p => if s p.1 = some (!p.2) then none else meetL (partsL t.kids) (updS s p.1 p.2) := by
      rw [parts_eq, meetL]
      cases vbl t <;> rfl
    obtain ⟨op, nm, n, ks⟩ := t
    simp only [Ty.kids, Ty.op] at hkl ih2 hsh hpm
    have hself : nm.size ≤ 1048576 := hself
    generalize hbb : (shapeB wordB (.mk op nm n ks) (sI row) && (meetL (Ty.mk op nm n ks).parts s).isSome) = b
    generalize hFF : meetL (Ty.mk op nm n ks).parts s = F at *
    rw [cT]
    have hb : Try.f93.body = some (.seq (seqL2 (Try.f93.body.getD .skip)) (.seq (seqL2 (seqR2 (Try.f93.body.getD .skip))) (.seq (seqL2 (seqR2 (seqR2 (Try.f93.body.getD .skip)))) (.seq (seqL2 (seqR2 (seqR2 (seqR2 (Try.f93.body.getD .skip))))) (seqR2 (seqR2 (seqR2 (seqR2 (Try.f93.body.getD .skip))))))))) := by kernel_rfl
    refine speco_of Try.func93 hb (by kernel_rfl) (by kernel_rfl) (by kernel_rfl) fun qa qb qc qd qe qf qg qh qi qj qk ql qm qo qp qq qs qt qu qv qw qx qy qz va vc vd ve vf vg vh vj vk vl vp vq vr vt vu hA => ?_
    refine pre_right op nm n (rT ks) row es _ _ ?_ ?_ qa qb qc qd qe qf qg qh qi qj qk ql qm qo qp qq qs qt qu qv qw qx qy qz va vc vd ve vf vg vh vj vk vl vp vq vr vt vu hA
    · intro kn a c hask j12 j13 j14 j15 j16 j17 j18 j19 j20 j21 j22 j23 j24 j25 j26 j27 j28 j29 j30 j31
      obtain ⟨hh, ⟨kk, hkk1, hkk2, hkk3⟩, hv⟩ := asks_head hask nm n ks row
      rw [hkk1] at hsh
      have hsh : shapeB wordB (.mk op nm n ks) (sI row) = (headB wordB (.mk op nm n ks) (sI row) && shapesB wordB ks kk) := hsh
      rw [hh] at hsh
      have hbody := rest_right op nm n ks row es s kn a c j12 j13 j14 j15 j16 j17 j18 j19 j20 j21 j22 j23 j24 j25 j26 j27 j28 j29 j30 j31 kk b F hes hself (by omega) (fun h => by omega) hkk3 (fun h => by rw [← hbb, hsh, h, Bool.true_and]) (fun h => by rw [← hbb, hsh, h, Bool.false_and, Bool.false_and]) (fun h => ?_) ih2 qa qb qc qd qe qf qg qh qi qj qk ql qm qo qp qq qs qt qu qv qw qx qy qz va vc vd ve vf vg vh vj vk vl vp vq vr vt vu hA
      · rw [hA] at hbody ⊢
        exact hbody
      · rw [hpm]
        rcases hv with ⟨rfl, hv, ho⟩ | ⟨rfl, hv⟩
        · rw [hv]
          have hr : decide (op = 10) = row := by
            unfold hd2 at h
            have h1 : (row == decide (8 ≤ op)) = true := by revert h; cases (row == decide (8 ≤ op)) <;> simp
            rw [beq_iff_eq] at h1
            rw [h1]
            rcases ho with rfl | rfl <;> rfl
          rw [hr]
          rfl
        · rw [hv]
          rfl
    · intro hn st ho h6
      have hk := asks_none hn
      have hbf : b = false := by
        rw [← hbb, hsh]
        unfold headB
        rw [show (Ty.mk op nm n ks).op = op from rfl, hk]
        rfl
      show vp 1 (RightQ b F) [getN st.t 6] st
      rw [h6]
      exact keep_is hA [0] ⟨rfl, rfl, rfl, rfl, by rw [ho]; rfl, rfl, rfl, rfl⟩ ⟨es, rfl, hes.1, by rw [hbf], fun h => by rw [hbf] at h; cases h⟩
theorem right_is (t : Ty) (row : Bool) : (shapeB wordB t (sI row) && (meetL t.parts fun _ => none).isSome) = rightB t (sI row) := by rw [once_meet]; rfl
theorem PRight_s (t : Ty) (hN : t.parts.length ≤ 1048576) (hnm : ∀ x ∈ t.parts, x.name.size ≤ 1048576) : Spec 42 [.ag (cT t)] [.one (.sc (.bool (rightB t 116)))] := by
  have h1 := right_s t hN hnm false [] (fun _ => none) SAt.nil
  rw [right_is] at h1
  have e : rightB t (sI false) = rightB t 116 := rfl
  rw [e] at h1
  generalize rightB t 116 = b at *
  generalize meetL t.parts (fun _ => none) = F at *
  obtain ⟨c0, c1, c2, c3, hc⟩ : ∃ c0 c1 c2 c3, cT t = [c0, c1, c2, c3] := by obtain ⟨op, nm, n, ks⟩ := t; exact ⟨_, _, _, _, by rw [cT]⟩
  rw [hc] at h1 ⊢
  refine spec_of Try.func42 rfl (by kernel_rfl) (by kernel_rfl) (by kernel_rfl) fun qa qb qc qd qe qf qg qh qi qj qk ql qm qo qp qq qs qt qu qv qw qx qy qz va vc vd ve vf vg vh vj vk vl vp vq vr vt vu hA => ?_
  cbv
  repeat ((with_reducible apply next_at hA); cbv)
  refine callo_at hA [1] h1 ⟨rfl, rfl, rfl, rfl, rfl, rfl, rfl⟩ ?_
  rintro res os2 ⟨es', rfl, hk', rfl, hm'⟩
  cbv
  repeat ((with_reducible apply next_at hA); cbv)
theorem PRow_s (t : Ty) (hN : t.parts.length ≤ 1048576) (hnm : ∀ x ∈ t.parts, x.name.size ≤ 1048576) : Spec 54 [.ag (cT t)] [.one (.sc (.bool (rightB t 114)))] := by
  have h1 := right_s t hN hnm true [] (fun _ => none) SAt.nil
  rw [right_is] at h1
  have e : rightB t (sI true) = rightB t 114 := rfl
  rw [e] at h1
  generalize rightB t 114 = b at *
  generalize meetL t.parts (fun _ => none) = F at *
  obtain ⟨c0, c1, c2, c3, hc⟩ : ∃ c0 c1 c2 c3, cT t = [c0, c1, c2, c3] := by obtain ⟨op, nm, n, ks⟩ := t; exact ⟨_, _, _, _, by rw [cT]⟩
  rw [hc] at h1 ⊢
  refine spec_of Try.func54 rfl (by kernel_rfl) (by kernel_rfl) (by kernel_rfl) fun qa qb qc qd qe qf qg qh qi qj qk ql qm qo qp qq qs qt qu qv qw qx qy qz va vc vd ve vf vg vh vj vk vl vp vq vr vt vu hA => ?_
  cbv
  repeat ((with_reducible apply next_at hA); cbv)
  refine callo_at hA [1] h1 ⟨rfl, rfl, rfl, rfl, rfl, rfl, rfl⟩ ?_
  rintro res os2 ⟨es', rfl, hk', rfl, hm'⟩
  cbv
  repeat ((with_reducible apply next_at hA); cbv)
theorem either_s (t : Ty) (hN : t.parts.length ≤ 1048576) (hnm : ∀ x ∈ t.parts, x.name.size ≤ 1048576) : Spec 96 [.ag (cT t)] [.one (.sc (.bool (rightB t 116 || rightB t 114)))] := by
  have h1 := PRight_s t hN hnm
  have h2 := PRow_s t hN hnm
  generalize rightB t 116 = q1 at *
  generalize rightB t 114 = q2 at *
  obtain ⟨c0, c1, c2, c3, hc⟩ : ∃ c0 c1 c2 c3, cT t = [c0, c1, c2, c3] := by obtain ⟨op, nm, n, ks⟩ := t; exact ⟨_, _, _, _, by rw [cT]⟩
  rw [hc] at h1 h2 ⊢
  refine spec_of Try.func96 rfl (by kernel_rfl) (by kernel_rfl) (by kernel_rfl) fun qa qb qc qd qe qf qg qh qi qj qk ql qm qo qp qq qs qt qu qv qw qx qy qz va vc vd ve vf vg vh vj vk vl vp vq vr vt vu hA => ?_
  cbv
  repeat ((with_reducible apply next_at hA); cbv)
  refine call_at hA _ h1 ?_ ?_
  · rfl
  cases q1
  · cbv
    repeat ((with_reducible apply next_at hA); cbv)
    refine call_at hA _ h2 ?_ ?_
    · rfl
    cbv
    repeat ((with_reducible apply next_at hA); cbv)
  · cbv
    repeat ((with_reducible apply next_at hA); cbv)
end Go.Proofs.Ytclehkgnacekkaa.Vm
end
section
namespace Go.Proofs.Ytclehkgnacekkaa.Vm
open Go.RowKit
set_option maxRecDepth 100000
set_option maxHeartbeats 4000000
theorem alikes_len2 : ∀ {a b : List Ty}, a.length ≠ b.length → alikesB a b = false
  | [], [], h => absurd rfl h
  | [], _ :: _, _ => by simp [alikesB]
  | _ :: _, [], _ => by simp [alikesB]
  | x :: a, y :: b, h => by rw [alikesB, alikes_len2 (a := a) (b := b) (by simpa using h), Bool.and_false]
theorem alikes_step2 {a b : List Ty} {k : Nat} {x y : Ty} (hx : a[k]? = some x) (hy : b[k]? = some y) : alikesB (a.drop k) (b.drop k) = (alikeB x y && alikesB (a.drop (k + 1)) (b.drop (k + 1))) := by
  obtain ⟨h1, e1⟩ := List.getElem?_eq_some_iff.1 hx
  obtain ⟨h2, e2⟩ := List.getElem?_eq_some_iff.1 hy
  rw [List.drop_eq_getElem_cons h1, List.drop_eq_getElem_cons h2, e1, e2, alikesB]
def fnD (f : Nat) : D := .sc (.func (.func f) #[] #[])
theorem eqf_s (f : Nat) (ks ks2 : List Ty) (hN : ks.length ≤ 1048576) (ih : ∀ x ∈ ks, ∀ y, Spec f [.ag (cT x), .ag (cT y)] [.one (.sc (.bool (alikeB x y)))]) :
    Spec 151 [.one (.sl 4 (rT ks)), .one (.sl 4 (rT ks2)), .one (fnD f)] [.one (.sc (.bool (alikesB ks ks2)))] := by
  generalize hb : alikesB ks ks2 = b
  obtain ⟨K, hK⟩ : ∃ K, K = rT ks := ⟨_, rfl⟩
  obtain ⟨K2, hK2⟩ : ∃ K, K = rT ks2 := ⟨_, rfl⟩
  rw [← hK, ← hK2]
  refine spec_of Try.func151 rfl (by kernel_rfl) (by kernel_rfl) (by kernel_rfl) fun qa qb qc qd qe qf qg qh qi qj qk ql qm qo qp qq qs qt qu qv qw qx qy qz va vc vd ve vf vg vh vj vk vl vp vq vr vt vu hA => ?_
  cbv
  repeat ((with_reducible apply next_at hA); cbv)
  try simp (maxSteps := 4000000) only [nc] at *
  obtain ⟨e1, e2, e3, e4, e5, e6, e7, e8, e9⟩ := ar_at hA
  obtain ⟨r1, r2, -⟩ := row_at hA
  cases h4 : qj (qw K) (qw K2)
  · have h5 : ks.length ≠ ks2.length := by
      rw [e9, r1, r1, hK, hK2, rT_len, rT_len] at h4
      intro h
      rw [h] at h4
      simp at h4
    rw [← hb, alikes_len2 h5]
    cbv
    repeat ((with_reducible apply next_at hA); cbv)
  · have h5 : ks.length = ks2.length := by
      rw [e9, r1, r1, hK, hK2, rT_len, rT_len] at h4
      rw [beq_iff_eq] at h4
      exact Int.ofNat.inj h4
    cbv
    repeat ((with_reducible apply next_at hA); cbv)
    try simp (maxSteps := 4000000) only [nc] at *
    refine loop_at hA (γ := Int) (fun z => [(17, vi .i64 z)]) (fun _ => []) (fun z => ∃ k : Nat, z = (k : Int) ∧ k ≤ ks.length ∧ alikesB (ks.drop k) (ks2.drop k) = b) (fun z => ks.length - z.toNat) 0 ?_ ?_ ?_
    · exact ⟨0, rfl, Nat.zero_le _, hb⟩
    · cbv
    · intro z hinv
      cbv
      repeat ((with_reducible apply next_at hA); cbv)
      try simp (maxSteps := 4000000) only [nc] at *
      obtain ⟨k, hz, hk, hE⟩ := hinv
      have hlen : qw K = (ks.length : Int) := by rw [r1, hK, rT_len]
      have hlt : qh z (qw K) = decide (k < ks.length) := by rw [e7, hlen, hz]; exact decide_eq_decide.2 (by omega)
      by_cases h9 : k < ks.length
      · rw [decide_eq_true h9] at hlt
        obtain ⟨x, hx⟩ : ∃ x, ks[k]? = some x := ⟨_, List.getElem?_eq_getElem h9⟩
        obtain ⟨y, hy⟩ : ∃ y, ks2[k]? = some y := ⟨_, List.getElem?_eq_getElem (by omega)⟩
        have hsp := ih x (List.mem_of_getElem? hx) y
        have hst := alikes_step2 hx hy
        obtain ⟨x0, x1, x2, x3, hxx⟩ := cT_four x
        obtain ⟨y0, y1, y2, y3, hyy⟩ := cT_four y
        have g1 : qx K z = some [x0, x1, x2, x3] := by rw [r2, hz, if_pos (by omega), hK, Int.toNat_natCast, rT_get hx, hxx]
        have g2 : qx K2 z = some [y0, y1, y2, y3] := by rw [r2, hz, if_pos (by omega), hK2, Int.toNat_natCast, rT_get hy, hyy]
        rw [hxx, hyy] at hsp
        generalize alikeB x y = c at *
        have hz1 : qa .i64 (qb z 1) = ((k + 1 : Nat) : Int) := by rw [e1, e2, hz, IntWalk.i64_in _ (by omega)]; omega
        have hmu : ks.length - (qa .i64 (qb z 1)).toNat < ks.length - z.toNat := by rw [hz1, hz]; omega
        rw [hlt]
        cases c
        · cbv
          repeat (first | (with_reducible apply next_at hA; cbv) | (rw [g1]; cbv) | (rw [g2]; cbv) | (refine call_at hA _ hsp rfl ?_; cbv))
          try cbv
          repeat (first | (with_reducible apply next_at hA; cbv) | (rw [g1]; cbv) | (rw [g2]; cbv) | (refine call_at hA _ hsp rfl ?_; cbv))
          try simp (maxSteps := 4000000) only [nc] at *
          rw [← hE, hst]
          exact ⟨rfl, trivial⟩
        · cbv
          repeat (first | (with_reducible apply next_at hA; cbv) | (rw [g1]; cbv) | (rw [g2]; cbv) | (refine call_at hA _ hsp rfl ?_; cbv))
          try cbv
          repeat (first | (with_reducible apply next_at hA; cbv) | (rw [g1]; cbv) | (rw [g2]; cbv) | (refine call_at hA _ hsp rfl ?_; cbv))
          try simp (maxSteps := 4000000) only [nc] at *
          refine ⟨qa .i64 (qb z 1), ⟨k + 1, hz1, h9, by rw [← hE, hst]; rfl⟩, hmu, ?_⟩
          cbv
      · rw [decide_eq_false h9] at hlt
        rw [hlt]
        cbv
        repeat ((with_reducible apply next_at hA); cbv)
        rw [← hE, List.drop_eq_nil_of_le (by omega), List.drop_eq_nil_of_le (by omega), alikesB]
        exact ⟨rfl, trivial⟩
theorem palike_s : ∀ t u : Ty, t.parts.length ≤ 1048576 → Spec 145 [.ag (cT t), .ag (cT u)] [.one (.sc (.bool (alikeB t u)))] := by
  intro t
  induction t using Ty.ind with
  | h t ih =>
    intro u hN
    have hkl := kids_le t
    obtain ⟨op, nm, n, ks⟩ := t
    obtain ⟨op2, nm2, n2, ks2⟩ := u
    simp only [Ty.kids] at hkl ih
    have hE := eqf_s 145 ks ks2 (by omega) (fun x hx y => ih x hx y (by have := hkl.2 x hx; omega))
    rw [cT, cT]
    have hb : alikeB (.mk op nm n ks) (.mk op2 nm2 n2 ks2) = ((op == op2) && ((nm.toList == nm2.toList) && ((n == n2) && alikesB ks ks2))) := by rw [alikeB]
    generalize hbb : alikeB (.mk op nm n ks) (.mk op2 nm2 n2 ks2) = b at *
    generalize alikesB ks ks2 = b4 at *
    generalize rT ks = K at *
    generalize rT ks2 = K2 at *
    refine spec_of Try.func145 rfl (by kernel_rfl) (by kernel_rfl) (by kernel_rfl) fun qa qb qc qd qe qf qg qh qi qj qk ql qm qo qp qq qs qt qu qv qw qx qy qz va vc vd ve vf vg vh vj vk vl vp vq vr vt vu hA => ?_
    cbv
    repeat ((with_reducible apply next_at hA); cbv)
    obtain ⟨e1, e2, e3, e4, e5, e6, e7, e8, e9⟩ := ar_at hA
    obtain ⟨s1, s2, s3, -⟩ := str_at hA
    have t1 : qj op op2 = (op == op2) := e9 _ _
    have t2 : ql (qo nm) (qo nm2) = (nm.toList == nm2.toList) := by rw [s1, s3, s3]
    have t3 : qj n n2 = (n == n2) := e9 _ _
    generalize (op == op2) = b1 at *
    generalize (nm.toList == nm2.toList) = b2 at *
    generalize (n == n2) = b3 at *
    unfold fnD at hE
    subst hb
    cases b1
    · rw [t1]
      cbv
      repeat ((with_reducible apply next_at hA); cbv)
    · rw [t1]
      cases b2
      · cbv
        repeat (first | (with_reducible apply next_at hA; cbv) | (rw [t1]; cbv) | (rw [t2]; cbv))
        try cbv
        repeat (first | (with_reducible apply next_at hA; cbv) | (rw [t1]; cbv) | (rw [t2]; cbv))
        try simp (maxSteps := 4000000) only [nc] at *
      · cases b3
        · cbv
          repeat (first | (with_reducible apply next_at hA; cbv) | (rw [t1]; cbv) | (rw [t2]; cbv) | (rw [t3]; cbv))
          try cbv
          repeat (first | (with_reducible apply next_at hA; cbv) | (rw [t1]; cbv) | (rw [t2]; cbv) | (rw [t3]; cbv))
          try simp (maxSteps := 4000000) only [nc] at *
        · cbv
          repeat (first | (with_reducible apply next_at hA; cbv) | (rw [t1]; cbv) | (rw [t2]; cbv) | (rw [t3]; cbv) | (refine call_at hA _ hE rfl ?_; cbv))
          try cbv
          repeat (first | (with_reducible apply next_at hA; cbv) | (rw [t1]; cbv) | (rw [t2]; cbv) | (rw [t3]; cbv) | (refine call_at hA _ hE rfl ?_; cbv))
          try simp (maxSteps := 4000000) only [nc] at *
def eitherT (t : Ty) : Bool := rightB t 116 || rightB t 114
def Sm (t : Ty) : Prop := t.parts.length ≤ 1048576 ∧ ∀ x ∈ t.parts, x.name.size ≤ 1048576
theorem right_shape {t : Ty} {s : Int} (h : rightB t s = true) : shapeB wordB t s = true ∧ onceB t = true := by
  unfold rightB at h
  rwa [Bool.and_eq_true] at h
theorem either_shape {t : Ty} (h : eitherT t = true) : ∃ s, shapeB wordB t s = true := by
  unfold eitherT at h
  rw [Bool.or_eq_true] at h
  rcases h with h | h
  · exact ⟨_, (right_shape h).1⟩
  · exact ⟨_, (right_shape h).1⟩
theorem either_spine {t : Ty} (h : eitherT t = true) : SpineAll t := by
  obtain ⟨s, h⟩ := either_shape h
  exact shape_spineAll h
theorem Spec.mono {f : Nat} {rs q q' : List R} (h : Spec f rs q) (hq : ∀ I w v, AtRes I w v q → AtRes I w v q') : Spec f rs q' :=
  ⟨h.1, fun I w args h1 h2 => (h.2 I w args h1 h2).mono fun e w' ⟨v, e1, e2, e3⟩ => ⟨v, e1, hq _ _ _ e2, e3⟩⟩
theorem AtD.empty {I : Nat → Nat → Prop} {w : World} {v : Value} {n : Nat} (m : Nat) (h : AtD I w v (.sl n [])) : AtD I w v (.sl m []) := by
  generalize hr : ([] : List (List D)) = rows at h
  cases h with
  | nil A cap sz => exact .nil _ _ _
  | sl b off cap sz rows us => subst hr; exact .nil _ _ _
theorem AtDs.last {I : Nat → Nat → Prop} {w : World} {us : List Value} {xs : List D} {x y : D} (h : AtDs I w us (xs ++ [x])) (hx : ∀ u, AtD I w u x → AtD I w u y) : AtDs I w us (xs ++ [y]) := by
  refine ⟨by have := h.1; simpa using this, fun i u d hu hd => ?_⟩
  rcases Nat.lt_or_ge i xs.length with hlt | hge
  · rw [List.getElem?_append_left hlt] at hd
    exact h.2 i u d hu (by rw [List.getElem?_append_left hlt]; exact hd)
  · rw [List.getElem?_append_right hge] at hd
    obtain e : i - xs.length = 0 := by
      have := (List.getElem?_eq_some_iff.1 hd).1
      simp at this
      omega
    rw [e] at hd
    simp at hd
    subst hd
    exact hx u (h.2 i u x hu (by rw [List.getElem?_append_right hge, e]; rfl))
theorem Spec.sl0 {f : Nat} {rs : List R} {a b c : D} {n : Nat} (m : Nat) (h : Spec f rs [.ag [a, b, c, .sl n []]]) : Spec f rs [.ag [a, b, c, .sl m []]] := h.mono fun I w v hv => by
  obtain ⟨us, rfl, h2⟩ := hv
  exact ⟨us, rfl, AtDs.last (xs := [a, b, c]) h2 fun u hu => hu.empty m⟩
theorem Canon_s (t : Ty) (ht : Sm t) : Spec 44 [.ag (cT t)] [.ag (cT (if eitherT t = true then canonS t else zeroTy))] := by
  have h1 := either_s t ht.1 ht.2
  have hb : (rightB t 116 || rightB t 114) = eitherT t := rfl
  rw [hb] at h1
  by_cases he : eitherT t = true
  · rw [if_pos he]
    have h2 := canonP_s _ t (Nat.le_refl _) ht.1 (either_spine he)
    rw [he] at h1
    obtain ⟨a0, a1, a2, a3, ha⟩ := cT_four t
    obtain ⟨c0, c1, c2, c3, hc⟩ := cT_four (canonS t)
    rw [ha] at h1 h2
    rw [hc] at h2
    rw [ha, hc]
    refine spec_of Try.func44 rfl (by kernel_rfl) (by kernel_rfl) (by kernel_rfl) fun qa qb qc qd qe qf qg qh qi qj qk ql qm qo qp qq qs qt qu qv qw qx qy qz va vc vd ve vf vg vh vj vk vl vp vq vr vt vu hA => ?_
    cbv
    repeat (first | (with_reducible apply next_at hA; cbv) | (refine call_at hA _ h1 rfl ?_; cbv) | (refine call_at hA _ h2 rfl ?_; cbv))
    try cbv
    repeat (first | (with_reducible apply next_at hA; cbv) | (refine call_at hA _ h1 rfl ?_; cbv) | (refine call_at hA _ h2 rfl ?_; cbv))
    try simp (maxSteps := 4000000) only [nc] at *
  · have he : eitherT t = false := by simpa using he
    rw [he, if_neg (by simp)]
    rw [he] at h1
    obtain ⟨a0, a1, a2, a3, ha⟩ := cT_four t
    rw [ha] at h1 ⊢
    unfold zeroTy
    rw [cT, rT]
    refine Spec.sl0 (n := 0) 4 ?_
    refine spec_of Try.func44 rfl (by kernel_rfl) (by kernel_rfl) (by kernel_rfl) fun qa qb qc qd qe qf qg qh qi qj qk ql qm qo qp qq qs qt qu qv qw qx qy qz va vc vd ve vf vg vh vj vk vl vp vq vr vt vu hA => ?_
    cbv
    repeat (first | (with_reducible apply next_at hA; cbv) | (refine call_at hA _ h1 rfl ?_; cbv))
    try cbv
    repeat (first | (with_reducible apply next_at hA; cbv) | (refine call_at hA _ h1 rfl ?_; cbv))
    try simp (maxSteps := 4000000) only [nc] at *
def sameB (a b : Ty) : Bool := eitherT a && (eitherT b && alikeB (canonS a) (canonS b))
theorem Same_s (t u : Ty) (ht : Sm t) (hu : Sm u) : Spec 129 [.ag (cT t), .ag (cT u)] [.one (.sc (.bool (sameB t u)))] := by
  have h1 := either_s t ht.1 ht.2
  have h2 := either_s u hu.1 hu.2
  have hb1 : (rightB t 116 || rightB t 114) = eitherT t := rfl
  have hb2 : (rightB u 116 || rightB u 114) = eitherT u := rfl
  rw [hb1] at h1
  rw [hb2] at h2
  have h3 := fun h => canonP_s _ t (Nat.le_refl _) ht.1 (either_spine h)
  have h4 := fun h => canonP_s _ u (Nat.le_refl _) hu.1 (either_spine h)
  have h5 := fun h => palike_s (canonS t) (canonS u) (by rw [canon_len _ t (Nat.le_refl _) (either_spine h)]; exact ht.1)
  unfold sameB
  generalize alikeB (canonS t) (canonS u) = c at *
  generalize eitherT t = b1 at *
  generalize eitherT u = b2 at *
  obtain ⟨a0, a1, a2, a3, ha⟩ := cT_four t
  obtain ⟨d0, d1, d2, d3, hd⟩ := cT_four u
  obtain ⟨x0, x1, x2, x3, hx⟩ := cT_four (canonS t)
  obtain ⟨y0, y1, y2, y3, hy⟩ := cT_four (canonS u)
  rw [ha] at h1 h3
  rw [hd] at h2 h4
  rw [hx] at h3 h5
  rw [hy] at h4 h5
  rw [ha, hd]
  cases b1
  · refine spec_of Try.func129 rfl (by kernel_rfl) (by kernel_rfl) (by kernel_rfl) fun qa qb qc qd qe qf qg qh qi qj qk ql qm qo qp qq qs qt qu qv qw qx qy qz va vc vd ve vf vg vh vj vk vl vp vq vr vt vu hA => ?_
    cbv
    repeat (first | (with_reducible apply next_at hA; cbv) | (refine calm_at hA _ h1 ?_; cbv))
    try cbv
    repeat (first | (with_reducible apply next_at hA; cbv) | (refine calm_at hA _ h1 ?_; cbv))
    try simp (maxSteps := 4000000) only [nc] at *
  · cases b2
    · refine spec_of Try.func129 rfl (by kernel_rfl) (by kernel_rfl) (by kernel_rfl) fun qa qb qc qd qe qf qg qh qi qj qk ql qm qo qp qq qs qt qu qv qw qx qy qz va vc vd ve vf vg vh vj vk vl vp vq vr vt vu hA => ?_
      cbv
      repeat (first | (with_reducible apply next_at hA; cbv) | (refine calm_at hA _ h1 ?_; cbv) | (refine calm_at hA _ h2 ?_; cbv))
      try cbv
      repeat (first | (with_reducible apply next_at hA; cbv) | (refine calm_at hA _ h1 ?_; cbv) | (refine calm_at hA _ h2 ?_; cbv))
      try simp (maxSteps := 4000000) only [nc] at *
    · replace h3 := h3 rfl
      replace h4 := h4 rfl
      replace h5 := h5 rfl
      refine spec_of Try.func129 rfl (by kernel_rfl) (by kernel_rfl) (by kernel_rfl) fun qa qb qc qd qe qf qg qh qi qj qk ql qm qo qp qq qs qt qu qv qw qx qy qz va vc vd ve vf vg vh vj vk vl vp vq vr vt vu hA => ?_
      cbv
      repeat (first | (with_reducible apply next_at hA; cbv) | (refine calm_at hA _ h1 ?_; cbv) | (refine calm_at hA _ h2 ?_; cbv) | (refine calm_at hA _ h3 ?_; cbv) | (refine calm_at hA _ h4 ?_; cbv) | (refine calm_at hA _ h5 ?_; cbv))
      try cbv
      repeat (first | (with_reducible apply next_at hA; cbv) | (refine calm_at hA _ h1 ?_; cbv) | (refine calm_at hA _ h2 ?_; cbv) | (refine calm_at hA _ h3 ?_; cbv) | (refine calm_at hA _ h4 ?_; cbv) | (refine calm_at hA _ h5 ?_; cbv))
      try simp (maxSteps := 4000000) only [nc] at *
theorem Flat_s (t : Ty) (ht : Sm t) (hr : rightB t 114 = true) : SpecO 130 [.ag (ofD (cT t))] [] (fun res os' => res = [.own 0, .ag (ofD (cT (tailS t)))] ∧ os' = [.row false 86 (rF (sortS ltF (fieldsS t)))]) := by
  have h1 := PRow_s t ht.1 ht.2
  rw [hr] at h1
  have h2 := copied_s t ht.1
  have h3 := flat_s t (shape_spineAll (right_shape hr).1).self ht.1
  obtain ⟨Q, hQ⟩ : ∃ Q, Q = rF (sortS ltF (fieldsS t)) := ⟨_, rfl⟩
  rw [← hQ] at h3 ⊢
  obtain ⟨a0, a1, a2, a3, ha⟩ := cT_four t
  obtain ⟨q0, q1, q2, q3, hq⟩ := cT_four (tailS t)
  rw [ha] at h1 h2 h3 ⊢
  rw [hq] at h3 ⊢
  refine speco_of Try.func130 rfl (by kernel_rfl) (by kernel_rfl) (by kernel_rfl) fun qa qb qc qd qe qf qg qh qi qj qk ql qm qo qp qq qs qt qu qv qw qx qy qz va vc vd ve vf vg vh vj vk vl vp vq vr vt vu hA => ?_
  cbv
  repeat (first | (with_reducible apply next_at hA; cbv) | (refine call_at hA _ h1 rfl ?_; cbv) | (refine call_at hA _ h2 rfl ?_; cbv) | (refine callo_at hA [] h3 ⟨rfl, rfl, rfl, rfl, rfl, rfl, rfl⟩ ?_; rintro res os2 ⟨rfl, rfl⟩; cbv))
  try cbv
  repeat (first | (with_reducible apply next_at hA; cbv) | (refine call_at hA _ h1 rfl ?_; cbv) | (refine call_at hA _ h2 rfl ?_; cbv) | (refine callo_at hA [] h3 ⟨rfl, rfl, rfl, rfl, rfl, rfl, rfl⟩ ?_; rintro res os2 ⟨rfl, rfl⟩; cbv))
  try simp (maxSteps := 4000000) only [nc] at *
  exact keep_is hA [2] ⟨rfl, rfl, rfl, rfl, rfl, rfl, rfl, rfl⟩ ⟨rfl, rfl⟩
end Go.Proofs.Ytclehkgnacekkaa.Vm
end
section
namespace Go.Proofs.Ytclehkgnacekkaa.Vm
open Go.RowKit
def rB (l : List (Int × Ty)) : List (List D) := l.map fun p => .sc (.int .i64 p.1) :: cT p.2
theorem rB_len (l : List (Int × Ty)) : (rB l).length = l.length := by rw [rB, List.length_map]
theorem rB_snoc (l : List (Int × Ty)) (p : Int × Ty) : rB (l ++ [p]) = rB l ++ [.sc (.int .i64 p.1) :: cT p.2] := by unfold rB; rw [List.map_append]; rfl
theorem rB_get {l : List (Int × Ty)} {k : Nat} {p : Int × Ty} (h : l[k]? = some p) : (rB l)[k]? = some (.sc (.int .i64 p.1) :: cT p.2) := by rw [rB, List.getElem?_map, h]; rfl
theorem drop_at {α : Type} {l : List α} {k : Nat} {x : α} (h : l[k]? = some x) : l.drop k = x :: l.drop (k + 1) := by
  obtain ⟨hk, e⟩ := List.getElem?_eq_some_iff.1 h
  rw [List.drop_eq_getElem_cons hk, e]
end Go.Proofs.Ytclehkgnacekkaa.Vm
end
section
namespace Go.Proofs.Ytclehkgnacekkaa.Vm
open Go.RowKit
set_option maxRecDepth 100000
set_option maxHeartbeats 4000000
theorem alikes_len : ∀ {a b : List Ty}, a.length ≠ b.length → alikesB a b = false
  | a, b, h => by
    cases hh : alikesB a b
    · rfl
    · rw [alikes_iff] at hh
      exact absurd (by rw [hh]) h
theorem alikes_step {a b : List Ty} {k : Nat} {x y : Ty} (hx : a[k]? = some x) (hy : b[k]? = some y) : alikesB (a.drop k) (b.drop k) = (alikeB x y && alikesB (a.drop (k + 1)) (b.drop (k + 1))) := by
  obtain ⟨h1, e1⟩ := List.getElem?_eq_some_iff.1 hx
  obtain ⟨h2, e2⟩ := List.getElem?_eq_some_iff.1 hy
  rw [List.drop_eq_getElem_cons h1, List.drop_eq_getElem_cons h2, e1, e2, alikesB]
theorem Alike_s : ∀ t u : Ty, t.parts.length ≤ 1048576 → Spec 17 [.ag (cT t), .ag (cT u)] [.one (.sc (.bool (alikeB t u)))] := by
  intro t
  induction t using Ty.ind with
  | h t ih =>
    intro u hN
    have hkl := kids_le t
    obtain ⟨op, nm, n, ks⟩ := t
    obtain ⟨op2, nm2, n2, ks2⟩ := u
    simp only [Ty.kids] at hkl ih
    have hm : ks.length ≤ 1048576 := by omega
    rw [cT, cT]
    generalize hb : alikeB (.mk op nm n ks) (.mk op2 nm2 n2 ks2) = b
    obtain ⟨K, hK⟩ : ∃ K, K = rT ks := ⟨_, rfl⟩
    obtain ⟨K2, hK2⟩ : ∃ K, K = rT ks2 := ⟨_, rfl⟩
    rw [← hK, ← hK2]
    refine spec_of Try.func17 rfl (by kernel_rfl) (by kernel_rfl) (by kernel_rfl) fun qa qb qc qd qe qf qg qh qi qj qk ql qm qo qp qq qs qt qu qv qw qx qy qz va vc vd ve vf vg vh vj vk vl vp vq vr vt vu hA => ?_
    cbv
    repeat ((with_reducible apply next_at hA); cbv)
    obtain ⟨e1, e2, e3, e4, e5, e6, e7, e8, e9⟩ := ar_at hA
    obtain ⟨s1, s2, s3, -⟩ := str_at hA
    obtain ⟨r1, r2, -⟩ := row_at hA
    rw [alikeB] at hb
    cases h1 : qj op op2
    · cbv
      repeat ((with_reducible apply next_at hA); cbv)
      rw [e9] at h1
      rw [← hb, h1]
      exact ⟨rfl, trivial⟩
    cbv
    cases h2 : ql (qo nm) (qo nm2)
    · cbv
      repeat ((with_reducible apply next_at hA); cbv)
      rw [s1, s3, s3] at h2
      rw [← hb, h2]
      simp
    cbv
    cases h3 : qj n n2
    · cbv
      repeat ((with_reducible apply next_at hA); cbv)
      rw [e9] at h3
      rw [← hb, h3]
      simp
    cbv
    cases h4 : qj (qw K) (qw K2)
    · cbv
      repeat ((with_reducible apply next_at hA); cbv)
      have h5 : ks.length ≠ ks2.length := by
        rw [e9, r1, r1, hK, hK2, rT_len, rT_len] at h4
        intro h
        rw [h] at h4
        simp at h4
      rw [← hb, alikes_len h5]
      simp
    cbv
    repeat ((with_reducible apply next_at hA); cbv)
    have h5 : ks.length = ks2.length := by
      rw [e9, r1, r1, hK, hK2, rT_len, rT_len] at h4
      rw [beq_iff_eq] at h4
      exact Int.ofNat.inj h4
    refine loop_at hA (γ := Int) (fun z => [(5, vi .i64 z)]) (fun _ => []) (fun z => ∃ k : Nat, z = (k : Int) ∧ k ≤ ks.length ∧ alikesB (ks.drop k) (ks2.drop k) = b) (fun z => ks.length - z.toNat) 0 ?_ ?_ ?_
    · exact ⟨0, rfl, Nat.zero_le _, by rw [← hb, (by rw [← e9]; exact h1 : (op == op2) = true), (by rw [← s1, ← s3, ← s3]; exact h2 : (nm.toList == nm2.toList) = true), (by rw [← e9]; exact h3 : (n == n2) = true)]; rfl⟩
    · cbv
    · intro z hinv
      cbv
      repeat ((with_reducible apply next_at hA); cbv)
      obtain ⟨k, hz, hk, hE⟩ := hinv
      have hz : z = (k : Int) := hz
      have hlen : qw K = (ks.length : Int) := by rw [r1, hK, rT_len]
      have hlt : qh z (qw K) = decide (k < ks.length) := by rw [e7, hlen, hz]; exact decide_eq_decide.2 (by omega)
      by_cases h9 : k < ks.length
      · rw [decide_eq_true h9] at hlt
        obtain ⟨x, hx⟩ : ∃ x, ks[k]? = some x := ⟨_, List.getElem?_eq_getElem h9⟩
        obtain ⟨y, hy⟩ : ∃ y, ks2[k]? = some y := ⟨_, List.getElem?_eq_getElem (by omega)⟩
        have g1 : qx K z = some (cT x) := by rw [r2, hz, if_pos (by omega), hK]; exact rT_get hx
        have g2 : qx K2 z = some (cT y) := by rw [r2, hz, if_pos (by omega), hK2]; exact rT_get hy
        have hsp := ih x (List.mem_of_getElem? hx) y (by have := hkl.2 x (List.mem_of_getElem? hx); omega)
        have hst := alikes_step hx hy
        obtain ⟨o1, m1, n1, l1⟩ := x
        obtain ⟨o2, m2, n2', l2⟩ := y
        rw [cT] at g1 g2 hsp
        rw [cT] at hsp
        generalize rT l1 = L1 at *
        generalize rT l2 = L2 at *
        generalize alikeB (.mk o1 m1 n1 l1) (.mk o2 m2 n2' l2) = c at *
        rw [hlt]
        cbv
        repeat ((with_reducible apply next_at hA); cbv)
        rw [g1]
        cbv
        rw [g2]
        cbv
        refine calm_at hA _ hsp ?_
        cases c
        · cbv
          repeat ((with_reducible apply next_at hA); cbv)
          rw [← hE, hst]
          exact ⟨rfl, trivial⟩
        · cbv
          repeat ((with_reducible apply next_at hA); cbv)
          replace hz : z = (k : Int) := hz
          have hz1 : qa .i64 (qb z 1) = ((k + 1 : Nat) : Int) := by rw [e1, e2, hz, IntWalk.i64_in _ (by omega)]; omega
          refine ⟨qa .i64 (qb z 1), ⟨k + 1, hz1, h9, by rw [← hE, hst]; rfl⟩, by rw [hz1, hz]; omega, ?_⟩
          cbv
      · rw [decide_eq_false h9] at hlt
        rw [hlt]
        cbv
        repeat ((with_reducible apply next_at hA); cbv)
        rw [← hE, List.drop_eq_nil_of_le (by omega), List.drop_eq_nil_of_le (by omega), alikesB]
        exact ⟨rfl, trivial⟩
end Go.Proofs.Ytclehkgnacekkaa.Vm
end
section
namespace Go.Proofs.Ytclehkgnacekkaa.Vm
open Go.RowKit
set_option maxRecDepth 100000
set_option maxHeartbeats 4000000
end Go.Proofs.Ytclehkgnacekkaa.Vm
end
section
namespace Go.Proofs.Ytclehkgnacekkaa.Vm
open Go.RowKit
set_option maxRecDepth 100000
set_option maxHeartbeats 4000000
end Go.Proofs.Ytclehkgnacekkaa.Vm
end
section
namespace Go.Proofs.Ytclehkgnacekkaa.Vm
open Go.RowKit
set_option maxRecDepth 100000
set_option maxHeartbeats 4000000
def fitB (row : Bool) (t : Ty) : Bool := match row with | true => rightB t 114 | false => rightB t 116
def ofS (l : List (Int × Ty)) (n : Int) (row : Bool) : Option (Int × Ty) := l.find? fun p => (p.1 == n) && fitB row p.2
end Go.Proofs.Ytclehkgnacekkaa.Vm
end
section
namespace Go.Proofs.Ytclehkgnacekkaa.Vm
open Go.RowKit
set_option maxRecDepth 100000
set_option maxHeartbeats 8000000
mutual
def putT (l : List (Int × Ty)) : Ty → Ty
  | .mk op nm n ks => if op = 7 ∨ op = 10 then (match ofS l n (op == 10) with | some p => p.2 | none => .mk op nm n ks) else .mk op nm n (putTs l ks)
def putTs (l : List (Int × Ty)) : List Ty → List Ty
  | [] => []
  | t :: ts => putT l t :: putTs l ts
end
theorem putTs_map (l : List (Int × Ty)) : ∀ ts : List Ty, putTs l ts = ts.map (putT l)
  | [] => rfl
  | t :: ts => by rw [putTs, putTs_map l ts]; rfl
end Go.Proofs.Ytclehkgnacekkaa.Vm
end
section
namespace Go.Proofs.Ytclehkgnacekkaa.Vm
open Go.RowKit
set_option maxRecDepth 100000
set_option maxHeartbeats 4000000
theorem CanonO_s (t : Ty) (ht : Sm t) (he : eitherT t = true) : SpecO 44 [.ag (ofD (cT t))] [] (ownT (canonS t)) := by
  have h1 := either_s t ht.1 ht.2
  have hb : (rightB t 116 || rightB t 114) = eitherT t := rfl
  rw [hb, he] at h1
  have h2 := canonO_s _ t (Nat.le_refl _) ht.1 (either_spine he)
  obtain ⟨a0, a1, a2, a3, ha⟩ := cT_four t
  rw [ha] at h1 h2
  rw [ha]
  show SpecO _ _ _ (ownR (.int .u8 (canonS t).op) (.string (canonS t).name) (.int .i64 (canonS t).n) (rT (canonS t).kids))
  replace h2 : SpecO _ _ _ (ownR (.int .u8 (canonS t).op) (.string (canonS t).name) (.int .i64 (canonS t).n) (rT (canonS t).kids)) := h2
  generalize (canonS t).op = yop at *
  generalize (canonS t).name = ynm at *
  generalize (canonS t).n = yn at *
  generalize rT (canonS t).kids = yK at *
  refine speco_of Try.func44 rfl (by kernel_rfl) (by kernel_rfl) (by kernel_rfl) fun qa qb qc qd qe qf qg qh qi qj qk ql qm qo qp qq qs qt qu qv qw qx qy qz va vc vd ve vf vg vh vj vk vl vp vq vr vt vu hA => ?_
  cbv
  repeat ((with_reducible apply next_at hA); cbv)
  refine call_at hA _ h1 rfl ?_
  cbv
  repeat ((with_reducible apply next_at hA); cbv)
  refine callo_at hA [] h2 ⟨rfl, rfl, rfl, rfl, rfl, rfl, rfl⟩ ?_
  rintro _ _ ⟨rfl, zz, rfl⟩
  cbv
  repeat ((with_reducible apply next_at hA); cbv)
  exact keep_is hA [2] ⟨rfl, rfl, rfl, rfl, rfl, rfl, rfl, rfl⟩ ⟨rfl, zz, rfl⟩
section
variable {qa : IntKind → Int → Int} {qb : Int → Int → Int} {qc : Int → Int → Int} {qd : Int → Int → Int} {qe : Int → Int → Int} {qf : Int → Int → Int} {qg : BinOp → IntKind → Int → IntKind → Int → Option Int} {qh : Int → Int → Bool} {qi : Int → Int → Bool} {qj : Int → Int → Bool} {qk : Int → Prop → Prop} {ql : List UInt8 → List UInt8 → Bool} {qm : List UInt8 → List UInt8 → Bool} {qo : ByteArray → List UInt8} {qp : ByteArray → ByteArray → ByteArray} {qq : ByteArray → ByteArray → Prop → Prop} {qs : ByteArray → Int} {qt : ByteArray → Int → Option Int} {qu : ByteArray → Int → Int → Option ByteArray} {qv : Int → Nat → Option Nat} {qw : List (List D) → Int} {qx : List (List D) → Int → Option (List D)} {qy : List (List D) → Int → Int → Option (List (List D))} {qz : List (List D) → List (List D) → List (List D)} {va : List (List D) → Int → List D → List (List D)} {vc : List (List D) → List (List D) → Prop → Prop} {vd : List (R × R) → R → Option R} {ve : List (R × R) → R → R → List (R × R)} {vf : Int → List D → (List (List D) → Prop) → Prop} {vg : Nat → List R → (List R → Prop) → Prop} {vh : Nat → List V → List O → (List R → Prop) → Prop} {vj : Nat → List V → S → (V → S → Prop) → Prop} {vk : Nat → (Bool → Prop) → Prop} {vl : Nat → (Bool → Prop) → Prop} {vp : Nat → (List V → List O → Prop) → List V → S → Prop} {vq : (S → Prop) → S → Prop} {vr : Op → Option Nat → S → (S → Prop) → Prop} {vt : Array Oper → S → (S → Prop) → Prop} {vu : Code → (S → (X → S → Prop) → Prop) → S → (X → S → Prop) → Prop}
theorem sound_at (hA : Ar.mk qa qb qc qd qe qf qg qh qi qj qk ql qm qo qp qq qs qt qu qv qw qx qy qz va vc vd ve vf vg vh vj vk vl vp vq vr vt vu = real) {f : Nat} {vs : List V} {s : S} {K : V → S → Prop} {Q : V → List O → List Nat → Prop} (h : SoundO f vs s.o Q) (hK : ∀ x o' ks, Q x o' ks → K x ⟨killTs ks s.t, o'⟩) : vj f vs s K := by
  have e : vj = real.callo := congrArg Ar.callo hA
  rw [e]
  exact h.mono hK
end
theorem soundi_of {f : Nat} {fn : Func} {c : Code} {vs : List V} {os : List O} {Q : V → List O → List Nat → Prop} (hf : Try.prog.funcs[f]? = some fn) (hb : fn.body = some c) (hn : (fn.name != "runtime.NumGoroutine") = true) (hc : okCode Try.prog c = true) (hr : okRes fn.results.toList = true)
    (h : ∀ qa qb qc qd qe qf qg qh qi qj qk ql qm qo qp qq qs qt qu qv qw qx qy qz va vc vd ve vf vg vh vj vk vl vp vq vr vt vu, Ar.mk qa qb qc qd qe qf qg qh qi qj qk ql qm qo qp qq qs qt qu qv qw qx qy qz va vc vd ve vf vg vh vj vk vl vp vq vr vt vu = real → ∀ K : V → List O → List Nat → Prop, (∀ x o' ks, Q x o' ks → K x o' ks) → exec (Ar.mk qa qb qc qd qe qf qg qh qi qj qk ql qm qo qp qq qs qt qu qv qw qx qy qz va vc vd ve vf vg vh vj vk vl vp vq vr vt vu) c (startI vs os (fn.ntmps - lenL vs)) (fun x s => retI (Ar.mk qa qb qc qd qe qf qg qh qi qj qk ql qm qo qp qq qs qt qu qv qw qx qy qz va vc vd ve vf vg vh vj vk vl vp vq vr vt vu) (lenO os) K fn.results.toList x s)) : SoundO f vs os Q :=
  inl_ok hf hb hn hc hr (h _ _ _ _ _ _ _ _ _ _ _ _ _ _ _ _ _ _ _ _ _ _ _ _ _ _ _ _ _ _ _ _ _ _ _ _ _ _ _ (show Ar.mk real.wrap real.add real.sub real.mul real.quo real.rem real.bits real.lt real.le real.eq real.nz real.seq real.slt real.bytes real.cat real.fits real.slen real.sget real.ssub real.nat real.len real.get real.sub2 real.app real.set real.room real.mlook real.mput real.rep real.call real.calld real.callo real.new real.lit real.keep real.next real.ext real.reg real.loop = real from rfl) Q fun _ _ _ h => h)
def findI (n : Int) (row : Bool) : List (Int × Ty) → Nat → Option Nat
  | [], _ => none
  | p :: l, i => if ((p.1 == n) && fitB row p.2) = true then some i else findI n row l (i + 1)
def idxV (o : Option Nat) : Int := match o with | some i => (i : Int) | none => -1
theorem findI_of (n : Int) (row : Bool) : ∀ (l : List (Int × Ty)) (i : Nat), (findI n row l i = none ∧ ofS l n row = none) ∨ ∃ j p, findI n row l i = some (i + j) ∧ l[j]? = some p ∧ ofS l n row = some p ∧ fitB row p.2 = true
  | [], i => .inl ⟨rfl, rfl⟩
  | p :: l, i => by
    unfold findI ofS
    cases h : (p.1 == n) && fitB row p.2
    · rw [if_neg (by simp), List.find?_cons_of_neg (by simp [h])]
      rcases findI_of n row l (i + 1) with ⟨h1, h2⟩ | ⟨j, q, h1, h2, h3, h4⟩
      · exact .inl ⟨h1, h2⟩
      · exact .inr ⟨j + 1, q, by rw [h1]; congr 1; omega, by simpa using h2, h3, h4⟩
    · rw [if_pos rfl, List.find?_cons_of_pos (by simp [h])]
      simp only [Bool.and_eq_true] at h
      exact .inr ⟨0, p, rfl, rfl, rfl, h.2⟩
def fitF (row : Bool) : Nat := match row with | true => 54 | false => 42
theorem fit_s (row : Bool) (t : Ty) (h : Sm t) : Spec (fitF row) [.ag (cT t)] [.one (.sc (.bool (fitB row t)))] := by
  cases row with
  | true => exact PRow_s t h.1 h.2
  | false => exact PRight_s t h.1 h.2
theorem index_put (l : List (Int × Ty)) (hl : l.length ≤ 1048576) (hlp : ∀ p ∈ l, Sm p.2) (op nm : Value) (n : Int) (row : Bool) (P : World → Value → List Nat → Prop) :
    SoundO 106 [.d (.sl 5 (rB l)), .cl 107 [1, 3]] [.it P, .box [.d (.sc op), .d (.sc nm), .d (.sc (.int .i64 n)), .own 0], .box [.d (.sc (.int .u8 0)), .d (.sc (.string ⟨#[]⟩)), .d (.sc (.int .i64 0)), .em], .box [.cl (fitF row) []]]
      (fun v o' ks => v = vi .i64 (idxV (findI n row l 0)) ∧ o' = [.it P, .box [.d (.sc op), .d (.sc nm), .d (.sc (.int .i64 n)), .own 0], .box [.d (.sc (.int .u8 0)), .d (.sc (.string ⟨#[]⟩)), .d (.sc (.int .i64 0)), .em], .box [.cl (fitF row) []]] ∧ ks = []) := by
  refine soundi_of Try.func106 rfl (by kernel_rfl) (by kernel_rfl) (by kernel_rfl) fun qa qb qc qd qe qf qg qh qi qj qk ql qm qo qp qq qs qt qu qv qw qx qy qz va vc vd ve vf vg vh vj vk vl vp vq vr vt vu hA K hK => ?_
  obtain ⟨B, hB⟩ : ∃ B, B = rB l := ⟨_, rfl⟩
  obtain ⟨r, hr⟩ : ∃ r, r = findI n row l 0 := ⟨_, rfl⟩
  rw [← hB]
  have hfit : ∀ p ∈ l, Spec (fitF row) [.ag (cT p.2)] [.one (.sc (.bool (fitB row p.2)))] := fun p hp => fit_s row p.2 (hlp p hp)
  generalize hfF : fitF row = F at *
  obtain ⟨e1, e2, e3, e4, e5, e6, e7, e8, e9⟩ := ar_at hA
  obtain ⟨r1, r2, r3, r4⟩ := row_at hA
  cbv
  repeat ((with_reducible apply next_at hA); cbv)
  refine loop_at hA (γ := Int) (fun x => [(8, vi .i64 x)]) (fun x => []) (fun x => ∃ k : Nat, x = (k : Int) ∧ k ≤ l.length ∧ findI n row (l.drop k) k = r) (fun x => l.length - x.toNat) 0 ?_ ?_ ?_
  · exact ⟨0, rfl, Nat.zero_le _, hr.symm⟩
  · cbv
  · intro z hinv
    cbv
    repeat ((with_reducible apply next_at hA); cbv)
    try simp (maxSteps := 4000000) only [nc] at *
    obtain ⟨k, hz, hk, hE⟩ := hinv
    have hll : qw B = ((l.length : Nat) : Int) := by rw [r1, hB, rB_len]
    have hlt : qh z (qw B) = decide (k < l.length) := by rw [e7, hll, hz]; exact decide_eq_decide.2 (by omega)
    by_cases h9 : k < l.length
    · rw [decide_eq_true h9] at hlt
      obtain ⟨p, hp⟩ : ∃ p, l[k]? = some p := ⟨_, List.getElem?_eq_getElem h9⟩
      have hspx := hfit p (List.mem_of_getElem? hp)
      have hdr := drop_at hp
      rw [hdr] at hE
      unfold findI at hE
      have gx : qx B z = some (.sc (.int .i64 p.1) :: cT p.2) := by rw [r2, hz, if_pos (by omega), hB, show ((k : Int)).toNat = k by omega, rB_get hp]
      obtain ⟨pn, pt⟩ := p
      simp only at hspx hE gx
      obtain ⟨x0, x1, x2, x3, hxx⟩ := cT_four pt
      rw [hxx] at hspx gx
      generalize fitB row pt = fb at *
      have hq : qj pn n = (pn == n) := e9 _ _
      have hz1 : qa .i64 (qb z 1) = ((k + 1 : Nat) : Int) := by rw [e1, e2, hz, IntWalk.i64_in _ (by omega)]; omega
      have hmu : l.length - (qa .i64 (qb z 1)).toNat < l.length - z.toNat := by rw [hz1, hz]; omega
      rw [hlt]
      cbv
      repeat (first | (with_reducible apply next_at hA; cbv) | (rw [gx]; cbv))
      try cbv
      repeat (first | (with_reducible apply next_at hA; cbv) | (rw [gx]; cbv))
      try simp (maxSteps := 4000000) only [nc] at *
      refine inl_at hA Try.func107 rfl (by kernel_rfl) (by kernel_rfl) (by kernel_rfl) ?_
      cbv
      cases h1 : qj pn n
      · rw [hq] at h1
        rw [h1] at hE
        replace hE : findI n row (l.drop (k + 1)) (k + 1) = r := by simpa using hE
        rw [← hq] at h1
        cbv
        repeat (first | (with_reducible apply next_at hA; cbv) | (rw [h1]; cbv))
        try cbv
        repeat (first | (with_reducible apply next_at hA; cbv) | (rw [h1]; cbv))
        try simp (maxSteps := 4000000) only [nc] at *
        refine ⟨qa .i64 (qb z 1), ⟨k + 1, hz1, h9, hE⟩, hmu, ?_⟩
        cbv
      · rw [hq] at h1
        rw [h1] at hE
        rw [← hq] at h1
        cases fb
        · replace hE : findI n row (l.drop (k + 1)) (k + 1) = r := by simpa using hE
          cbv
          repeat (first | (with_reducible apply next_at hA; cbv) | (rw [h1]; cbv) | (refine call_at hA _ hspx rfl ?_; cbv))
          try cbv
          repeat (first | (with_reducible apply next_at hA; cbv) | (rw [h1]; cbv) | (refine call_at hA _ hspx rfl ?_; cbv))
          try simp (maxSteps := 4000000) only [nc] at *
          refine ⟨qa .i64 (qb z 1), ⟨k + 1, hz1, h9, hE⟩, hmu, ?_⟩
          cbv
        · replace hE : some k = r := by simpa using hE
          cbv
          repeat (first | (with_reducible apply next_at hA; cbv) | (rw [h1]; cbv) | (refine call_at hA _ hspx rfl ?_; cbv))
          try cbv
          repeat (first | (with_reducible apply next_at hA; cbv) | (rw [h1]; cbv) | (refine call_at hA _ hspx rfl ?_; cbv))
          try simp (maxSteps := 4000000) only [nc] at *
          exact hK _ _ _ ⟨by rw [← hr, ← hE]; show V.d (.sc (.int .i64 z)) = V.d (.sc (.int .i64 (k : Int))); rw [hz], rfl, rfl⟩
    · rw [decide_eq_false h9] at hlt
      rw [hlt]
      cbv
      repeat ((with_reducible apply next_at hA); cbv)
      rw [show k = l.length by omega, List.drop_length] at hE
      exact hK _ _ _ ⟨by rw [← hr, ← hE]; rfl, rfl, rfl⟩
end Go.Proofs.Ytclehkgnacekkaa.Vm
end

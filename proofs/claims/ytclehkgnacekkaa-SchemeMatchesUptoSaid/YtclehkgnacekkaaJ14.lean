/- Part 14 of the proof: VPRight4, VKSame, VRAt, VRVars, VKVars, VSc1. Conditions: none. -/
import Derived.Test.YtclehkgnacekkaaJ3
import Derived.Test.YtclehkgnacekkaaJ7
import Derived.Test.YtclehkgnacekkaaJ8
import Derived.Test.YtclehkgnacekkaaJ12
import Derived.Test.YtclehkgnacekkaaJ13
import Derived.IntWalk
set_option linter.all false
set_option linter.unusedVariables false
set_option linter.unusedSimpArgs false
section
namespace Go.Proofs.Ytclehkgnacekkaa.Vm
open Go.RowKit
set_option maxRecDepth 100000
set_option maxHeartbeats 4000000
theorem asks_none {op : Int} (h : asks op = none) : kidsS op = none := by
  unfold asks at h
  unfold kidsS
  repeat' split at h
  all_goals first | (cases h; done) | skip
  rename_i h1 h2 h3 h4 h5 h6 h7
  rw [if_neg (by omega), if_neg h2, if_neg h3, if_neg h7]
theorem asks_head {op : Int} {kn : Int} {a b : Bool} (h : asks op = some (kn, a, b)) (nm : ByteArray) (n : Int) (ks : List Ty) (row : Bool) :
    headB wordB (.mk op nm n ks) (sI row) = hd2 row (decide (8 ≤ op)) (decide ((ks.length : Int) = kn)) a (wordB nm) (decide (nm.toList = [])) (decide (n < 0)) b (n == 0) ∧ (∃ kk, kidsS op = some kk ∧ (kk.length : Int) = kn ∧ ∀ (k : Nat) (c : Int), kk[k]? = some c → sI (orB (op == 5) (orB (op == 6) (nmF (op == 11) (k == 1) false))) = c) ∧
      (b = true ∧ (vbl (.mk op nm n ks) = some (n, decide (op = 10))) ∧ (op = 10 ∨ op = 7) ∨ b = false ∧ vbl (.mk op nm n ks) = none) := by
  have key : ∀ (i : Int) (kk : List Int), op = i → kidsS i = some kk → (kk.length : Int) = kn → (∀ (k : Nat) (c : Int), kk[k]? = some c → sI (orB (i == 5) (orB (i == 6) (nmF (i == 11) (k == 1) false))) = c) → a = (i == 11) → b = ((i == 7) || (i == 10)) →
      headB wordB (.mk op nm n ks) (sI row) = hd2 row (decide (8 ≤ op)) (decide ((ks.length : Int) = kn)) a (wordB nm) (decide (nm.toList = [])) (decide (n < 0)) b (n == 0) ∧ (∃ kk, kidsS op = some kk ∧ (kk.length : Int) = kn ∧ ∀ (k : Nat) (c : Int), kk[k]? = some c → sI (orB (op == 5) (orB (op == 6) (nmF (op == 11) (k == 1) false))) = c) := by
    rintro i kk rfl h1 h2 h3 rfl rfl
    refine ⟨?_, kk, h1, h2, h3⟩
    rw [head_hd, h1]
    have hk := kidsTx_is h1
    have e1 : decide (ks.length = (kidsTx op).size) = decide ((ks.length : Int) = kn) := by
      have : kk.length = (kidsTx op).size := by rw [hk, List.length_map, btl_size]
      exact decide_eq_decide.2 (by omega)
    have e2 : (decide (8 ≤ op) == (sI row == 114)) = (row == decide (8 ≤ op)) := by cases row <;> cases decide (8 ≤ op) <;> rfl
    unfold hdF hd2
    rw [e1, e2]
    simp only [Option.isSome_some, Bool.true_and, Bool.or_assoc]
    cases (op == 11) <;> rfl
  have two : ∀ {l : List Int} {P : Nat → Int → Prop} {x y : Int}, l = [x, y] → P 0 x → P 1 y → ∀ (k : Nat) (c : Int), l[k]? = some c → P k c := by
    rintro l P x y rfl h0 h1 k c h
    match k, h with
    | 0, h => cases h; exact h0
    | 1, h => cases h; exact h1
    | k + 2, h => simp at h
  have one : ∀ {l : List Int} {P : Nat → Int → Prop} {x : Int}, l = [x] → P 0 x → ∀ (k : Nat) (c : Int), l[k]? = some c → P k c := by
    rintro l P x rfl h0 k c h
    match k, h with
    | 0, h => cases h; exact h0
    | k + 1, h => simp at h
  have zero : ∀ {P : Nat → Int → Prop}, ∀ (k : Nat) (c : Int), ([] : List Int)[k]? = some c → P k c := fun k c h => by simp at h
  unfold asks at h
  repeat' split at h
  all_goals first | (cases h; done) | skip
  all_goals
    cases h
    rename_i h
    first
    | (rcases h with h | h | h <;> subst h <;> exact ⟨(key _ _ rfl rfl rfl zero rfl rfl).1, (key _ _ rfl rfl rfl zero rfl rfl).2, .inr ⟨rfl, rfl⟩⟩)
    | (rcases h with h | h <;> subst h <;> first | exact ⟨(key _ _ rfl rfl rfl zero rfl rfl).1, (key _ _ rfl rfl rfl zero rfl rfl).2, .inr ⟨rfl, rfl⟩⟩ | exact ⟨(key _ _ rfl rfl rfl (one rfl rfl) rfl rfl).1, (key _ _ rfl rfl rfl (one rfl rfl) rfl rfl).2, .inr ⟨rfl, rfl⟩⟩)
    | (subst h; exact ⟨(key _ _ rfl rfl rfl zero rfl rfl).1, (key _ _ rfl rfl rfl zero rfl rfl).2, .inl ⟨rfl, rfl, by decide⟩⟩)
    | (subst h; exact ⟨(key _ _ rfl rfl rfl (two rfl rfl rfl) rfl rfl).1, (key _ _ rfl rfl rfl (two rfl rfl rfl) rfl rfl).2, .inr ⟨rfl, rfl⟩⟩)
theorem right_s : ∀ (t : Ty), t.parts.length ≤ 1048576 → (∀ x ∈ t.parts, x.name.size ≤ 1048576) → ∀ (row : Bool) (es : List (R × R)) (s : Int → Option Bool), SAt es s →
    SpecO 93 [.mp 0, .ag (ofD (cT t)), vb row] [.mp 3 es] (RightQ (shapeB wordB t (sI row) && (meetL t.parts s).isSome) (meetL t.parts s)) := by
  intro t
  induction t using Ty.ind with
  | h t ih =>
    intro hN hnm row es s hes
    have hkl := kids_le t
    have hself := hnm t (by rw [parts_eq]; exact List.mem_cons_self ..)
    have hkn : ∀ x ∈ t.kids, ∀ y ∈ x.parts, y.name.size ≤ 1048576 := fun x hx y hy => hnm y (by rw [parts_kids]; exact List.mem_cons_of_mem _ (List.mem_flatMap.2 ⟨x, hx, hy⟩))
    have ih2 : ∀ x ∈ t.kids, ∀ (row : Bool) (es : List (R × R)) (s : Int → Option Bool), SAt es s → SpecO 93 [.mp 0, .ag (ofD (cT x)), vb row] [.mp 3 es] (RightQ (shapeB wordB x (sI row) && (meetL x.parts s).isSome) (meetL x.parts s)) := fun x hx => ih x hx (by have := hkl.2 x hx; omega) (hkn x hx)
    have hsh := shape_eq wordB t (sI row)
    have hpm : meetL t.parts s = match vbl t with | none => meetL (partsL t.kids) s | some p => if s p.1 = some (!p.2) then none else meetL (partsL t.kids) (updS s p.1 p.2) := by
      rw [parts_eq, meetL]
      cases vbl t <;> rfl
    obtain ⟨op, nm, n, ks⟩ := t
    simp only [Ty.kids, Ty.op] at hkl ih2 hsh hpm
    have hself : nm.size ≤ 1048576 := hself
    generalize hbb : (shapeB wordB (.mk op nm n ks) (sI row) && (meetL (Ty.mk op nm n ks).parts s).isSome) = b
    generalize hFF : meetL (Ty.mk op nm n ks).parts s = F at *
    rw [cT]
    have hb : Try.f93.body = some (.seq (seqL2 (Try.f93.body.getD .skip)) (.seq (seqL2 (seqR2 (Try.f93.body.getD .skip))) (.seq (seqL2 (seqR2 (seqR2 (Try.f93.body.getD .skip)))) (.seq (seqL2 (seqR2 (seqR2 (seqR2 (Try.f93.body.getD .skip))))) (seqR2 (seqR2 (seqR2 (seqR2 (Try.f93.body.getD .skip))))))))) := by kernel_rfl
    refine speco_of Try.func93 hb (by kernel_rfl) (by kernel_rfl) (by kernel_rfl) fun aWrap aAdd aSub aMul aQuo aRem aBits aLt aLe aEq aNz aSeq aSlt aBytes aCat aFits aSlen aSget aSsub aNat aLen aGet aSub2 aApp aSet aRoom aMlook aMput aRep aCall aCalld aCallo aNew aLit aKeep aNext aLoop hA => ?_
    refine pre_right op nm n (rT ks) row es _ _ ?_ ?_ aWrap aAdd aSub aMul aQuo aRem aBits aLt aLe aEq aNz aSeq aSlt aBytes aCat aFits aSlen aSget aSsub aNat aLen aGet aSub2 aApp aSet aRoom aMlook aMput aRep aCall aCalld aCallo aNew aLit aKeep aNext aLoop hA
    · intro kn a c hask j12 j13 j14 j15 j16 j17 j18 j19 j20 j21 j22 j23 j24 j25 j26 j27 j28 j29 j30 j31
      obtain ⟨hh, ⟨kk, hkk1, hkk2, hkk3⟩, hv⟩ := asks_head hask nm n ks row
      rw [hkk1] at hsh
      have hsh : shapeB wordB (.mk op nm n ks) (sI row) = (headB wordB (.mk op nm n ks) (sI row) && shapesB wordB ks kk) := hsh
      rw [hh] at hsh
      have hbody := rest_right op nm n ks row es s kn a c j12 j13 j14 j15 j16 j17 j18 j19 j20 j21 j22 j23 j24 j25 j26 j27 j28 j29 j30 j31 kk b F hes hself (by omega) (fun h => by omega) hkk3 (fun h => by rw [← hbb, hsh, h, Bool.true_and]) (fun h => by rw [← hbb, hsh, h, Bool.false_and, Bool.false_and]) (fun h => ?_) ih2 aWrap aAdd aSub aMul aQuo aRem aBits aLt aLe aEq aNz aSeq aSlt aBytes aCat aFits aSlen aSget aSsub aNat aLen aGet aSub2 aApp aSet aRoom aMlook aMput aRep aCall aCalld aCallo aNew aLit aKeep aNext aLoop hA
      · rw [hA] at hbody ⊢
        exact hbody
      · rw [hpm]
        rcases hv with ⟨rfl, hv, ho⟩ | ⟨rfl, hv⟩
        · rw [hv]
          have hr : decide (op = 10) = row := by
            unfold hd2 at h
            have h1 : (row == decide (8 ≤ op)) = true := by revert h; cases (row == decide (8 ≤ op)) <;> simp
            rw [beq_iff_eq] at h1
            rw [h1]
            rcases ho with rfl | rfl <;> rfl
          rw [hr]
          rfl
        · rw [hv]
          rfl
    · intro hn st ho h6
      have hk := asks_none hn
      have hbf : b = false := by
        rw [← hbb, hsh]
        unfold headB
        rw [show (Ty.mk op nm n ks).op = op from rfl, hk]
        rfl
      show aKeep 1 (RightQ b F) [getN st.t 6] st
      rw [h6]
      exact keep_is hA [0] ⟨rfl, rfl, rfl, rfl, by rw [ho]; rfl, rfl, rfl, rfl⟩ ⟨es, rfl, hes.1, by rw [hbf], fun h => by rw [hbf] at h; cases h⟩
theorem right_is (t : Ty) (row : Bool) : (shapeB wordB t (sI row) && (meetL t.parts fun _ => none).isSome) = rightB t (sI row) := by rw [once_meet]; rfl
theorem PRight_s (t : Ty) (hN : t.parts.length ≤ 1048576) (hnm : ∀ x ∈ t.parts, x.name.size ≤ 1048576) : Spec 42 [.ag (cT t)] [.one (.sc (.bool (rightB t 116)))] := by
  have h1 := right_s t hN hnm false [] (fun _ => none) SAt.nil
  rw [right_is] at h1
  have e : rightB t (sI false) = rightB t 116 := rfl
  rw [e] at h1
  generalize rightB t 116 = b at *
  generalize meetL t.parts (fun _ => none) = F at *
  obtain ⟨c0, c1, c2, c3, hc⟩ : ∃ c0 c1 c2 c3, cT t = [c0, c1, c2, c3] := by obtain ⟨op, nm, n, ks⟩ := t; exact ⟨_, _, _, _, by rw [cT]⟩
  rw [hc] at h1 ⊢
  refine spec_of Try.func42 rfl (by kernel_rfl) (by kernel_rfl) (by kernel_rfl) fun aWrap aAdd aSub aMul aQuo aRem aBits aLt aLe aEq aNz aSeq aSlt aBytes aCat aFits aSlen aSget aSsub aNat aLen aGet aSub2 aApp aSet aRoom aMlook aMput aRep aCall aCalld aCallo aNew aLit aKeep aNext aLoop hA => ?_
  cbv
  repeat ((with_reducible apply next_at hA); cbv)
  refine callo_at hA [1] h1 ⟨rfl, rfl, rfl, rfl, rfl, rfl, rfl⟩ ?_
  rintro res os2 ⟨es', rfl, hk', rfl, hm'⟩
  cbv
  repeat ((with_reducible apply next_at hA); cbv)
theorem PRow_s (t : Ty) (hN : t.parts.length ≤ 1048576) (hnm : ∀ x ∈ t.parts, x.name.size ≤ 1048576) : Spec 54 [.ag (cT t)] [.one (.sc (.bool (rightB t 114)))] := by
  have h1 := right_s t hN hnm true [] (fun _ => none) SAt.nil
  rw [right_is] at h1
  have e : rightB t (sI true) = rightB t 114 := rfl
  rw [e] at h1
  generalize rightB t 114 = b at *
  generalize meetL t.parts (fun _ => none) = F at *
  obtain ⟨c0, c1, c2, c3, hc⟩ : ∃ c0 c1 c2 c3, cT t = [c0, c1, c2, c3] := by obtain ⟨op, nm, n, ks⟩ := t; exact ⟨_, _, _, _, by rw [cT]⟩
  rw [hc] at h1 ⊢
  refine spec_of Try.func54 rfl (by kernel_rfl) (by kernel_rfl) (by kernel_rfl) fun aWrap aAdd aSub aMul aQuo aRem aBits aLt aLe aEq aNz aSeq aSlt aBytes aCat aFits aSlen aSget aSsub aNat aLen aGet aSub2 aApp aSet aRoom aMlook aMput aRep aCall aCalld aCallo aNew aLit aKeep aNext aLoop hA => ?_
  cbv
  repeat ((with_reducible apply next_at hA); cbv)
  refine callo_at hA [1] h1 ⟨rfl, rfl, rfl, rfl, rfl, rfl, rfl⟩ ?_
  rintro res os2 ⟨es', rfl, hk', rfl, hm'⟩
  cbv
  repeat ((with_reducible apply next_at hA); cbv)
theorem either_s (t : Ty) (hN : t.parts.length ≤ 1048576) (hnm : ∀ x ∈ t.parts, x.name.size ≤ 1048576) : Spec 96 [.ag (cT t)] [.one (.sc (.bool (rightB t 116 || rightB t 114)))] := by
  have h1 := PRight_s t hN hnm
  have h2 := PRow_s t hN hnm
  generalize rightB t 116 = q1 at *
  generalize rightB t 114 = q2 at *
  obtain ⟨c0, c1, c2, c3, hc⟩ : ∃ c0 c1 c2 c3, cT t = [c0, c1, c2, c3] := by obtain ⟨op, nm, n, ks⟩ := t; exact ⟨_, _, _, _, by rw [cT]⟩
  rw [hc] at h1 h2 ⊢
  refine spec_of Try.func96 rfl (by kernel_rfl) (by kernel_rfl) (by kernel_rfl) fun aWrap aAdd aSub aMul aQuo aRem aBits aLt aLe aEq aNz aSeq aSlt aBytes aCat aFits aSlen aSget aSsub aNat aLen aGet aSub2 aApp aSet aRoom aMlook aMput aRep aCall aCalld aCallo aNew aLit aKeep aNext aLoop hA => ?_
  cbv
  repeat ((with_reducible apply next_at hA); cbv)
  refine call_at hA _ h1 ?_ ?_
  · rfl
  cases q1
  · cbv
    repeat ((with_reducible apply next_at hA); cbv)
    refine call_at hA _ h2 ?_ ?_
    · rfl
    cbv
    repeat ((with_reducible apply next_at hA); cbv)
  · cbv
    repeat ((with_reducible apply next_at hA); cbv)
end Go.Proofs.Ytclehkgnacekkaa.Vm
end
section
namespace Go.Proofs.Ytclehkgnacekkaa.Vm
open Go.RowKit
set_option maxRecDepth 100000
set_option maxHeartbeats 4000000
theorem alikes_len2 : ∀ {a b : List Ty}, a.length ≠ b.length → alikesB a b = false
  | [], [], h => absurd rfl h
  | [], _ :: _, _ => by simp [alikesB]
  | _ :: _, [], _ => by simp [alikesB]
  | x :: a, y :: b, h => by rw [alikesB, alikes_len2 (a := a) (b := b) (by simpa using h), Bool.and_false]
theorem alikes_step2 {a b : List Ty} {k : Nat} {x y : Ty} (hx : a[k]? = some x) (hy : b[k]? = some y) : alikesB (a.drop k) (b.drop k) = (alikeB x y && alikesB (a.drop (k + 1)) (b.drop (k + 1))) := by
  obtain ⟨h1, e1⟩ := List.getElem?_eq_some_iff.1 hx
  obtain ⟨h2, e2⟩ := List.getElem?_eq_some_iff.1 hy
  rw [List.drop_eq_getElem_cons h1, List.drop_eq_getElem_cons h2, e1, e2, alikesB]
def fnD (f : Nat) : D := .sc (.func (.func f) #[] #[])
theorem eqf_s (f : Nat) (ks ks2 : List Ty) (hN : ks.length ≤ 1048576) (ih : ∀ x ∈ ks, ∀ y, Spec f [.ag (cT x), .ag (cT y)] [.one (.sc (.bool (alikeB x y)))]) :
    Spec 151 [.one (.sl 4 (rT ks)), .one (.sl 4 (rT ks2)), .one (fnD f)] [.one (.sc (.bool (alikesB ks ks2)))] := by
  generalize hb : alikesB ks ks2 = b
  obtain ⟨K, hK⟩ : ∃ K, K = rT ks := ⟨_, rfl⟩
  obtain ⟨K2, hK2⟩ : ∃ K, K = rT ks2 := ⟨_, rfl⟩
  rw [← hK, ← hK2]
  refine spec_of Try.func151 rfl (by kernel_rfl) (by kernel_rfl) (by kernel_rfl) fun aWrap aAdd aSub aMul aQuo aRem aBits aLt aLe aEq aNz aSeq aSlt aBytes aCat aFits aSlen aSget aSsub aNat aLen aGet aSub2 aApp aSet aRoom aMlook aMput aRep aCall aCalld aCallo aNew aLit aKeep aNext aLoop hA => ?_
  cbv
  repeat ((with_reducible apply next_at hA); cbv)
  try simp (maxSteps := 4000000) only [nc] at *
  obtain ⟨e1, e2, e3, e4, e5, e6, e7, e8, e9⟩ := ar_at hA
  obtain ⟨r1, r2, -⟩ := row_at hA
  cases h4 : aEq (aLen K) (aLen K2)
  · have h5 : ks.length ≠ ks2.length := by
      rw [e9, r1, r1, hK, hK2, rT_len, rT_len] at h4
      intro h
      rw [h] at h4
      simp at h4
    rw [← hb, alikes_len2 h5]
    cbv
    repeat ((with_reducible apply next_at hA); cbv)
  · have h5 : ks.length = ks2.length := by
      rw [e9, r1, r1, hK, hK2, rT_len, rT_len] at h4
      rw [beq_iff_eq] at h4
      exact Int.ofNat.inj h4
    cbv
    repeat ((with_reducible apply next_at hA); cbv)
    try simp (maxSteps := 4000000) only [nc] at *
    refine loop_at hA (γ := Int) (fun z => [(17, vi .i64 z)]) (fun _ => []) (fun z => ∃ k : Nat, z = (k : Int) ∧ k ≤ ks.length ∧ alikesB (ks.drop k) (ks2.drop k) = b) (fun z => ks.length - z.toNat) 0 ?_ ?_ ?_
    · exact ⟨0, rfl, Nat.zero_le _, hb⟩
    · cbv
    · intro z hinv
      cbv
      repeat ((with_reducible apply next_at hA); cbv)
      try simp (maxSteps := 4000000) only [nc] at *
      obtain ⟨k, hz, hk, hE⟩ := hinv
      have hlen : aLen K = (ks.length : Int) := by rw [r1, hK, rT_len]
      have hlt : aLt z (aLen K) = decide (k < ks.length) := by rw [e7, hlen, hz]; exact decide_eq_decide.2 (by omega)
      by_cases h9 : k < ks.length
      · rw [decide_eq_true h9] at hlt
        obtain ⟨x, hx⟩ : ∃ x, ks[k]? = some x := ⟨_, List.getElem?_eq_getElem h9⟩
        obtain ⟨y, hy⟩ : ∃ y, ks2[k]? = some y := ⟨_, List.getElem?_eq_getElem (by omega)⟩
        have hsp := ih x (List.mem_of_getElem? hx) y
        have hst := alikes_step2 hx hy
        obtain ⟨x0, x1, x2, x3, hxx⟩ := cT_four x
        obtain ⟨y0, y1, y2, y3, hyy⟩ := cT_four y
        have g1 : aGet K z = some [x0, x1, x2, x3] := by rw [r2, hz, if_pos (by omega), hK, Int.toNat_natCast, rT_get hx, hxx]
        have g2 : aGet K2 z = some [y0, y1, y2, y3] := by rw [r2, hz, if_pos (by omega), hK2, Int.toNat_natCast, rT_get hy, hyy]
        rw [hxx, hyy] at hsp
        generalize alikeB x y = c at *
        have hz1 : aWrap .i64 (aAdd z 1) = ((k + 1 : Nat) : Int) := by rw [e1, e2, hz, IntWalk.i64_in _ (by omega)]; omega
        have hmu : ks.length - (aWrap .i64 (aAdd z 1)).toNat < ks.length - z.toNat := by rw [hz1, hz]; omega
        rw [hlt]
        cases c
        · cbv
          repeat (first | (with_reducible apply next_at hA; cbv) | (rw [g1]; cbv) | (rw [g2]; cbv) | (refine call_at hA _ hsp rfl ?_; cbv))
          try cbv
          repeat (first | (with_reducible apply next_at hA; cbv) | (rw [g1]; cbv) | (rw [g2]; cbv) | (refine call_at hA _ hsp rfl ?_; cbv))
          try simp (maxSteps := 4000000) only [nc] at *
          rw [← hE, hst]
          exact ⟨rfl, trivial⟩
        · cbv
          repeat (first | (with_reducible apply next_at hA; cbv) | (rw [g1]; cbv) | (rw [g2]; cbv) | (refine call_at hA _ hsp rfl ?_; cbv))
          try cbv
          repeat (first | (with_reducible apply next_at hA; cbv) | (rw [g1]; cbv) | (rw [g2]; cbv) | (refine call_at hA _ hsp rfl ?_; cbv))
          try simp (maxSteps := 4000000) only [nc] at *
          refine ⟨aWrap .i64 (aAdd z 1), ⟨k + 1, hz1, h9, by rw [← hE, hst]; rfl⟩, hmu, ?_⟩
          cbv
      · rw [decide_eq_false h9] at hlt
        rw [hlt]
        cbv
        repeat ((with_reducible apply next_at hA); cbv)
        rw [← hE, List.drop_eq_nil_of_le (by omega), List.drop_eq_nil_of_le (by omega), alikesB]
        exact ⟨rfl, trivial⟩
theorem palike_s : ∀ t u : Ty, t.parts.length ≤ 1048576 → Spec 145 [.ag (cT t), .ag (cT u)] [.one (.sc (.bool (alikeB t u)))] := by
  intro t
  induction t using Ty.ind with
  | h t ih =>
    intro u hN
    have hkl := kids_le t
    obtain ⟨op, nm, n, ks⟩ := t
    obtain ⟨op2, nm2, n2, ks2⟩ := u
    simp only [Ty.kids] at hkl ih
    have hE := eqf_s 145 ks ks2 (by omega) (fun x hx y => ih x hx y (by have := hkl.2 x hx; omega))
    rw [cT, cT]
    have hb : alikeB (.mk op nm n ks) (.mk op2 nm2 n2 ks2) = ((op == op2) && ((nm.toList == nm2.toList) && ((n == n2) && alikesB ks ks2))) := by rw [alikeB]
    generalize hbb : alikeB (.mk op nm n ks) (.mk op2 nm2 n2 ks2) = b at *
    generalize alikesB ks ks2 = b4 at *
    generalize rT ks = K at *
    generalize rT ks2 = K2 at *
    refine spec_of Try.func145 rfl (by kernel_rfl) (by kernel_rfl) (by kernel_rfl) fun aWrap aAdd aSub aMul aQuo aRem aBits aLt aLe aEq aNz aSeq aSlt aBytes aCat aFits aSlen aSget aSsub aNat aLen aGet aSub2 aApp aSet aRoom aMlook aMput aRep aCall aCalld aCallo aNew aLit aKeep aNext aLoop hA => ?_
    cbv
    repeat ((with_reducible apply next_at hA); cbv)
    obtain ⟨e1, e2, e3, e4, e5, e6, e7, e8, e9⟩ := ar_at hA
    obtain ⟨s1, s2, s3, -⟩ := str_at hA
    have t1 : aEq op op2 = (op == op2) := e9 _ _
    have t2 : aSeq (aBytes nm) (aBytes nm2) = (nm.toList == nm2.toList) := by rw [s1, s3, s3]
    have t3 : aEq n n2 = (n == n2) := e9 _ _
    generalize (op == op2) = b1 at *
    generalize (nm.toList == nm2.toList) = b2 at *
    generalize (n == n2) = b3 at *
    unfold fnD at hE
    subst hb
    cases b1
    · rw [t1]
      cbv
      repeat ((with_reducible apply next_at hA); cbv)
    · rw [t1]
      cases b2
      · cbv
        repeat (first | (with_reducible apply next_at hA; cbv) | (rw [t1]; cbv) | (rw [t2]; cbv))
        try cbv
        repeat (first | (with_reducible apply next_at hA; cbv) | (rw [t1]; cbv) | (rw [t2]; cbv))
        try simp (maxSteps := 4000000) only [nc] at *
      · cases b3
        · cbv
          repeat (first | (with_reducible apply next_at hA; cbv) | (rw [t1]; cbv) | (rw [t2]; cbv) | (rw [t3]; cbv))
          try cbv
          repeat (first | (with_reducible apply next_at hA; cbv) | (rw [t1]; cbv) | (rw [t2]; cbv) | (rw [t3]; cbv))
          try simp (maxSteps := 4000000) only [nc] at *
        · cbv
          repeat (first | (with_reducible apply next_at hA; cbv) | (rw [t1]; cbv) | (rw [t2]; cbv) | (rw [t3]; cbv) | (refine call_at hA _ hE rfl ?_; cbv))
          try cbv
          repeat (first | (with_reducible apply next_at hA; cbv) | (rw [t1]; cbv) | (rw [t2]; cbv) | (rw [t3]; cbv) | (refine call_at hA _ hE rfl ?_; cbv))
          try simp (maxSteps := 4000000) only [nc] at *
def eitherT (t : Ty) : Bool := rightB t 116 || rightB t 114
def Sm (t : Ty) : Prop := t.parts.length ≤ 1048576 ∧ ∀ x ∈ t.parts, x.name.size ≤ 1048576
theorem right_shape {t : Ty} {s : Int} (h : rightB t s = true) : shapeB wordB t s = true ∧ onceB t = true := by
  unfold rightB at h
  rwa [Bool.and_eq_true] at h
theorem either_shape {t : Ty} (h : eitherT t = true) : ∃ s, shapeB wordB t s = true := by
  unfold eitherT at h
  rw [Bool.or_eq_true] at h
  rcases h with h | h
  · exact ⟨_, (right_shape h).1⟩
  · exact ⟨_, (right_shape h).1⟩
theorem either_spine {t : Ty} (h : eitherT t = true) : SpineAll t := by
  obtain ⟨s, h⟩ := either_shape h
  exact shape_spineAll h
theorem Spec.mono {f : Nat} {rs q q' : List R} (h : Spec f rs q) (hq : ∀ I w v, AtRes I w v q → AtRes I w v q') : Spec f rs q' :=
  ⟨h.1, fun I w args h1 h2 => (h.2 I w args h1 h2).mono fun e w' ⟨v, e1, e2, e3⟩ => ⟨v, e1, hq _ _ _ e2, e3⟩⟩
theorem AtD.empty {I : Nat → Nat → Prop} {w : World} {v : Value} {n : Nat} (m : Nat) (h : AtD I w v (.sl n [])) : AtD I w v (.sl m []) := by
  generalize hr : ([] : List (List D)) = rows at h
  cases h with
  | nil A cap sz => exact .nil _ _ _
  | sl b off cap sz rows us => subst hr; exact .nil _ _ _
theorem AtDs.last {I : Nat → Nat → Prop} {w : World} {us : List Value} {xs : List D} {x y : D} (h : AtDs I w us (xs ++ [x])) (hx : ∀ u, AtD I w u x → AtD I w u y) : AtDs I w us (xs ++ [y]) := by
  refine ⟨by have := h.1; simpa using this, fun i u d hu hd => ?_⟩
  rcases Nat.lt_or_ge i xs.length with hlt | hge
  · rw [List.getElem?_append_left hlt] at hd
    exact h.2 i u d hu (by rw [List.getElem?_append_left hlt]; exact hd)
  · rw [List.getElem?_append_right hge] at hd
    obtain e : i - xs.length = 0 := by
      have := (List.getElem?_eq_some_iff.1 hd).1
      simp at this
      omega
    rw [e] at hd
    simp at hd
    subst hd
    exact hx u (h.2 i u x hu (by rw [List.getElem?_append_right hge, e]; rfl))
theorem Spec.sl0 {f : Nat} {rs : List R} {a b c : D} {n : Nat} (m : Nat) (h : Spec f rs [.ag [a, b, c, .sl n []]]) : Spec f rs [.ag [a, b, c, .sl m []]] := h.mono fun I w v hv => by
  obtain ⟨us, rfl, h2⟩ := hv
  exact ⟨us, rfl, AtDs.last (xs := [a, b, c]) h2 fun u hu => hu.empty m⟩
theorem Canon_s (t : Ty) (ht : Sm t) : Spec 44 [.ag (cT t)] [.ag (cT (if eitherT t = true then canonS t else zeroTy))] := by
  have h1 := either_s t ht.1 ht.2
  have hb : (rightB t 116 || rightB t 114) = eitherT t := rfl
  rw [hb] at h1
  by_cases he : eitherT t = true
  · rw [if_pos he]
    have h2 := canonP_s _ t (Nat.le_refl _) ht.1 (either_spine he)
    rw [he] at h1
    obtain ⟨a0, a1, a2, a3, ha⟩ := cT_four t
    obtain ⟨c0, c1, c2, c3, hc⟩ := cT_four (canonS t)
    rw [ha] at h1 h2
    rw [hc] at h2
    rw [ha, hc]
    refine spec_of Try.func44 rfl (by kernel_rfl) (by kernel_rfl) (by kernel_rfl) fun aWrap aAdd aSub aMul aQuo aRem aBits aLt aLe aEq aNz aSeq aSlt aBytes aCat aFits aSlen aSget aSsub aNat aLen aGet aSub2 aApp aSet aRoom aMlook aMput aRep aCall aCalld aCallo aNew aLit aKeep aNext aLoop hA => ?_
    cbv
    repeat (first | (with_reducible apply next_at hA; cbv) | (refine call_at hA _ h1 rfl ?_; cbv) | (refine call_at hA _ h2 rfl ?_; cbv))
    try cbv
    repeat (first | (with_reducible apply next_at hA; cbv) | (refine call_at hA _ h1 rfl ?_; cbv) | (refine call_at hA _ h2 rfl ?_; cbv))
    try simp (maxSteps := 4000000) only [nc] at *
  · have he : eitherT t = false := by simpa using he
    rw [he, if_neg (by simp)]
    rw [he] at h1
    obtain ⟨a0, a1, a2, a3, ha⟩ := cT_four t
    rw [ha] at h1 ⊢
    unfold zeroTy
    rw [cT, rT]
    refine Spec.sl0 (n := 0) 4 ?_
    refine spec_of Try.func44 rfl (by kernel_rfl) (by kernel_rfl) (by kernel_rfl) fun aWrap aAdd aSub aMul aQuo aRem aBits aLt aLe aEq aNz aSeq aSlt aBytes aCat aFits aSlen aSget aSsub aNat aLen aGet aSub2 aApp aSet aRoom aMlook aMput aRep aCall aCalld aCallo aNew aLit aKeep aNext aLoop hA => ?_
    cbv
    repeat (first | (with_reducible apply next_at hA; cbv) | (refine call_at hA _ h1 rfl ?_; cbv))
    try cbv
    repeat (first | (with_reducible apply next_at hA; cbv) | (refine call_at hA _ h1 rfl ?_; cbv))
    try simp (maxSteps := 4000000) only [nc] at *
def sameB (a b : Ty) : Bool := eitherT a && (eitherT b && alikeB (canonS a) (canonS b))
theorem Same_s (t u : Ty) (ht : Sm t) (hu : Sm u) : Spec 129 [.ag (cT t), .ag (cT u)] [.one (.sc (.bool (sameB t u)))] := by
  have h1 := either_s t ht.1 ht.2
  have h2 := either_s u hu.1 hu.2
  have hb1 : (rightB t 116 || rightB t 114) = eitherT t := rfl
  have hb2 : (rightB u 116 || rightB u 114) = eitherT u := rfl
  rw [hb1] at h1
  rw [hb2] at h2
  have h3 := fun h => canonP_s _ t (Nat.le_refl _) ht.1 (either_spine h)
  have h4 := fun h => canonP_s _ u (Nat.le_refl _) hu.1 (either_spine h)
  have h5 := fun h => palike_s (canonS t) (canonS u) (by rw [canon_len _ t (Nat.le_refl _) (either_spine h)]; exact ht.1)
  unfold sameB
  generalize alikeB (canonS t) (canonS u) = c at *
  generalize eitherT t = b1 at *
  generalize eitherT u = b2 at *
  obtain ⟨a0, a1, a2, a3, ha⟩ := cT_four t
  obtain ⟨d0, d1, d2, d3, hd⟩ := cT_four u
  obtain ⟨x0, x1, x2, x3, hx⟩ := cT_four (canonS t)
  obtain ⟨y0, y1, y2, y3, hy⟩ := cT_four (canonS u)
  rw [ha] at h1 h3
  rw [hd] at h2 h4
  rw [hx] at h3 h5
  rw [hy] at h4 h5
  rw [ha, hd]
  cases b1
  · refine spec_of Try.func129 rfl (by kernel_rfl) (by kernel_rfl) (by kernel_rfl) fun aWrap aAdd aSub aMul aQuo aRem aBits aLt aLe aEq aNz aSeq aSlt aBytes aCat aFits aSlen aSget aSsub aNat aLen aGet aSub2 aApp aSet aRoom aMlook aMput aRep aCall aCalld aCallo aNew aLit aKeep aNext aLoop hA => ?_
    cbv
    repeat (first | (with_reducible apply next_at hA; cbv) | (refine calm_at hA _ h1 ?_; cbv))
    try cbv
    repeat (first | (with_reducible apply next_at hA; cbv) | (refine calm_at hA _ h1 ?_; cbv))
    try simp (maxSteps := 4000000) only [nc] at *
  · cases b2
    · refine spec_of Try.func129 rfl (by kernel_rfl) (by kernel_rfl) (by kernel_rfl) fun aWrap aAdd aSub aMul aQuo aRem aBits aLt aLe aEq aNz aSeq aSlt aBytes aCat aFits aSlen aSget aSsub aNat aLen aGet aSub2 aApp aSet aRoom aMlook aMput aRep aCall aCalld aCallo aNew aLit aKeep aNext aLoop hA => ?_
      cbv
      repeat (first | (with_reducible apply next_at hA; cbv) | (refine calm_at hA _ h1 ?_; cbv) | (refine calm_at hA _ h2 ?_; cbv))
      try cbv
      repeat (first | (with_reducible apply next_at hA; cbv) | (refine calm_at hA _ h1 ?_; cbv) | (refine calm_at hA _ h2 ?_; cbv))
      try simp (maxSteps := 4000000) only [nc] at *
    · replace h3 := h3 rfl
      replace h4 := h4 rfl
      replace h5 := h5 rfl
      refine spec_of Try.func129 rfl (by kernel_rfl) (by kernel_rfl) (by kernel_rfl) fun aWrap aAdd aSub aMul aQuo aRem aBits aLt aLe aEq aNz aSeq aSlt aBytes aCat aFits aSlen aSget aSsub aNat aLen aGet aSub2 aApp aSet aRoom aMlook aMput aRep aCall aCalld aCallo aNew aLit aKeep aNext aLoop hA => ?_
      cbv
      repeat (first | (with_reducible apply next_at hA; cbv) | (refine calm_at hA _ h1 ?_; cbv) | (refine calm_at hA _ h2 ?_; cbv) | (refine calm_at hA _ h3 ?_; cbv) | (refine calm_at hA _ h4 ?_; cbv) | (refine calm_at hA _ h5 ?_; cbv))
      try cbv
      repeat (first | (with_reducible apply next_at hA; cbv) | (refine calm_at hA _ h1 ?_; cbv) | (refine calm_at hA _ h2 ?_; cbv) | (refine calm_at hA _ h3 ?_; cbv) | (refine calm_at hA _ h4 ?_; cbv) | (refine calm_at hA _ h5 ?_; cbv))
      try simp (maxSteps := 4000000) only [nc] at *
theorem Flat_s (t : Ty) (ht : Sm t) (hr : rightB t 114 = true) : SpecO 130 [.ag (ofD (cT t))] [] (fun res os' => res = [.own 0, .ag (ofD (cT (tailS t)))] ∧ os' = [.row false 86 (rF (sortS ltF (fieldsS t)))]) := by
  have h1 := PRow_s t ht.1 ht.2
  rw [hr] at h1
  have h2 := copied_s t ht.1
  have h3 := flat_s t (shape_spineAll (right_shape hr).1).self ht.1
  obtain ⟨Q, hQ⟩ : ∃ Q, Q = rF (sortS ltF (fieldsS t)) := ⟨_, rfl⟩
  rw [← hQ] at h3 ⊢
  obtain ⟨a0, a1, a2, a3, ha⟩ := cT_four t
  obtain ⟨q0, q1, q2, q3, hq⟩ := cT_four (tailS t)
  rw [ha] at h1 h2 h3 ⊢
  rw [hq] at h3 ⊢
  refine speco_of Try.func130 rfl (by kernel_rfl) (by kernel_rfl) (by kernel_rfl) fun aWrap aAdd aSub aMul aQuo aRem aBits aLt aLe aEq aNz aSeq aSlt aBytes aCat aFits aSlen aSget aSsub aNat aLen aGet aSub2 aApp aSet aRoom aMlook aMput aRep aCall aCalld aCallo aNew aLit aKeep aNext aLoop hA => ?_
  cbv
  repeat (first | (with_reducible apply next_at hA; cbv) | (refine call_at hA _ h1 rfl ?_; cbv) | (refine call_at hA _ h2 rfl ?_; cbv) | (refine callo_at hA [] h3 ⟨rfl, rfl, rfl, rfl, rfl, rfl, rfl⟩ ?_; rintro res os2 ⟨rfl, rfl⟩; cbv))
  try cbv
  repeat (first | (with_reducible apply next_at hA; cbv) | (refine call_at hA _ h1 rfl ?_; cbv) | (refine call_at hA _ h2 rfl ?_; cbv) | (refine callo_at hA [] h3 ⟨rfl, rfl, rfl, rfl, rfl, rfl, rfl⟩ ?_; rintro res os2 ⟨rfl, rfl⟩; cbv))
  try simp (maxSteps := 4000000) only [nc] at *
  exact keep_is hA [2] ⟨rfl, rfl, rfl, rfl, rfl, rfl, rfl, rfl⟩ ⟨rfl, rfl⟩
end Go.Proofs.Ytclehkgnacekkaa.Vm
end
section
namespace Go.Proofs.Ytclehkgnacekkaa.Vm
open Go.RowKit
set_option maxRecDepth 100000
set_option maxHeartbeats 4000000
def rI (l : List Int) : List (List D) := l.map fun n => [.sc (.int .i64 n)]
theorem rI_len (l : List Int) : (rI l).length = l.length := by rw [rI, List.length_map]
theorem rI_get {l : List Int} {k : Nat} {x : Int} (h : l[k]? = some x) : (rI l)[k]? = some [.sc (.int .i64 x)] := by rw [rI, List.getElem?_map, h]; rfl
theorem atS_drop {l : List Int} {x y : Int} {k : Nat} (h : l[k]? = some y) : atS (l.drop k) x k = if y = x then (k : Int) else atS (l.drop (k + 1)) x (k + 1) := by
  obtain ⟨hi, e⟩ := List.getElem?_eq_some_iff.1 h
  rw [List.drop_eq_getElem_cons hi, e, atS]
theorem At_s (l : List Int) (x : Int) (hl : l.length ≤ 1048576) : Spec 111 [.one (.sl 1 (rI l)), .one (.sc (.int .i64 x))] [.one (.sc (.int .i64 (atS l x 0)))] := by
  obtain ⟨L, hL⟩ : ∃ L, L = rI l := ⟨_, rfl⟩
  obtain ⟨r, hr⟩ : ∃ r, r = atS l x 0 := ⟨_, rfl⟩
  rw [← hL, ← hr]
  refine spec_of Try.func111 rfl (by kernel_rfl) (by kernel_rfl) (by kernel_rfl) fun aWrap aAdd aSub aMul aQuo aRem aBits aLt aLe aEq aNz aSeq aSlt aBytes aCat aFits aSlen aSget aSsub aNat aLen aGet aSub2 aApp aSet aRoom aMlook aMput aRep aCall aCalld aCallo aNew aLit aKeep aNext aLoop hA => ?_
  cbv
  repeat ((with_reducible apply next_at hA); cbv)
  obtain ⟨e1, e2, e3, e4, e5, e6, e7, e8, e9⟩ := ar_at hA
  obtain ⟨r1, r2, -⟩ := row_at hA
  refine loop_at hA (γ := Int) (fun z => [(5, vi .i64 z)]) (fun z => []) (fun z => ∃ k : Nat, z = (k : Int) ∧ k ≤ l.length ∧ r = atS (l.drop k) x k) (fun z => l.length - z.toNat) 0 ?_ ?_ ?_
  · exact ⟨0, rfl, Nat.zero_le _, hr⟩
  · cbv
  · intro z hinv
    cbv
    repeat ((with_reducible apply next_at hA); cbv)
    obtain ⟨k, hz, hk, hR⟩ := hinv
    replace hz : z = (k : Int) := hz
    have hll : aLen L = ((l.length : Nat) : Int) := by rw [r1, hL, rI_len]
    have hlt : aLt z (aLen L) = decide (k < l.length) := by rw [e7, hll, hz]; exact decide_eq_decide.2 (by omega)
    by_cases h9 : k < l.length
    · rw [decide_eq_true h9] at hlt
      obtain ⟨y, hy⟩ : ∃ y, l[k]? = some y := ⟨_, List.getElem?_eq_getElem h9⟩
      rw [atS_drop hy] at hR
      have gx : aGet L z = some [.sc (.int .i64 y)] := by rw [r2, hz, if_pos (by omega), hL, show ((k : Int)).toNat = k by omega, rI_get hy]
      have heq : aEq y x = decide (y = x) := by rw [e9]; rfl
      have hz1 : aWrap .i64 (aAdd z 1) = ((k + 1 : Nat) : Int) := by rw [e1, e2, hz, IntWalk.i64_in _ (by omega)]; omega
      have hmu : l.length - (aWrap .i64 (aAdd z 1)).toNat < l.length - z.toNat := by rw [hz1, hz]; omega
      by_cases hyx : y = x
      · rw [if_pos hyx] at hR
        rw [decide_eq_true hyx] at heq
        have hzr : z = r := by rw [hz, hR]
        subst hzr
        rw [hlt]
        cbv
        repeat (first | (with_reducible apply next_at hA; cbv) | (rw [gx]; cbv) | (rw [heq]; cbv))
      · rw [if_neg hyx] at hR
        rw [decide_eq_false hyx] at heq
        rw [hlt]
        cbv
        repeat (first | (with_reducible apply next_at hA; cbv) | (rw [gx]; cbv) | (rw [heq]; cbv))
        refine ⟨aWrap .i64 (aAdd z 1), ⟨k + 1, hz1, h9, hR⟩, hmu, ?_⟩
        cbv
    · rw [decide_eq_false h9] at hlt
      rw [List.drop_of_length_le (by omega), atS] at hR
      subst hR
      rw [hlt]
      cbv
      repeat ((with_reducible apply next_at hA); cbv)
theorem atS_ge : ∀ (l : List Int) (x : Int) (k : Nat), 0 ≤ atS l x k ↔ x ∈ l := fun l x k => by
  by_cases h : x ∈ l
  · exact ⟨fun _ => h, fun _ => atS_mem l x k h⟩
  · rw [atS_none l x k h]
    exact ⟨fun e => absurd e (by decide), fun e => absurd e h⟩
theorem In_s (l : List Int) (x : Int) (hl : l.length ≤ 1048576) : Spec 57 [.one (.sl 1 (rI l)), .one (.sc (.int .i64 x))] [.one (.sc (.bool (decide (x ∈ l))))] := by
  have h1 := At_s l x hl
  have h2 : decide (0 ≤ atS l x 0) = decide (x ∈ l) := decide_eq_decide.2 (atS_ge l x 0)
  generalize decide (x ∈ l) = b at *
  generalize rI l = L at *
  generalize atS l x 0 = r at *
  refine spec_of Try.func57 rfl (by kernel_rfl) (by kernel_rfl) (by kernel_rfl) fun aWrap aAdd aSub aMul aQuo aRem aBits aLt aLe aEq aNz aSeq aSlt aBytes aCat aFits aSlen aSget aSsub aNat aLen aGet aSub2 aApp aSet aRoom aMlook aMput aRep aCall aCalld aCallo aNew aLit aKeep aNext aLoop hA => ?_
  have h8 : aLe 0 r = b := by have e := ar_at hA; rw [e.2.2.2.2.2.2.2.1, h2]
  cbv
  repeat (first | (with_reducible apply next_at hA; cbv) | (refine call_at hA _ h1 rfl ?_; cbv) | (rw [h8]; cbv))
end Go.Proofs.Ytclehkgnacekkaa.Vm
end
section
namespace Go.Proofs.Ytclehkgnacekkaa.Vm
open Go.RowKit
set_option maxRecDepth 100000
set_option maxHeartbeats 4000000
theorem rI_snoc (l : List Int) (x : Int) : rI (l ++ [x]) = rI l ++ [[.sc (.int .i64 x)]] := by unfold rI; rw [List.map_append]; rfl
def nmI (v i : Bool) (x y : List Int) : List Int := match v with | true => (match i with | true => y | false => x) | false => y
theorem Vars_s (t : Ty) (ht : t.parts.length ≤ 1048576) (hst : ∀ x ∈ t.parts, Spine x) : Spec 25 [.ag (cT t)] [.one (.sl 1 (rI (varsS t)))] := by
  have hp := canon_len _ t (Nat.le_refl _) hst
  have h1 := canon_s _ t (Nat.le_refl _) ht hst
  have h2 := Parts_s (canonS t) (by omega)
  have hv : varsS t = varsL (canonS t).parts [] := rfl
  obtain ⟨a0, a1, a2, a3, ha⟩ := cT_four t
  obtain ⟨c0, c1, c2, c3, hc⟩ := cT_four (canonS t)
  rw [ha, hc] at h1
  rw [hc] at h2
  rw [ha]
  generalize (canonS t).parts = ps at *
  obtain ⟨P, hP⟩ : ∃ P, P = rT ps := ⟨_, rfl⟩
  obtain ⟨Q, hQ⟩ : ∃ Q, Q = rI (varsS t) := ⟨_, rfl⟩
  rw [← hP] at h2
  rw [← hQ]
  have hps : ps.length ≤ 1048576 := by omega
  refine spec_of Try.func25 rfl (by kernel_rfl) (by kernel_rfl) (by kernel_rfl) fun aWrap aAdd aSub aMul aQuo aRem aBits aLt aLe aEq aNz aSeq aSlt aBytes aCat aFits aSlen aSget aSsub aNat aLen aGet aSub2 aApp aSet aRoom aMlook aMput aRep aCall aCalld aCallo aNew aLit aKeep aNext aLoop hA => ?_
  cbv
  repeat (first | (refine own_at hA 3 3 true rfl ?_; cbv) | (with_reducible apply next_at hA; cbv) | (refine call_at hA _ h1 rfl ?_; cbv) | (refine call_at hA _ h2 rfl ?_; cbv))
  obtain ⟨e1, e2, e3, e4, e5, e6, e7, e8, e9⟩ := ar_at hA
  obtain ⟨r1, r2, r3, r4⟩ := row_at hA
  refine loop_at hA (γ := Int × List (List D)) (fun x => [(5, vi .i64 x.1), (3, .own 1)]) (fun x => [(1, .row true 3 x.2)]) (fun x => ∃ k : Nat, x.1 = (k : Int) ∧ k ≤ ps.length ∧ x.2 = rI (varsL (ps.take k) [])) (fun x => ps.length - x.1.toNat) (0, []) ?_ ?_ ?_
  · exact ⟨0, rfl, Nat.zero_le _, rfl⟩
  · cbv
  · intro x hinv
    obtain ⟨z, M⟩ := x
    cbv
    repeat ((with_reducible apply next_at hA); cbv)
    obtain ⟨k, hz, hk, hM⟩ := hinv
    replace hz : z = (k : Int) := hz
    replace hM : M = rI (varsL (ps.take k) []) := hM
    have hll : aLen P = ((ps.length : Nat) : Int) := by rw [r1, hP, rT_len]
    have hlt : aLt z (aLen P) = decide (k < ps.length) := by rw [e7, hll, hz]; exact decide_eq_decide.2 (by omega)
    by_cases h9 : k < ps.length
    · rw [decide_eq_true h9] at hlt
      obtain ⟨x, hx⟩ : ∃ x, ps[k]? = some x := ⟨_, List.getElem?_eq_getElem h9⟩
      have hal := varsL_len (ps.take k) []
      rw [List.length_take, List.length_nil] at hal
      have hsn := varsL_snoc (ps.take k) [] x
      rw [show ps.take k ++ [x] = ps.take (k + 1) by rw [List.take_add_one, hx]; rfl] at hsn
      obtain ⟨op, nm, n, ks⟩ := x
      have gx : aGet P z = some [.sc (.int .u8 op), .sc (.string nm), .sc (.int .i64 n), .sl 4 (rT ks)] := by rw [r2, hz, if_pos (by omega), hP, show ((k : Int)).toNat = k by omega, rT_get hx, cT]
      generalize rT ks = K1 at *
      generalize varsL (ps.take k) [] = acc at *
      have h3 := In_s acc n (by omega)
      rw [← hM] at h3
      have hz1 : aWrap .i64 (aAdd z 1) = ((k + 1 : Nat) : Int) := by rw [e1, e2, hz, IntWalk.i64_in _ (by omega)]; omega
      have hmu : ps.length - (aWrap .i64 (aAdd z 1)).toNat < ps.length - z.toNat := by rw [hz1, hz]; omega
      have hMl : M.length ≤ 1048576 := by rw [hM, rI_len]; omega
      have hadd : aApp M [[.sc (.int .i64 n)]] = rI (acc ++ [n]) := by rw [r4, rI_snoc, hM]
      have q7 : aEq op 7 = (op == 7) := e9 _ _
      have q10 : aEq op 10 = (op == 10) := e9 _ _
      have hiv : isVar (Ty.mk op nm n ks) = ((op == 7) || (op == 10)) := rfl
      rw [hiv, show (Ty.mk op nm n ks).n = n from rfl] at hsn
      have hsn2 : varsL (ps.take (k + 1)) [] = nmI ((op == 7) || (op == 10)) (decide (n ∈ acc)) (acc ++ [n]) acc := by rw [hsn]; cases ((op == 7) || (op == 10)) <;> by_cases hn : n ∈ acc <;> simp [nmI, hn]
      clear hsn hiv
      rw [hlt]
      generalize (op == 7) = b7 at *
      generalize (op == 10) = b10 at *
      generalize decide (n ∈ acc) = bi at *
      cases b7 <;> cases b10 <;> cases bi
      all_goals
        cbv
        repeat (first | (with_reducible apply next_at hA; cbv) | (rw [gx]; cbv) | (rw [q7]; cbv) | (rw [q10]; cbv) | (refine call_at hA _ h3 rfl ?_; cbv) | (refine lit_at hA true ?_; cbv) | (refine room_at hA (by simp only [List.length_cons, List.length_nil]; omega) ?_; cbv))
        first
        | (refine ⟨(aWrap .i64 (aAdd z 1), M), ⟨k + 1, hz1, h9, by rw [hsn2]; exact hM⟩, hmu, ?_⟩; cbv; done)
        | (refine ⟨(aWrap .i64 (aAdd z 1), aApp M [[.sc (.int .i64 n)]]), ⟨k + 1, hz1, h9, by rw [hsn2]; exact hadd⟩, hmu, ?_⟩; cbv)
    · rw [decide_eq_false h9] at hlt
      have hM2 : M = Q := by rw [hM, List.take_of_length_le (by omega), hQ, hv]
      rw [hlt]
      cbv
      repeat ((with_reducible apply next_at hA); cbv)
      exact ⟨by rw [hM2], trivial⟩
end Go.Proofs.Ytclehkgnacekkaa.Vm
end
section
namespace Go.Proofs.Ytclehkgnacekkaa.Vm
open Go.RowKit
set_option maxRecDepth 100000
set_option maxHeartbeats 4000000
def vO (es : List (R × R)) (L : List (List D)) : List O := [.box [.mp 2], .box [.own 3], .mp 3 es, .row true 3 L]
def addI (acc : List Int) (x : Ty) : List Int := if isVar x = true ∧ x.n ∉ acc then acc ++ [x.n] else acc
def metS (acc : List Int) : Int → Option Bool := fun n => if n ∈ acc then some true else none
theorem SAt.add {es : List (R × R)} {acc : List Int} (h : SAt es (metS acc)) (n : Int) : SAt (mset es (ik n) (.one (.sc (.bool true)))) (metS (acc ++ [n])) := by
  have h2 := h.set n true
  have e : updS (metS acc) n true = metS (acc ++ [n]) := by
    funext x
    unfold updS metS
    by_cases hx : x = n
    · subst hx; simp
    · simp [hx]
  rw [e] at h2
  exact h2
theorem vars1_s (x : Ty) (acc : List Int) (es : List (R × R)) (hes : SAt es (metS acc)) (hacc : acc.length ≤ 1048576) :
    SpecO 99 [.ag (ofD (cT x)), .ptr 0 0, .ptr 1 0] (vO es (rI acc)) (fun res os => res = [] ∧ ∃ es', SAt es' (metS (addI acc x)) ∧ os = vO es' (rI (addI acc x))) := by
  obtain ⟨op, nm, n, ks⟩ := x
  have hlk := hes.2 n
  have hmem : (metS acc n).map (fun b => R.one (.sc (.bool b))) = if n ∈ acc then some (R.one (.sc (.bool true))) else none := by unfold metS; by_cases h : n ∈ acc <;> simp [h]
  rw [hmem] at hlk
  have hset := hes.add n
  have hadd : addI acc (.mk op nm n ks) = if ((op == 7) || (op == 10)) = true ∧ n ∉ acc then acc ++ [n] else acc := rfl
  rw [hadd]
  have hsnoc := rI_snoc acc n
  obtain ⟨Q, hQ⟩ : ∃ Q : List V → List O → Prop, Q = (fun res os => res = [] ∧ ∃ es', SAt es' (metS (if ((op == 7) || (op == 10)) = true ∧ n ∉ acc then acc ++ [n] else acc)) ∧ os = vO es' (rI (if ((op == 7) || (op == 10)) = true ∧ n ∉ acc then acc ++ [n] else acc))) := ⟨_, rfl⟩
  rw [← hQ]
  have hQ1 : ((op == 7) || (op == 10)) = true → n ∉ acc → Q [] (vO (mset es (ik n) (.one (.sc (.bool true)))) (rI (acc ++ [n]))) := fun h1 h2 => by
    rw [hQ]
    refine ⟨rfl, mset es (ik n) (.one (.sc (.bool true))), ?_, ?_⟩
    · rw [if_pos ⟨h1, h2⟩]; exact hset
    · rw [if_pos ⟨h1, h2⟩]
  have hQ2 : ((op == 7) || (op == 10)) = false ∨ n ∈ acc → Q [] (vO es (rI acc)) := fun h => by
    have hn : ¬ (((op == 7) || (op == 10)) = true ∧ n ∉ acc) := by
      rintro ⟨h1, h2⟩
      rcases h with h | h
      · rw [h] at h1; cases h1
      · exact h2 h
    rw [hQ]
    refine ⟨rfl, es, ?_, ?_⟩
    · rw [if_neg hn]; exact hes
    · rw [if_neg hn]
  clear hQ hset hmem hadd hes
  obtain ⟨M, hM⟩ : ∃ M, M = rI acc := ⟨_, rfl⟩
  obtain ⟨es2, he2⟩ : ∃ e, e = mset es (ik n) (.one (.sc (.bool true))) := ⟨_, rfl⟩
  have hMl : M.length ≤ 1048576 := by rw [hM, rI_len]; exact hacc
  rw [← hM] at hQ2 ⊢
  rw [hsnoc, ← hM, ← he2] at hQ1
  clear hsnoc
  rw [cT]
  obtain ⟨K, hK⟩ : ∃ K, K = rT ks := ⟨_, rfl⟩
  rw [← hK]
  unfold vO at hQ1 hQ2 ⊢
  unfold ik at hlk he2
  refine speco_of Try.func99 rfl (by kernel_rfl) (by kernel_rfl) (by kernel_rfl) fun aWrap aAdd aSub aMul aQuo aRem aBits aLt aLe aEq aNz aSeq aSlt aBytes aCat aFits aSlen aSget aSsub aNat aLen aGet aSub2 aApp aSet aRoom aMlook aMput aRep aCall aCalld aCallo aNew aLit aKeep aNext aLoop hA => ?_
  cbv
  repeat ((with_reducible apply next_at hA); cbv)
  obtain ⟨e1, e2, e3, e4, e5, e6, e7, e8, e9⟩ := ar_at hA
  obtain ⟨r1, r2, r3, r4⟩ := row_at hA
  obtain ⟨m1, m2, -⟩ := map_at hA
  have q7 : aEq op 7 = (op == 7) := e9 _ _
  have q10 : aEq op 10 = (op == 10) := e9 _ _
  have hl : aMlook es (.one (.sc (.int .i64 n))) = if n ∈ acc then some (R.one (.sc (.bool true))) else none := by rw [m1]; exact hlk
  have hp : aMput es (.one (.sc (.int .i64 n))) (.one (.sc (.bool true))) = es2 := by rw [m2, he2]
  have ha : aApp M [[.sc (.int .i64 n)]] = M ++ [[.sc (.int .i64 n)]] := r4 _ _
  generalize (op == 7) = b7 at *
  generalize (op == 10) = b10 at *
  by_cases hm : n ∈ acc
  · rw [if_pos hm] at hl
    replace hQ2 := hQ2 (.inr hm)
    cases b7 <;> cases b10
    all_goals
      cbv
      repeat (first | (with_reducible apply next_at hA; cbv) | (rw [q7]; cbv) | (rw [q10]; cbv) | (rw [hl]; cbv))
      try cbv
      repeat (first | (with_reducible apply next_at hA; cbv) | (rw [q7]; cbv) | (rw [q10]; cbv) | (rw [hl]; cbv))
      try simp (maxSteps := 4000000) only [nc] at *
      exact keep_is hA [0, 1, 2, 3] ⟨rfl, rfl, rfl, rfl, rfl, rfl, rfl, rfl⟩ hQ2
  · rw [if_neg hm] at hl
    cases b7 <;> cases b10
    · replace hQ2 := hQ2 (.inl rfl)
      cbv
      repeat (first | (with_reducible apply next_at hA; cbv) | (rw [q7]; cbv) | (rw [q10]; cbv) | (rw [hl]; cbv))
      try cbv
      repeat (first | (with_reducible apply next_at hA; cbv) | (rw [q7]; cbv) | (rw [q10]; cbv) | (rw [hl]; cbv))
      try simp (maxSteps := 4000000) only [nc] at *
      exact keep_is hA [0, 1, 2, 3] ⟨rfl, rfl, rfl, rfl, rfl, rfl, rfl, rfl⟩ hQ2
    all_goals
      replace hQ1 := hQ1 rfl hm
      rw [← ha] at hQ1
      cbv
      repeat (first | (with_reducible apply next_at hA; cbv) | (rw [q7]; cbv) | (rw [q10]; cbv) | (rw [hl]; cbv) | (rw [hp]; cbv) | (refine lit_at hA true ?_; cbv) | (refine room_at hA (by simp only [List.length_cons, List.length_nil]; omega) ?_; cbv))
      try cbv
      repeat (first | (with_reducible apply next_at hA; cbv) | (rw [q7]; cbv) | (rw [q10]; cbv) | (rw [hl]; cbv) | (rw [hp]; cbv) | (refine lit_at hA true ?_; cbv) | (refine room_at hA (by simp only [List.length_cons, List.length_nil]; omega) ?_; cbv))
      try simp (maxSteps := 4000000) only [nc] at *
      exact keep_is hA [0, 1, 2, 3] ⟨rfl, rfl, rfl, rfl, rfl, rfl, rfl, rfl⟩ hQ1
theorem varsL_append : ∀ (a b : List Ty) (acc : List Int), varsL (a ++ b) acc = varsL b (varsL a acc)
  | [], b, acc => rfl
  | x :: a, b, acc => by rw [List.cons_append, varsL, varsL]; exact varsL_append a b _
theorem partsL_take {ks : List Ty} {k : Nat} {x : Ty} (h : ks[k]? = some x) : partsL (ks.take (k + 1)) = partsL (ks.take k) ++ x.parts := by
  rw [partsL_flat, partsL_flat, (partsL_snoc ks k x h).2]
theorem each_s : ∀ (t : Ty) (acc : List Int) (es : List (R × R)), SAt es (metS acc) → acc.length + t.parts.length ≤ 1048576 →
    SpecO 98 [.ag (ofD (cT t)), .cl 99 [0, 1]] (vO es (rI acc)) (fun res os => res = [] ∧ ∃ es', SAt es' (metS (varsL t.parts acc)) ∧ os = vO es' (rI (varsL t.parts acc))) := by
  intro t
  induction t using Ty.ind with
  | h t ih =>
    intro acc es hes hN
    have hcl := vars1_s t acc es hes (by omega)
    have hkl := kids_le t
    have hpe : t.parts = t :: partsL t.kids := parts_eq t
    have hpl : t.parts.length = 1 + (partsL t.kids).length := by rw [hpe, List.length_cons]; omega
    have hvl : varsL t.parts acc = varsL (partsL t.kids) (addI acc t) := by rw [hpe, varsL]; rfl
    have hal : (addI acc t).length ≤ acc.length + 1 := by unfold addI; split <;> simp
    rw [hvl]
    obtain ⟨Q, hQ⟩ : ∃ Q : List V → List O → Prop, Q = (fun res os => res = [] ∧ ∃ es', SAt es' (metS (varsL (partsL t.kids) (addI acc t))) ∧ os = vO es' (rI (varsL (partsL t.kids) (addI acc t)))) := ⟨_, rfl⟩
    rw [← hQ]
    have hQ1 : ∀ es', SAt es' (metS (varsL (partsL t.kids) (addI acc t))) → Q [] (vO es' (rI (varsL (partsL t.kids) (addI acc t)))) := fun es' h => by rw [hQ]; exact ⟨rfl, es', h, rfl⟩
    clear hQ hvl hpe
    generalize addI acc t = ac1 at *
    obtain ⟨op, nm, n, ks⟩ := t
    simp only [Ty.kids] at hkl ih hpl hQ1
    have hxp : ∀ k, k ≤ ks.length → (partsL (ks.take k)).length ≤ (partsL ks).length := fun k _ => by
      conv => rhs; rw [← List.take_append_drop k ks]
      rw [partsL_flat, partsL_flat, List.flatMap_append, List.length_append]
      omega
    rw [cT] at hcl ⊢
    obtain ⟨K, hK⟩ : ∃ K, K = rT ks := ⟨_, rfl⟩
    rw [← hK] at hcl ⊢
    obtain ⟨M, hM⟩ : ∃ M, M = rI acc := ⟨_, rfl⟩
    rw [← hM] at hcl ⊢
    unfold vO at hcl hQ1 ⊢
    refine speco_of Try.func98 rfl (by kernel_rfl) (by kernel_rfl) (by kernel_rfl) fun aWrap aAdd aSub aMul aQuo aRem aBits aLt aLe aEq aNz aSeq aSlt aBytes aCat aFits aSlen aSget aSsub aNat aLen aGet aSub2 aApp aSet aRoom aMlook aMput aRep aCall aCalld aCallo aNew aLit aKeep aNext aLoop hA => ?_
    cbv
    repeat ((with_reducible apply next_at hA); cbv)
    obtain ⟨e1, e2, e3, e4, e5, e6, e7, e8, e9⟩ := ar_at hA
    obtain ⟨r1, r2, r3, r4⟩ := row_at hA
    refine callo_at hA [0, 1, 2, 3] hcl ⟨rfl, rfl, rfl, rfl, rfl, rfl, rfl⟩ ?_
    rintro res os2 ⟨rfl, es1, hes1, rfl⟩
    obtain ⟨M1, hM1⟩ : ∃ M, M = rI ac1 := ⟨_, rfl⟩
    rw [← hM1]
    cbv
    repeat ((with_reducible apply next_at hA); cbv)
    refine loop_at hA (γ := Int × List (R × R) × List (List D)) (fun x => [(12, vi .i64 x.1)]) (fun x => [(2, .mp 3 x.2.1), (3, .row true 3 x.2.2)])
      (fun x => ∃ k : Nat, x.1 = (k : Int) ∧ k ≤ ks.length ∧ SAt x.2.1 (metS (varsL (partsL (ks.take k)) ac1)) ∧ x.2.2 = rI (varsL (partsL (ks.take k)) ac1)) (fun x => ks.length - x.1.toNat) (0, es1, M1) ?_ ?_ ?_
    · exact ⟨0, rfl, Nat.zero_le _, by rw [List.take_zero, partsL, varsL]; exact hes1, by rw [List.take_zero, partsL, varsL]; exact hM1⟩
    · cbv
    · intro x hinv
      obtain ⟨z, es2, M2⟩ := x
      cbv
      repeat ((with_reducible apply next_at hA); cbv)
      try simp (maxSteps := 4000000) only [nc] at *
      obtain ⟨k, hz, hk, hes2, hM2⟩ := hinv
      have hlen : aLen K = (ks.length : Int) := by rw [r1, hK, rT_len]
      have hlt : aLt z (aLen K) = decide (k < ks.length) := by rw [e7, hlen, hz]; exact decide_eq_decide.2 (by omega)
      by_cases h9 : k < ks.length
      · rw [decide_eq_true h9] at hlt
        obtain ⟨x, hx⟩ : ∃ x, ks[k]? = some x := ⟨_, List.getElem?_eq_getElem h9⟩
        have hvl2 := varsL_len (partsL (ks.take k)) ac1
        have hx1 := hxp (k + 1) (by omega)
        rw [partsL_take hx, List.length_append] at hx1
        have hstep : varsL (partsL (ks.take (k + 1))) ac1 = varsL x.parts (varsL (partsL (ks.take k)) ac1) := by rw [partsL_take hx, varsL_append]
        have hsp := ih x (List.mem_of_getElem? hx) _ es2 hes2 (by omega)
        rw [← hM2, ← hstep] at hsp
        obtain ⟨M3, hM3⟩ : ∃ M, M = rI (varsL (partsL (ks.take (k + 1))) ac1) := ⟨_, rfl⟩
        rw [← hM3] at hsp
        obtain ⟨x0, x1, x2, x3, hxx⟩ := cT_four x
        have g1 : aGet K z = some [x0, x1, x2, x3] := by rw [r2, hz, if_pos (by omega), hK, Int.toNat_natCast, rT_get hx, hxx]
        have hz1 : aWrap .i64 (aAdd z 1) = ((k + 1 : Nat) : Int) := by rw [e1, e2, hz, IntWalk.i64_in _ (by omega)]; omega
        have hmu : ks.length - (aWrap .i64 (aAdd z 1)).toNat < ks.length - z.toNat := by rw [hz1, hz]; omega
        rw [hxx] at hsp
        unfold vO at hsp
        rw [hlt]
        cbv
        repeat (first | (with_reducible apply next_at hA; cbv) | (rw [g1]; cbv))
        refine callo_at hA [0, 1, 2, 3] hsp ⟨rfl, rfl, rfl, rfl, rfl, rfl, rfl⟩ ?_
        rintro res os2 ⟨rfl, es3, hes3, rfl⟩
        cbv
        repeat ((with_reducible apply next_at hA); cbv)
        refine ⟨(aWrap .i64 (aAdd z 1), es3, M3), ⟨k + 1, hz1, h9, hes3, hM3⟩, hmu, ?_⟩
        cbv
      · rw [decide_eq_false h9] at hlt
        rw [hlt]
        rw [List.take_of_length_le (by omega)] at hes2 hM2
        replace hQ1 := hQ1 es2 hes2
        rw [← hM2] at hQ1
        cbv
        repeat ((with_reducible apply next_at hA); cbv)
        exact keep_is hA [0, 1, 2, 3] ⟨rfl, rfl, rfl, rfl, rfl, rfl, rfl, rfl⟩ hQ1
theorem Spec.one0 {f : Nat} {rs : List R} {n : Nat} (m : Nat) (h : Spec f rs [.one (.sl n [])]) : Spec f rs [.one (.sl m [])] := h.mono fun I w v hv => AtD.empty m hv
theorem PVars_s (t : Ty) (ht : Sm t) : Spec 45 [.ag (cT t)] [.one (.sl 1 (rI (if eitherT t = true then varsS t else [])))] := by
  have h1 := either_s t ht.1 ht.2
  have hb : (rightB t 116 || rightB t 114) = eitherT t := rfl
  rw [hb] at h1
  by_cases he : eitherT t = true
  · rw [if_pos he]
    have h2 := canonP_s _ t (Nat.le_refl _) ht.1 (either_spine he)
    have h3 := each_s (canonS t) [] [] ⟨SAt.nil.1, fun n => by rw [SAt.nil.2]; rfl⟩ (by rw [canon_len _ t (Nat.le_refl _) (either_spine he)]; simpa using ht.1)
    rw [show varsL (canonS t).parts [] = varsS t from rfl] at h3
    rw [he] at h1
    obtain ⟨L, hL⟩ : ∃ L, L = rI (varsS t) := ⟨_, rfl⟩
    rw [← hL] at h3 ⊢
    obtain ⟨a0, a1, a2, a3, ha⟩ := cT_four t
    obtain ⟨c0, c1, c2, c3, hc⟩ := cT_four (canonS t)
    rw [ha] at h1 h2 ⊢
    rw [hc] at h2 h3
    unfold vO at h3
    refine spec_of Try.func45 rfl (by kernel_rfl) (by kernel_rfl) (by kernel_rfl) fun aWrap aAdd aSub aMul aQuo aRem aBits aLt aLe aEq aNz aSeq aSlt aBytes aCat aFits aSlen aSget aSsub aNat aLen aGet aSub2 aApp aSet aRoom aMlook aMput aRep aCall aCalld aCallo aNew aLit aKeep aNext aLoop hA => ?_
    cbv
    repeat (first | (refine call_at hA _ h1 rfl ?_; cbv) | (refine ownbox_at hA 1 0 3 true rfl rfl ?_; cbv) | (refine call_at hA _ h2 rfl ?_; cbv) | (with_reducible apply next_at hA; cbv))
    refine callo_at hA [4, 1, 3, 2] h3 ⟨rfl, rfl, rfl, rfl, rfl, rfl, rfl⟩ ?_
    rintro res os2 ⟨rfl, es3, hes3, rfl⟩
    cbv
    repeat ((with_reducible apply next_at hA); cbv)
  · have he : eitherT t = false := by simpa using he
    rw [he, if_neg (by simp)]
    rw [he] at h1
    obtain ⟨a0, a1, a2, a3, ha⟩ := cT_four t
    rw [ha] at h1 ⊢
    refine Spec.one0 (n := 0) 1 ?_
    refine spec_of Try.func45 rfl (by kernel_rfl) (by kernel_rfl) (by kernel_rfl) fun aWrap aAdd aSub aMul aQuo aRem aBits aLt aLe aEq aNz aSeq aSlt aBytes aCat aFits aSlen aSget aSsub aNat aLen aGet aSub2 aApp aSet aRoom aMlook aMput aRep aCall aCalld aCallo aNew aLit aKeep aNext aLoop hA => ?_
    cbv
    repeat (first | (with_reducible apply next_at hA; cbv) | (refine call_at hA _ h1 rfl ?_; cbv))
    try cbv
    repeat (first | (with_reducible apply next_at hA; cbv) | (refine call_at hA _ h1 rfl ?_; cbv))
    try simp (maxSteps := 4000000) only [nc] at *
end Go.Proofs.Ytclehkgnacekkaa.Vm
end
section
namespace Go.Proofs.Ytclehkgnacekkaa.Vm
open Go.RowKit
set_option maxRecDepth 100000
set_option maxHeartbeats 4000000
theorem shape_part {W : ByteArray → Bool} {t : Ty} : ∀ {s : Int}, shapeB W t s = true → ∀ x ∈ t.parts, ∃ c, shapeB W x c = true := by
  induction t using Ty.ind with
  | h t ih =>
    intro s h x hx
    rw [parts_kids] at hx
    rcases List.mem_cons.1 hx with rfl | hx
    · exact ⟨s, h⟩
    · obtain ⟨y, hy, hxy⟩ := List.mem_flatMap.1 hx
      obtain ⟨k, hk, h1, h2, h3, h4, h5, h6⟩ := shape_parts h
      obtain ⟨c, hc⟩ := shapes_mem W _ _ h6 y hy
      exact ih y hy hc x hxy
theorem word_size {nm : ByteArray} (h : wordB nm = true) : nm.size ≤ 32 := by
  unfold wordB at h
  rw [Bool.and_eq_true] at h
  exact of_decide_eq_true h.1
theorem shape_name {t : Ty} {s : Int} (h : shapeB wordB t s = true) : t.name.size ≤ 32 := by
  obtain ⟨k, hk, h1, h2, h3, -⟩ := shape_parts h
  split at h3
  · exact word_size h3
  · have h4 : t.name.toList = [] := of_decide_eq_true h3
    have h5 : t.name.data.toList = [] := by rw [← ByteArray.toList_eq]; exact h4
    have h6 : t.name.size = t.name.data.toList.length := by rw [Array.length_toList]; rfl
    rw [h6, h5]
    simp
theorem sm_of {t : Ty} {s : Int} (h : shapeB wordB t s = true) (hN : t.parts.length ≤ 1048576) : Sm t := ⟨hN, fun x hx => by
  obtain ⟨c, hc⟩ := shape_part h x hx
  have := shape_name hc
  omega⟩
theorem once_sub {t u : Ty} (h : onceB t = true) (hu : ∀ x ∈ u.parts, x ∈ t.parts ∨ x.op = 11) : onceB u = true := by
  refine once_yes fun x hx y hy => ?_
  cases hc : clashB x y with
  | false => rfl
  | true =>
    have hc' := hc
    unfold clashB at hc'
    simp only [Bool.and_eq_true, beq_iff_eq] at hc'
    have h1 := (hu x hx).resolve_right (by omega)
    have h2 := (hu y hy).resolve_right (by omega)
    rw [once_no h1 h2 hc] at h
    cases h
def Ok1 (s : Int) (t : Ty) : Prop := rightB t s = true ∧ Cn t ∧ t.parts.length ≤ 1048576
theorem Ok1.sm {t : Ty} {s : Int} (h : Ok1 s t) : Sm t := sm_of (right_shape h.1).1 h.2.2
theorem Ok1.shape {t : Ty} {s : Int} (h : Ok1 s t) : shapeB wordB t s = true := (right_shape h.1).1
theorem Ok1.part {t x : Ty} {s c : Int} (h : Ok1 s t) (hx : x ∈ t.parts) (hc : Cn x) (hs : shapeB wordB x c = true) : Ok1 c x := by
  refine ⟨?_, hc, Nat.le_trans (part_len hx) h.2.2⟩
  unfold rightB
  rw [hs, once_sub (right_shape h.1).2 fun y hy => .inl (parts_trans hy hx)]
  rfl
theorem kid_part {t x : Ty} (h : x ∈ t.kids) : x ∈ t.parts := by
  rw [parts_kids]
  exact List.mem_cons_of_mem _ (List.mem_flatMap.2 ⟨x, h, by rw [parts_eq]; exact List.mem_cons_self ..⟩)
theorem Ok1.field {t : Ty} (h : Ok1 114 t) {f : ByteArray × Ty} (hf : f ∈ fieldsS t) : Ok1 116 f.2 :=
  h.part (fields_mem _ t (Nat.le_refl _) f hf) ((cn_fields h.shape h.2.1).2 f hf) ((fields_shape h.shape).1 f hf).2
theorem rowS_part {tl : Ty} : ∀ {fs : List (ByteArray × Ty)} {x : Ty}, x ∈ (rowS fs tl).parts → x.op = 11 ∨ (∃ f ∈ fs, x ∈ f.2.parts) ∨ x ∈ tl.parts
  | [], x, h => .inr (.inr h)
  | f :: fs, x, h => by
    rw [rowS_op_ne, parts_kids] at h
    rcases List.mem_cons.1 h with rfl | h
    · exact .inl rfl
    · simp only [Ty.kids, List.flatMap_cons, List.flatMap_nil, List.append_nil, List.mem_append] at h
      rcases h with h | h
      · exact .inr (.inl ⟨f, List.mem_cons_self .., h⟩)
      · rcases rowS_part h with h | ⟨g, hg, h⟩ | h
        · exact .inl h
        · exact .inr (.inl ⟨g, List.mem_cons_of_mem _ hg, h⟩)
        · exact .inr (.inr h)
theorem map_cF_self {l : List (ByteArray × Ty)} (h : ∀ f ∈ l, Cn f.2) : l.map cF = l := by
  conv => rhs; rw [← List.map_id l]
  refine List.map_congr_left fun f hf => ?_
  show (f.1, canonS f.2) = f
  rw [h f hf]
theorem sub_parts {l m : List (ByteArray × Ty)} (h : l.Sublist m) : fldParts l ≤ fldParts m := by
  induction h with
  | slnil => exact Nat.le_refl _
  | cons a _ ih => simp only [fldParts, List.map_cons, List.sum_cons] at ih ⊢; omega
  | cons_cons a _ ih => simp only [fldParts, List.map_cons, List.sum_cons] at ih ⊢; omega
theorem Ok1.rest {t : Ty} (h : Ok1 114 t) {left : List (ByteArray × Ty)} (hl : left.Sublist (fieldsS t)) : Ok1 114 (rowS left (tailS t)) := by
  have hte := tail_end h.shape
  have hcf := cn_fields h.shape h.2.1
  have hsp := (shape_spineAll h.shape).self
  have hsh : shapeB wordB (rowS left (tailS t)) 114 = true := rowS_shape (fields_shape h.shape).2 fun f hf => (fields_shape h.shape).1 f (hl.subset hf)
  refine ⟨?_, ?_, ?_⟩
  · unfold rightB
    rw [hsh, once_sub (right_shape h.1).2 fun y hy => ?_]
    · rfl
    · rcases rowS_part hy with h1 | ⟨f, hf, h1⟩ | h1
      · exact .inr h1
      · exact .inl (parts_trans h1 (fields_mem _ t (Nat.le_refl _) f (hl.subset hf)))
      · exact .inl (parts_trans h1 (tail_mem hsp))
  · show canonS _ = _
    rw [canon_rowS (hcf.1.sublist hl) hte.1 hte.2.1, map_cF_self fun f hf => hcf.2 f (hl.subset hf)]
  · rw [rowS_parts]
    have h1 := spine_parts _ t (Nat.le_refl _) hsp
    have h2 : fldParts left ≤ fldParts (fieldsS t) := by
      exact sub_parts hl
    have := h.2.2
    omega
def esT (c : List (Int × Ty)) : List (R × R) := c.map fun p => (ik p.1, R.ag (cT p.2))
theorem esT_get (n : Int) : ∀ c : List (Int × Ty), mget (esT c) (ik n) = (c.find? fun p => p.1 == n).map fun p => R.ag (cT p.2)
  | [] => rfl
  | p :: c => by
    show (match rEq (ik p.1) (ik n) with | true => _ | false => mget (esT c) (ik n)) = _
    rw [rEq_ik, esT_get n c]
    cases h : p.1 == n with
    | true => rw [List.find?_cons_of_pos (by exact h)]; rfl
    | false => rw [List.find?_cons_of_neg (by simp [h])]
theorem esT_set (n : Int) (x : Ty) : ∀ c : List (Int × Ty), (c.find? fun p => p.1 == n) = none → mset (esT c) (ik n) (.ag (cT x)) = esT (c ++ [(n, x)])
  | [], _ => rfl
  | p :: c, h => by
    rw [List.find?_cons] at h
    split at h
    · cases h
    · rename_i hp
      have hp : (p.1 == n) = false := by simpa using hp
      show (match rEq (ik p.1) (ik n) with | true => _ | false => (ik p.1, R.ag (cT p.2)) :: mset (esT c) (ik n) (.ag (cT x))) = _
      rw [rEq_ik, hp, esT_set n x c h]
      rfl
def CB (c : List (Int × Ty)) : Prop := ∀ p ∈ c, Ok1 116 p.2 ∨ Ok1 114 p.2
def BindQ (o : Option (List (Int × Ty))) (res : List V) (os : List O) : Prop := (∃ c', o = some c' ∧ res = [vb true] ∧ os = [.mp 3 (esT c')]) ∨ (o = none ∧ res = [vb false] ∧ ∃ es', os = [.mp 3 es'])
theorem ok_same {x y : Ty} (hx : Ok1 116 x ∨ Ok1 114 x) (hy : Ok1 116 y ∨ Ok1 114 y) : sameB x y = alikeB x y ∧ Sm x ∧ Sm y := by
  have key : ∀ {z : Ty}, Ok1 116 z ∨ Ok1 114 z → eitherT z = true ∧ canonS z = z ∧ Sm z := fun {z} h => by
    rcases h with h | h
    · exact ⟨by unfold eitherT; rw [h.1]; rfl, h.2.1, h.sm⟩
    · exact ⟨by unfold eitherT; rw [h.1, Bool.or_true], h.2.1, h.sm⟩
  obtain ⟨a1, a2, a3⟩ := key hx
  obtain ⟨b1, b2, b3⟩ := key hy
  refine ⟨?_, a3, b3⟩
  unfold sameB
  rw [a1, b1, a2, b2]
  rfl
theorem moreC_cb {c c' : List (Int × Ty)} {n : Int} {x : Ty} (h : moreC c n x = some c') (hc : CB c) (hx : Ok1 116 x ∨ Ok1 114 x) : CB c' := by
  unfold moreC at h
  split at h
  · split at h
    · injection h with h; subst h; exact hc
    · cases h
  · injection h with h
    subst h
    intro p hp
    rcases List.mem_append.1 hp with hp | hp
    · exact hc p hp
    · simp at hp; subst hp; exact hx
theorem bind_s (c : List (Int × Ty)) (n : Int) (x : Ty) (hc : CB c) (hx : Ok1 116 x ∨ Ok1 114 x) : SpecO 94 [.ag [.mp 0], vi .i64 n, .ag (ofD (cT x))] [.mp 3 (esT c)] (BindQ (moreC c n x)) := by
  have hg := esT_get n c
  unfold moreC
  cases hf : c.find? fun p => p.1 == n with
  | none =>
    rw [hf] at hg
    have hset := esT_set n x c hf
    obtain ⟨Q, hQ⟩ : ∃ Q, Q = BindQ (some (c ++ [(n, x)])) := ⟨_, rfl⟩
    have hq : Q [vb true] [.mp 3 (esT (c ++ [(n, x)]))] := by rw [hQ]; exact .inl ⟨_, rfl, rfl, rfl⟩
    simp only
    rw [← hQ]
    clear hQ
    generalize esT (c ++ [(n, x)]) = E2 at *
    generalize esT c = E at *
    obtain ⟨x0, x1, x2, x3, hxx⟩ := cT_four x
    rw [hxx] at hset ⊢
    unfold ik at hg hset
    refine speco_of Try.func94 rfl (by kernel_rfl) (by kernel_rfl) (by kernel_rfl) fun aWrap aAdd aSub aMul aQuo aRem aBits aLt aLe aEq aNz aSeq aSlt aBytes aCat aFits aSlen aSget aSsub aNat aLen aGet aSub2 aApp aSet aRoom aMlook aMput aRep aCall aCalld aCallo aNew aLit aKeep aNext aLoop hA => ?_
    cbv
    repeat ((with_reducible apply next_at hA); cbv)
    obtain ⟨m1, m2, -⟩ := map_at hA
    rw [← m1] at hg
    rw [← m2] at hset
    simp only [Option.map_none] at hg
    cbv
    repeat (first | (with_reducible apply next_at hA; cbv) | (rw [hg]; cbv) | (rw [hset]; cbv))
    try cbv
    repeat (first | (with_reducible apply next_at hA; cbv) | (rw [hg]; cbv) | (rw [hset]; cbv))
    try simp (maxSteps := 4000000) only [nc] at *
    exact keep_is hA [0] ⟨rfl, rfl, rfl, rfl, rfl, rfl, rfl, rfl⟩ hq
  | some p =>
    rw [hf] at hg
    have hpm := List.mem_of_find?_eq_some hf
    obtain ⟨hsm, s1, s2⟩ := ok_same (hc p hpm) hx
    have hS := Same_s p.2 x s1 s2
    rw [hsm] at hS
    simp only
    obtain ⟨Q, hQ⟩ : ∃ Q, Q = BindQ (if alikeB p.2 x = true then some c else none) := ⟨_, rfl⟩
    have hq : Q [vb (alikeB p.2 x)] [.mp 3 (esT c)] := by
      rw [hQ]
      cases alikeB p.2 x with
      | true => exact .inl ⟨_, rfl, rfl, rfl⟩
      | false => exact .inr ⟨rfl, rfl, _, rfl⟩
    rw [← hQ]
    clear hQ
    generalize esT c = E at *
    generalize alikeB p.2 x = bb at *
    obtain ⟨x0, x1, x2, x3, hxx⟩ := cT_four x
    obtain ⟨y0, y1, y2, y3, hyy⟩ := cT_four p.2
    simp only [Option.map_some] at hg
    rw [hxx] at hS ⊢
    rw [hyy] at hS hg
    unfold ik at hg
    refine speco_of Try.func94 rfl (by kernel_rfl) (by kernel_rfl) (by kernel_rfl) fun aWrap aAdd aSub aMul aQuo aRem aBits aLt aLe aEq aNz aSeq aSlt aBytes aCat aFits aSlen aSget aSsub aNat aLen aGet aSub2 aApp aSet aRoom aMlook aMput aRep aCall aCalld aCallo aNew aLit aKeep aNext aLoop hA => ?_
    cbv
    repeat ((with_reducible apply next_at hA); cbv)
    obtain ⟨m1, m2, -⟩ := map_at hA
    rw [← m1] at hg
    cbv
    repeat (first | (with_reducible apply next_at hA; cbv) | (rw [hg]; cbv) | (refine call_at hA _ hS rfl ?_; cbv))
    try cbv
    repeat (first | (with_reducible apply next_at hA; cbv) | (rw [hg]; cbv) | (refine call_at hA _ hS rfl ?_; cbv))
    try simp (maxSteps := 4000000) only [nc] at *
    exact keep_is hA [0] ⟨rfl, rfl, rfl, rfl, rfl, rfl, rfl, rfl⟩ hq
end Go.Proofs.Ytclehkgnacekkaa.Vm
end

/- kinds.Join. -/
import Derived.Test.YtclehkgnacekkaaVRange
set_option linter.unusedVariables false
set_option linter.unusedSimpArgs false
namespace Go.Proofs.Ytclehkgnacekkaa.Vm
open Go.RowKit
def seqL : Code → Code
  | .seq c _ => c
  | c => c
def seqR : Code → Code
  | .seq _ c => c
  | c => c
/-- Where the loop begins. -/
def jT (rows : List (List D)) (d0 d1 d2 d3 : D) : List V := [.d (.sl 5 rows), .ag [.d d0, .d d1, .d d2, .d d3], .tu [], .ptr 0 0, .ptr 1 0, .ptr 2 0, .tu [], .tu [], .ag [.d d0, .d d1, .d d2, .d d3], .ag [.d d0, .d d1, .d d2, .d d3], .d (.sl 5 rows),
  .cl 137 [4], .tu [], .tu [], .tu [], .tu [], .tu [], .tu [], .tu [], .tu [], .tu [], .tu [], .tu []]
def jO (d0 d1 d2 d3 : D) (acc : List V) (b : O) : List O := [.box [.d d0, .d d1, .d d2, .d d3], .box [.d (.sc (.int .u8 0)), .d (.sc (.string ⟨#[]⟩)), .d (.sc (.int .i64 0)), .em], .box acc, .dead, b]
set_option maxRecDepth 100000
set_option maxHeartbeats 4000000
theorem pre_join (rows : List (List D)) (d0 d1 d2 d3 : D) (hcp : Spec 113 [.ag [d0, d1, d2, d3]] [.ag [d0, d1, d2, d3]]) (P : S → Prop) (hP : P ⟨jT rows d0 d1 d2 d3, jO d0 d1 d2 d3 [.d d0, .d d1, .d d2, .d d3] (.box [.d (.sl 5 rows)])⟩) : ∀ aWrap aAdd aSub aMul aQuo aRem aLt aLe aEq aNz aSeq aSlt aBytes aCat aFits aSlen aSget aSsub aNat aLen aGet aSub2 aApp aSet aRoom aMlook aMput aRep aCall aCalld aCallo aNew aLit aKeep aNext aLoop, Ar.mk aWrap aAdd aSub aMul aQuo aRem aLt aLe aEq aNz aSeq aSlt aBytes aCat aFits aSlen aSget aSsub aNat aLen aGet aSub2 aApp aSet aRoom aMlook aMput aRep aCall aCalld aCallo aNew aLit aKeep aNext aLoop = real → exec (Ar.mk aWrap aAdd aSub aMul aQuo aRem aLt aLe aEq aNz aSeq aSlt aBytes aCat aFits aSlen aSget aSsub aNat aLen aGet aSub2 aApp aSet aRoom aMlook aMput aRep aCall aCalld aCallo aNew aLit aKeep aNext aLoop) (.seq (seqL (Try.f63.body.getD .skip)) (.seq (seqL (seqR (Try.f63.body.getD .skip))) (seqL (seqL (seqR (seqR (Try.f63.body.getD .skip)))))))
    (start [.one (.sl 5 rows), .ag [d0, d1, d2, d3]] (Try.f63.ntmps - lenL [R.one (.sl 5 rows), .ag [d0, d1, d2, d3]])) (fun x s => x = .normal ∧ P s) := by
  intro aWrap aAdd aSub aMul aQuo aRem aLt aLe aEq aNz aSeq aSlt aBytes aCat aFits aSlen aSget aSsub aNat aLen aGet aSub2 aApp aSet aRoom aMlook aMput aRep aCall aCalld aCallo aNew aLit aKeep aNext aLoop hA
  cbv
  repeat ((with_reducible apply next_at hA); cbv)
  refine call_at hA _ hcp ?_ ?_
  · rfl
  cbv
  repeat ((with_reducible apply next_at hA); cbv)
  refine inl_at hA Try.func114 rfl (by kernel_rfl) (by kernel_rfl) (by kernel_rfl) ?_
  cbv
  repeat ((with_reducible apply next_at hA); cbv)
  exact hP
def rangeA : Code → Code
  | .block _ (.rangeFunc _ _ a _) => a
  | c => c
def rangeB : Code → Code
  | .block _ (.rangeFunc _ _ _ b) => b
  | c => c
/-- One round. -/
theorem round_join (rows : List (List D)) (d0 d1 d2 d3 a0 a1 a2 a3 nm c0 c1 c2 c3 : D) (i : Int) (hcp : Spec 113 [.ag [c0, c1, c2, c3]] [.ag [c0, c1, c2, c3]]) : ∀ aWrap aAdd aSub aMul aQuo aRem aLt aLe aEq aNz aSeq aSlt aBytes aCat aFits aSlen aSget aSsub aNat aLen aGet aSub2 aApp aSet aRoom aMlook aMput aRep aCall aCalld aCallo aNew aLit aKeep aNext aLoop, Ar.mk aWrap aAdd aSub aMul aQuo aRem aLt aLe aEq aNz aSeq aSlt aBytes aCat aFits aSlen aSget aSsub aNat aLen aGet aSub2 aApp aSet aRoom aMlook aMput aRep aCall aCalld aCallo aNew aLit aKeep aNext aLoop = real →
    exec (Ar.mk aWrap aAdd aSub aMul aQuo aRem aLt aLe aEq aNz aSeq aSlt aBytes aCat aFits aSlen aSget aSsub aNat aLen aGet aSub2 aApp aSet aRoom aMlook aMput aRep aCall aCalld aCallo aNew aLit aKeep aNext aLoop) (rangeA (seqR (seqL (seqR (seqR (Try.f63.body.getD .skip)))))) ⟨setN (setN (jT rows d0 d1 d2 d3) 12 (vi .i64 i)) 13 (.ag [.d nm, .d c0, .d c1, .d c2, .d c3]), snocO (jO d0 d1 d2 d3 [.d a0, .d a1, .d a2, .d a3] .dead) (.kl [])⟩
      (fun x s1 => x = .normal ∧ mpSub (jO d0 d1 d2 d3 [.d a0, .d a1, .d a2, .d a3] .dead) s1.o = true ∧ exec (Ar.mk aWrap aAdd aSub aMul aQuo aRem aLt aLe aEq aNz aSeq aSlt aBytes aCat aFits aSlen aSget aSsub aNat aLen aGet aSub2 aApp aSet aRoom aMlook aMput aRep aCall aCalld aCallo aNew aLit aKeep aNext aLoop) (rangeB (seqR (seqL (seqR (seqR (Try.f63.body.getD .skip)))))) ⟨s1.t, snocO s1.o (.kl [])⟩ (fun x s2 => x = .normal ∧
        roundE 5 (jO d0 d1 d2 d3 [.d a0, .d a1, .d a2, .d a3] .dead) (jO d0 d1 d2 d3 [.d (.sc (.int .u8 11)), .d nm, .d (.sc (.int .i64 0)), .d (.sl 4 [[c0, c1, c2, c3], [a0, a1, a2, a3]])] .dead) (lenO s1.o) s2)) := by
  intro aWrap aAdd aSub aMul aQuo aRem aLt aLe aEq aNz aSeq aSlt aBytes aCat aFits aSlen aSget aSsub aNat aLen aGet aSub2 aApp aSet aRoom aMlook aMput aRep aCall aCalld aCallo aNew aLit aKeep aNext aLoop hA
  cbv
  repeat ((with_reducible apply next_at hA); cbv)
  refine calm_at hA _ hcp ?_
  cbv
  repeat ((with_reducible first | apply next_at hA | apply lit_at hA true); cbv)
  exact ⟨rfl, trivial⟩
/-- Fields ahead of a tail. -/
def joinD : List (List D) → List D → List D
  | [], tl => tl
  | r :: rows, tl => [.sc (.int .u8 11), r.headD (.sl 0 []), .sc (.int .i64 0), .sl 4 [r.tail, joinD rows tl]]
theorem joinD_four (rows : List (List D)) (d0 d1 d2 d3 : D) : ∃ a0 a1 a2 a3, joinD rows [d0, d1, d2, d3] = [a0, a1, a2, a3] := by
  cases rows <;> exact ⟨_, _, _, _, rfl⟩
/-- The last k fields ahead of the tail. -/
def accD (rows : List (List D)) (tl : List D) (k : Nat) : List D := joinD (rows.drop (rows.length - k)) tl
theorem accD_succ {rows : List (List D)} {tl r : List D} {k : Nat} (hk : k < rows.length) (hr : rows[rows.length - 1 - k]? = some r) : accD rows tl (k + 1) = joinD (r :: rows.drop (rows.length - k)) tl := by
  have h1 : rows.length - (k + 1) < rows.length := by omega
  have h2 := List.drop_eq_getElem_cons h1
  have e1 : rows.length - 1 - k = rows.length - (k + 1) := by omega
  rw [e1, List.getElem?_eq_getElem h1] at hr
  rw [accD, h2, Option.some.inj hr, show rows.length - (k + 1) + 1 = rows.length - k by omega]
theorem cells_cell {W : World} {b : Nat} {us : Array Value} {t : TypeId} {m : Nat × Nat} {i : Nat} (h : W.heap[b]? = some (.cells us t m)) : W.cell? ⟨b, i, none⟩ = us[i]? := by
  show (match W.heap[b]? with | some (.cells c _ _) => c[i]? | _ => none) = _
  rw [h]
theorem end_join (rows : List (List D)) (d0 d1 d2 d3 a0 a1 a2 a3 : D) : ∀ aWrap aAdd aSub aMul aQuo aRem aLt aLe aEq aNz aSeq aSlt aBytes aCat aFits aSlen aSget aSsub aNat aLen aGet aSub2 aApp aSet aRoom aMlook aMput aRep aCall aCalld aCallo aNew aLit aKeep aNext aLoop, Ar.mk aWrap aAdd aSub aMul aQuo aRem aLt aLe aEq aNz aSeq aSlt aBytes aCat aFits aSlen aSget aSsub aNat aLen aGet aSub2 aApp aSet aRoom aMlook aMput aRep aCall aCalld aCallo aNew aLit aKeep aNext aLoop = real → exec (Ar.mk aWrap aAdd aSub aMul aQuo aRem aLt aLe aEq aNz aSeq aSlt aBytes aCat aFits aSlen aSget aSsub aNat aLen aGet aSub2 aApp aSet aRoom aMlook aMput aRep aCall aCalld aCallo aNew aLit aKeep aNext aLoop) (seqR (seqR (seqR (Try.f63.body.getD .skip)))) ⟨jT rows d0 d1 d2 d3, snocO (jO d0 d1 d2 d3 [.d a0, .d a1, .d a2, .d a3] .dead) (.kl [])⟩
    (fun x s => endK Try.f63.results.toList [.ag [a0, a1, a2, a3]] 5 x s) := by
  intro aWrap aAdd aSub aMul aQuo aRem aLt aLe aEq aNz aSeq aSlt aBytes aCat aFits aSlen aSget aSsub aNat aLen aGet aSub2 aApp aSet aRoom aMlook aMput aRep aCall aCalld aCallo aNew aLit aKeep aNext aLoop hA
  cbv
  repeat ((with_reducible apply next_at hA); cbv)
end Go.Proofs.Ytclehkgnacekkaa.Vm

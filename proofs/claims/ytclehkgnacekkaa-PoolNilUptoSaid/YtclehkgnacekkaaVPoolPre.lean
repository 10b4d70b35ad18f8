/- The law PoolNil: what runs ahead of the calls on no pool. -/
import Derived.Test.YtclehkgnacekkaaVAlive9
import Derived.Test.YtclehkgnacekkaaVParts
import Derived.Test.YtclehkgnacekkaaVRest
set_option linter.unusedVariables false
set_option linter.unusedSimpArgs false
namespace Go.Proofs.Ytclehkgnacekkaa.Vm
open Go.RowKit
set_option maxRecDepth 100000
set_option maxHeartbeats 4000000
/-- Where the calls begin. -/
def pnS (c : D × D × D × D) (n i level : Int) (row : Bool) (P : List (List D)) (x : Int) : S :=
  ⟨[.ag [.d c.1, .d c.2.1, .d c.2.2.1, .d c.2.2.2], vi .i64 n, vi .i64 i, vi .i64 level, vb row, .ptr 0 0, .tu [], .tu [], .tu [], .tu [], vb false, .tu [], .tu [], .tu [], .tu [], .tu [], .tu [], .tu [], .tu [], .tu [], .tu [], .tu [], vb true, vb false,
    .ag [.d c.1, .d c.2.1, .d c.2.2.1, .d c.2.2.2], .d (.sl 4 P), vi .i64 x, vb false] ++ uns 139, [.box [.d c.1, .d c.2.1, .d c.2.2.1, .d c.2.2.2]]⟩
theorem pre_pnil (t : Ty) (n i level : Int) (row : Bool) (hN : t.parts.length ≤ 1048576) (h3 : t.parts.length ≤ 300) (r : Code) (K : X → S → Prop)
    (hr : ∀ c P x, exec real r (pnS c n i level row P x) K) : ∀ aWrap aAdd aSub aMul aQuo aRem aLt aLe aEq aNz aSeq aSlt aBytes aCat aFits aSlen aSget aSsub aNat aLen aGet aSub2 aApp aSet aRoom aMlook aMput aRep aCall aCalld aCallo aNew aLit aKeep aNext aLoop, Ar.mk aWrap aAdd aSub aMul aQuo aRem aLt aLe aEq aNz aSeq aSlt aBytes aCat aFits aSlen aSget aSsub aNat aLen aGet aSub2 aApp aSet aRoom aMlook aMput aRep aCall aCalld aCallo aNew aLit aKeep aNext aLoop = real →
    exec (Ar.mk aWrap aAdd aSub aMul aQuo aRem aLt aLe aEq aNz aSeq aSlt aBytes aCat aFits aSlen aSget aSsub aNat aLen aGet aSub2 aApp aSet aRoom aMlook aMput aRep aCall aCalld aCallo aNew aLit aKeep aNext aLoop) (.seq (seqL (Try.f8.body.getD .skip)) (.seq (seqL (seqR (Try.f8.body.getD .skip))) (.seq (seqL (seqR (seqR (Try.f8.body.getD .skip)))) r)))
      (start [.ag (cT t), .one (.sc (.int .i64 n)), .one (.sc (.int .i64 i)), .one (.sc (.int .i64 level)), .one (.sc (.bool row))] (Try.f8.ntmps - lenL [R.ag (cT t), .one (.sc (.int .i64 n)), .one (.sc (.int .i64 i)), .one (.sc (.int .i64 level)), .one (.sc (.bool row))])) K := by
  intro aWrap aAdd aSub aMul aQuo aRem aLt aLe aEq aNz aSeq aSlt aBytes aCat aFits aSlen aSget aSsub aNat aLen aGet aSub2 aApp aSet aRoom aMlook aMput aRep aCall aCalld aCallo aNew aLit aKeep aNext aLoop hA
  have hP := Parts_s t hN
  obtain ⟨c0, c1, c2, c3, hc⟩ : ∃ c0 c1 c2 c3, cT t = [c0, c1, c2, c3] := by obtain ⟨op, nm, n, ks⟩ := t; exact ⟨_, _, _, _, by rw [cT]⟩
  rw [hc] at hP ⊢
  obtain ⟨P, hP2⟩ : ∃ P, P = rT t.parts := ⟨_, rfl⟩
  rw [← hP2] at hP
  have hr' := hr (c0, c1, c2, c3) P (aLen P)
  rw [← hA] at hr'
  cbv
  repeat ((with_reducible apply next_at hA); cbv)
  refine call_at hA _ alive_s ?_ ?_
  · rfl
  cbv
  repeat ((with_reducible apply next_at hA); cbv)
  refine call_at hA _ hP ?_ ?_
  · rfl
  cbv
  obtain ⟨e1, e2, e3, e4, e5, e6, e7, e8, e9⟩ := ar_at hA
  obtain ⟨r1, r2, r3, r4⟩ := row_at hA
  have hlt : aLt 300 (aLen P) = false := by rw [e7, r1, hP2, rT_len]; exact decide_eq_false (by omega)
  rw [hlt]
  cbv
  repeat ((with_reducible apply next_at hA); cbv)
  unfold exec at hr'
  exact hr'
/-- Too many parts. -/
theorem PoolNil_much (t : Ty) (n i level : Int) (row : Bool) (hN : t.parts.length ≤ 1048576) (h3 : 300 < t.parts.length) :
    Spec 8 [.ag (cT t), .one (.sc (.int .i64 n)), .one (.sc (.int .i64 i)), .one (.sc (.int .i64 level)), .one (.sc (.bool row))] [.one (.sc (.bool true))] := by
  have hP := Parts_s t hN
  obtain ⟨c0, c1, c2, c3, hc⟩ : ∃ c0 c1 c2 c3, cT t = [c0, c1, c2, c3] := by obtain ⟨op, nm, n, ks⟩ := t; exact ⟨_, _, _, _, by rw [cT]⟩
  rw [hc] at hP ⊢
  obtain ⟨P, hP2⟩ : ∃ P, P = rT t.parts := ⟨_, rfl⟩
  rw [← hP2] at hP
  refine spec_of Try.func8 rfl (by kernel_rfl) (by kernel_rfl) (by kernel_rfl) fun aWrap aAdd aSub aMul aQuo aRem aLt aLe aEq aNz aSeq aSlt aBytes aCat aFits aSlen aSget aSsub aNat aLen aGet aSub2 aApp aSet aRoom aMlook aMput aRep aCall aCalld aCallo aNew aLit aKeep aNext aLoop hA => ?_
  cbv
  repeat ((with_reducible apply next_at hA); cbv)
  refine call_at hA _ alive_s ?_ ?_
  · rfl
  cbv
  repeat ((with_reducible apply next_at hA); cbv)
  refine call_at hA _ hP ?_ ?_
  · rfl
  cbv
  obtain ⟨e1, e2, e3, e4, e5, e6, e7, e8, e9⟩ := ar_at hA
  obtain ⟨r1, r2, r3, r4⟩ := row_at hA
  have hlt : aLt 300 (aLen P) = true := by rw [e7, r1, hP2, rT_len]; exact decide_eq_true (by omega)
  rw [hlt]
  cbv
  repeat ((with_reducible apply next_at hA); cbv)
def alive9F : List R → Option (List R)
  | [] => some [.one (.sc (.bool true))]
  | _ => none
theorem alive9_pure (rs q : List R) (h : alive9F rs = some q) : Spec 22 rs q := by
  unfold alive9F at h
  split at h
  · cases h; exact alive_s
  · cases h
end Go.Proofs.Ytclehkgnacekkaa.Vm

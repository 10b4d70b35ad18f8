/- Parts. -/
import Derived.Test.YtclehkgnacekkaaVTypes
import Derived.IntWalk
set_option linter.unusedVariables false
set_option linter.unusedSimpArgs false
namespace Go.Proofs.Ytclehkgnacekkaa.Vm
open Go.RowKit
set_option maxRecDepth 100000
set_option maxHeartbeats 4000000
theorem Parts_s : ∀ t : Ty, t.parts.length ≤ 1048576 → Spec 18 [.ag (cT t)] [.one (.sl 4 (rT t.parts))] := by
  intro t
  induction t using Ty.ind with
  | h t ih =>
    intro hN
    have hkl := kids_le t
    have hP := parts_eq t
    generalize t.parts = P at *
    obtain ⟨op, nm, n, ks⟩ := t
    simp only [Ty.kids] at hkl ih hP
    obtain ⟨R, hR⟩ : ∃ R, R = rT P := ⟨_, rfl⟩
    rw [← hR, cT]
    obtain ⟨K, hK⟩ : ∃ K, K = rT ks := ⟨_, rfl⟩
    rw [← hK]
    refine spec_of Try.func18 rfl (by kernel_rfl) (by kernel_rfl) (by kernel_rfl) fun aWrap aAdd aSub aMul aQuo aRem aLt aLe aEq aNz aSeq aSlt aBytes aCat aFits aSlen aSget aSsub aNat aLen aGet aSub2 aApp aSet aRoom aMlook aMput aRep aCall aCalld aCallo aNew aLit aKeep aNext aLoop hA => ?_
    cbv
    repeat ((with_reducible first | apply next_at hA | apply lit_at hA false | apply new_at hA true); cbv)
    obtain ⟨e1, e2, e3, e4, e5, e6, e7, e8, e9⟩ := ar_at hA
    obtain ⟨r1, r2, r3, r4⟩ := row_at hA
    refine loop_at hA (γ := Int × List (List D)) (fun x => [(4, vi .i64 x.1), (3, .own 1), (6, .jk)]) (fun x => [(1, .row true 25 x.2)]) (fun x => ∃ k : Nat, x.1 = (k : Int) ∧ k ≤ ks.length ∧ x.2 ++ rT (partsL (ks.drop k)) = R) (fun x => ks.length - x.1.toNat) (0, [cT (.mk op nm n ks)]) ?_ ?_ ?_
    · exact ⟨0, rfl, Nat.zero_le _, by rw [hR, hP]; rfl⟩
    · rw [cT, ← hK]
      cbv
    · intro x hinv
      obtain ⟨z, L⟩ := x
      cbv
      repeat ((with_reducible apply next_at hA); cbv)
      obtain ⟨k, hz, hk, hE⟩ := hinv
      have hz : z = (k : Int) := hz
      replace hE : L ++ rT (partsL (ks.drop k)) = R := hE
      have hlen : aLen K = (ks.length : Int) := by rw [r1, hK, rT_len]
      have hlt : aLt z (aLen K) = decide (k < ks.length) := by rw [e7, hlen, hz]; exact decide_eq_decide.2 (by omega)
      by_cases h9 : k < ks.length
      · rw [decide_eq_true h9] at hlt
        obtain ⟨x, hx⟩ : ∃ x, ks[k]? = some x := ⟨_, List.getElem?_eq_getElem h9⟩
        have g1 : aGet K z = some (cT x) := by rw [r2, hz, if_pos (by omega), hK]; exact rT_get hx
        have hsp := ih x (List.mem_of_getElem? hx) (by have := hkl.2 x (List.mem_of_getElem? hx); omega)
        have hdr : ks.drop k = x :: ks.drop (k + 1) := by
          have h := List.drop_eq_getElem_cons h9
          rw [List.getElem?_eq_getElem h9] at hx
          rw [h, Option.some.inj hx]
        rw [hdr, partsL] at hE
        generalize x.parts = XP at *
        obtain ⟨o1, m1, n1, l1⟩ := x
        rw [cT] at g1 hsp
        generalize rT l1 = L1 at *
        obtain ⟨Y, hY⟩ : ∃ Y, Y = rT XP := ⟨_, rfl⟩
        rw [← hY] at hsp
        rw [hlt]
        cbv
        repeat ((with_reducible apply next_at hA); cbv)
        rw [g1]
        cbv
        refine call_at hA _ hsp ?_ ?_
        · rfl
        cbv
        have hap : ∀ l m : List Ty, rT (l ++ m) = rT l ++ rT m := fun l m => by rw [rT_map, rT_map, rT_map, List.map_append]
        rw [hap, ← hY, ← List.append_assoc] at hE
        have hlenR : L.length + Y.length ≤ 1048576 := by
          have h1 : R.length ≤ 1048576 := by rw [hR, rT_len]; exact hN
          rw [← hE, List.length_append, List.length_append] at h1
          omega
        refine room_at hA (by omega) ?_
        cbv
        repeat ((with_reducible apply next_at hA); cbv)
        replace hz : z = (k : Int) := hz
        have hz1 : aWrap .i64 (aAdd z 1) = ((k + 1 : Nat) : Int) := by rw [e1, e2, hz, IntWalk.i64_in _ (by omega)]; omega
        refine ⟨(aWrap .i64 (aAdd z 1), aApp L Y), ⟨k + 1, hz1, h9, by rw [r4]; exact hE⟩, by show ks.length - (aWrap .i64 (aAdd z 1)).toNat < ks.length - z.toNat; rw [hz1, hz]; omega, ?_⟩
        cbv
      · rw [decide_eq_false h9] at hlt
        rw [hlt]
        cbv
        repeat ((with_reducible apply next_at hA); cbv)
        have hE2 : L = R := by
          rw [List.drop_eq_nil_of_le (by omega), partsL] at hE
          rw [← hE]
          exact (List.append_nil L).symm
        rw [hE2]
        exact ⟨rfl, trivial⟩
end Go.Proofs.Ytclehkgnacekkaa.Vm

/- kinds.copied. -/
import Derived.Test.YtclehkgnacekkaaVTypes
import Derived.IntWalk
set_option linter.unusedVariables false
set_option linter.unusedSimpArgs false
namespace Go.Proofs.Ytclehkgnacekkaa.Vm
open Go.RowKit
set_option maxRecDepth 100000
set_option maxHeartbeats 4000000
theorem rT_snoc {ks : List Ty} {k : Nat} {x : Ty} (h : ks[k]? = some x) : rT (ks.take (k + 1)) = rT (ks.take k) ++ [cT x] := by
  obtain ⟨hi, e⟩ := List.getElem?_eq_some_iff.1 h
  rw [rT_map, rT_map, List.take_succ_eq_append_getElem hi, e, List.map_append]
  rfl
theorem copied_s : ∀ t : Ty, t.parts.length ≤ 1048576 → Spec 113 [.ag (cT t)] [.ag (cT t)] := by
  intro t
  induction t using Ty.ind with
  | h t ih =>
    intro hN
    have hkl := kids_le t
    obtain ⟨op, nm, n, ks⟩ := t
    simp only [Ty.kids] at hkl ih
    rw [cT]
    obtain ⟨K, hK⟩ : ∃ K, K = rT ks := ⟨_, rfl⟩
    rw [← hK]
    refine spec_of Try.func113 rfl (by kernel_rfl) (by kernel_rfl) (by kernel_rfl) fun aWrap aAdd aSub aMul aQuo aRem aLt aLe aEq aNz aSeq aSlt aBytes aCat aFits aSlen aSget aSsub aNat aLen aGet aSub2 aApp aSet aRoom aMlook aMput aRep aCall aCalld aCallo aNew aLit aKeep aNext aLoop hA => ?_
    cbv
    with_reducible apply next_at hA
    cbv
    refine own_at hA 3 25 true rfl ?_
    cbv
    repeat ((with_reducible apply next_at hA); cbv)
    obtain ⟨e1, e2, e3, e4, e5, e6, e7, e8, e9⟩ := ar_at hA
    obtain ⟨r1, r2, r3, r4⟩ := row_at hA
    refine loop_at hA (γ := Int × List (List D)) (fun x => [(9, vi .i64 x.1), (3, .own 2), (13, .jk)]) (fun x => [(2, .row true 25 x.2)]) (fun x => ∃ k : Nat, x.1 = (k : Int) ∧ k ≤ ks.length ∧ x.2 = rT (ks.take k)) (fun x => ks.length - x.1.toNat) (0, []) ?_ ?_ ?_
    · exact ⟨0, rfl, Nat.zero_le _, rfl⟩
    · cbv
    · intro x hinv
      obtain ⟨z, L⟩ := x
      cbv
      repeat ((with_reducible apply next_at hA); cbv)
      obtain ⟨k, hz, hk, hE⟩ := hinv
      have hz : z = (k : Int) := hz
      replace hE : L = rT (ks.take k) := hE
      have hlen : aLen K = (ks.length : Int) := by rw [r1, hK, rT_len]
      have hlt : aLt z (aLen K) = decide (k < ks.length) := by rw [e7, hlen, hz]; exact decide_eq_decide.2 (by omega)
      by_cases h9 : k < ks.length
      · rw [decide_eq_true h9] at hlt
        obtain ⟨x, hx⟩ : ∃ x, ks[k]? = some x := ⟨_, List.getElem?_eq_getElem h9⟩
        have g1 : aGet K z = some (cT x) := by rw [r2, hz, if_pos (by omega), hK]; exact rT_get hx
        have hsp := ih x (List.mem_of_getElem? hx) (by have := hkl.2 x (List.mem_of_getElem? hx); omega)
        have hsn := rT_snoc hx
        obtain ⟨o1, m1, n1, l1⟩ := x
        rw [cT] at g1 hsp hsn
        generalize rT l1 = L1 at *
        rw [hlt]
        cbv
        repeat ((with_reducible apply next_at hA); cbv)
        rw [g1]
        cbv
        repeat ((with_reducible apply next_at hA); cbv)
        refine call_at hA _ hsp ?_ ?_
        · rfl
        cbv
        refine lit_at hA true ?_
        cbv
        refine room_at hA (by rw [hE, rT_len]; simp; omega) ?_
        cbv
        repeat ((with_reducible apply next_at hA); cbv)
        replace hz : z = (k : Int) := hz
        have hz1 : aWrap .i64 (aAdd z 1) = ((k + 1 : Nat) : Int) := by rw [e1, e2, hz, IntWalk.i64_in _ (by omega)]; omega
        refine ⟨(aWrap .i64 (aAdd z 1), aApp L [[.sc (.int .u8 o1), .sc (.string m1), .sc (.int .i64 n1), .sl 4 L1]]), ⟨k + 1, hz1, h9, by show aApp L _ = _; rw [r4, hE, hsn]⟩, by show ks.length - (aWrap .i64 (aAdd z 1)).toNat < ks.length - z.toNat; rw [hz1, hz]; omega, ?_⟩
        cbv
      · rw [decide_eq_false h9] at hlt
        rw [hlt]
        cbv
        repeat ((with_reducible apply next_at hA); cbv)
        have hE2 : L = K := by rw [hE, hK, List.take_of_length_le (by omega)]
        rw [hE2]
        exact ⟨rfl, trivial⟩
end Go.Proofs.Ytclehkgnacekkaa.Vm

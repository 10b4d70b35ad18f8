/- The law ProseWords: its walk. -/
import Derived.Test.YtgedpbpfoaljhaaDoorVAlive7
import Derived.Test.YtgedpbpfoaljhaaDoorVOpen
import Derived.Test.YtgedpbpfoaljhaaDoorVShelf
import Derived.IntWalk
set_option linter.unusedVariables false
set_option linter.unusedSimpArgs false
namespace Go.Proofs.YtgedpbpfoaljhaaDoor.Vm
open Go.RowKit
set_option maxRecDepth 100000
set_option maxHeartbeats 4000000
def btl (b : ByteArray) : List UInt8 := b.data.toList
theorem btl_toList (b : ByteArray) : b.toList = btl b := ByteArray.toList_eq b
theorem btl_app (a b : ByteArray) : btl (a ++ b) = btl a ++ btl b := by unfold btl; simp [ByteArray.data_append]
theorem btl_size (b : ByteArray) : (btl b).length = b.size := by unfold btl; rw [Array.length_toList]; rfl
theorem join_snoc (l : List (List UInt8)) (y sep : List UInt8) : Lib.join (l ++ [y]) sep = (if l = [] then [] else Lib.join l sep ++ sep) ++ y := by
  cases l with
  | nil => simp [Lib.join_one]
  | cons x r =>
    rw [if_neg (by simp), List.cons_append, Lib.join_cons, Lib.join_cons, Lib.joinTail, Lib.joinTail, List.map_append, List.flatten_append]
    simp
theorem join_len (l : List (List UInt8)) (sep : List UInt8) : (Lib.join l sep).length ≤ sep.length * l.length + Lib.lens l := by
  cases l with
  | nil => simp [Lib.join_nil]
  | cons x r =>
    rw [Lib.join_length, List.length_cons, Nat.mul_succ]
    omega
theorem Words_s (s : ByteArray) (ss : List ByteArray) (hl : (Lib.join (ss.map (·.data.toList)) s.data.toList).length ≤ 140737488355328) (hn : ss.length ≤ 1048576) :
    Spec 5 [.one (.sc (.string s)), .one (.sl 1 (rS ss))] [.one (.sc (.string ⟨(Lib.join (ss.map (·.data.toList)) s.data.toList).toArray⟩))] := by
  have hj := join_str ss s hl hn
  generalize (ByteArray.mk (Lib.join (ss.map (·.data.toList)) s.data.toList).toArray) = J at hj ⊢
  generalize rS ss = L at hj ⊢
  refine spec_of Tryd.func5 rfl (by kernel_rfl) (by kernel_rfl) (by kernel_rfl) fun aWrap aAdd aSub aMul aQuo aRem aLt aLe aEq aNz aSeq aSlt aBytes aCat aFits aSlen aSget aSsub aNat aLen aGet aSub2 aApp aSet aRoom aMlook aMput aRep aCall aCalld aCallo aNew aLit aKeep aNext aLoop hA => ?_
  cbv
  repeat ((with_reducible apply next_at hA); cbv)
  refine call_at hA _ hj ?_ ?_
  · rfl
  cbv
  repeat ((with_reducible apply next_at hA); cbv)
theorem ProseWords_s (s : ByteArray) (ss : List ByteArray) (hs : s.size ≤ 1048576) (hls : Lib.lens (ss.map btl) ≤ 1048576) (hn : ss.length ≤ 1048576) :
    Spec 3 [.one (.sc (.string s)), .one (.sl 1 (rS ss))] [.one (.sc (.bool true))] := by
  obtain ⟨L, hL⟩ : ∃ L, L = rS ss := ⟨_, rfl⟩
  rw [← hL]
  refine spec_of Tryd.func3 rfl (by kernel_rfl) (by kernel_rfl) (by kernel_rfl) fun aWrap aAdd aSub aMul aQuo aRem aLt aLe aEq aNz aSeq aSlt aBytes aCat aFits aSlen aSget aSsub aNat aLen aGet aSub2 aApp aSet aRoom aMlook aMput aRep aCall aCalld aCallo aNew aLit aKeep aNext aLoop hA => ?_
  cbv
  repeat ((with_reducible apply next_at hA); cbv)
  refine call_at hA _ alive_s ?_ ?_
  · rfl
  cbv
  repeat ((with_reducible apply next_at hA); cbv)
  obtain ⟨e1, e2, e3, e4, e5, e6, e7, e8, e9⟩ := ar_at hA
  obtain ⟨s1, s2, s3, s4, -⟩ := str_at hA
  obtain ⟨r1, r2, -⟩ := row_at hA
  have hlen : aLen L = (ss.length : Int) := by rw [r1, hL, rS_len]
  cases h1 : aLt 100 (aLen L)
  · have hn100 : ss.length ≤ 100 := by
      rw [e7, hlen] at h1
      have := of_decide_eq_false h1
      omega
    have hJ : ∀ k, (Lib.join ((ss.map btl).take k) (btl s)).length ≤ 106954752 := fun k => by
      have h1 := join_len ((ss.map btl).take k) (btl s)
      have h2 := Lib.lens_take_le (ss.map btl) k
      have h3 : ((ss.map btl).take k).length ≤ 100 := by rw [List.length_take, List.length_map]; omega
      have h4 : (btl s).length * ((ss.map btl).take k).length ≤ 1048576 * 100 := Nat.mul_le_mul (by rw [btl_size]; exact hs) h3
      omega
    have hall : (ss.map btl).take ss.length = ss.map btl := List.take_of_length_le (by simp)
    have hW := Words_s s ss (by have := hJ ss.length; rw [hall] at this; exact Nat.le_trans this (by decide)) hn
    rw [← hL] at hW
    have hJb : btl (ByteArray.mk (Lib.join (ss.map (·.data.toList)) s.data.toList).toArray) = Lib.join (ss.map btl) (btl s) := rfl
    generalize (ByteArray.mk (Lib.join (ss.map (·.data.toList)) s.data.toList).toArray) = J at hW hJb
    cbv
    repeat ((with_reducible apply next_at hA); cbv)
    refine loop_at hA (γ := Int × ByteArray) (fun x => [(6, vi .i64 x.1), (5, vs x.2)]) (fun x => []) (fun x => ∃ k : Nat, x.1 = (k : Int) ∧ k ≤ ss.length ∧ btl x.2 = Lib.join ((ss.map btl).take k) (btl s)) (fun x => ss.length - x.1.toNat) (0, ⟨#[]⟩) ?_ ?_ ?_
    · exact ⟨0, rfl, Nat.zero_le _, by rw [List.take_zero, Lib.join_nil]; rfl⟩
    · cbv
    · intro x hinv
      obtain ⟨z, b⟩ := x
      cbv
      repeat ((with_reducible apply next_at hA); cbv)
      obtain ⟨k, hz, hk, hE⟩ := hinv
      have hz : z = (k : Int) := hz
      replace hE : btl b = Lib.join ((ss.map btl).take k) (btl s) := hE
      replace hlen : aLen L = ((ss.length : Nat) : Int) := hlen
      have hlt : aLt z (aLen L) = decide (k < ss.length) := by rw [e7, hlen, hz]; exact decide_eq_decide.2 (by omega)
      have hbs : b.size ≤ 106954752 := by rw [← btl_size, hE]; exact hJ k
      by_cases h9 : k < ss.length
      · rw [decide_eq_true h9] at hlt
        obtain ⟨x, hx⟩ : ∃ x, ss[k]? = some x := ⟨_, List.getElem?_eq_getElem h9⟩
        have g1 : aGet L z = some [.sc (.string x)] := by rw [r2, hz, if_pos (by omega), hL]; exact rS_get hx
        have hxs : x.size ≤ 1048576 := by
          have h2 := Lib.lens_take_succ (ss.map btl) k (btl x) (by rw [List.getElem?_map, hx]; rfl)
          have h3 := Lib.lens_take_le (ss.map btl) (k + 1)
          rw [btl_size] at h2
          omega
        have hsn : (ss.map btl).take (k + 1) = (ss.map btl).take k ++ [btl x] := by
          obtain ⟨hi, e⟩ := List.getElem?_eq_some_iff.1 hx
          rw [List.take_succ_eq_append_getElem (by simpa using hi), List.getElem_map, e]
        have hstep := join_snoc ((ss.map btl).take k) (btl x) (btl s)
        rw [← hsn] at hstep
        have hz1 : aWrap .i64 (aAdd z 1) = ((k + 1 : Nat) : Int) := by rw [e1, e2, hz, IntWalk.i64_in _ (by omega)]; omega
        have hne : 0 < k → ¬ (ss.map btl).take k = [] := fun h0 h => by have := congrArg List.length h; rw [List.length_take, List.length_map, List.length_nil] at this; omega
        have hpos : aLt 0 z = decide (0 < k) := by rw [e7, hz]; exact decide_eq_decide.2 (by omega)
        rw [hlt]
        cbv
        repeat ((with_reducible apply next_at hA); cbv)
        by_cases h0 : 0 < k
        · rw [decide_eq_true h0] at hpos
          rw [if_neg (hne h0)] at hstep
          rw [hpos]
          cbv
          repeat ((with_reducible apply next_at hA); cbv)
          refine fits_at hA (by omega) ?_
          cbv
          repeat ((with_reducible apply next_at hA); cbv)
          rw [g1]
          cbv
          refine fits_at hA (by rw [s4, ByteArray.size_append]; omega) ?_
          cbv
          repeat ((with_reducible apply next_at hA); cbv)
          replace hz : z = (k : Int) := hz
          replace hz1 : aWrap .i64 (aAdd z 1) = ((k + 1 : Nat) : Int) := hz1
          refine ⟨(aWrap .i64 (aAdd z 1), aCat (aCat b s) x), ⟨k + 1, hz1, h9, ?_⟩, by show ss.length - (aWrap .i64 (aAdd z 1)).toNat < ss.length - z.toNat; rw [hz1, hz]; omega, ?_⟩
          · show btl (aCat (aCat b s) x) = _
            rw [s4, s4, btl_app, btl_app, hE, hstep]
          cbv
        · rw [decide_eq_false h0] at hpos
          have hk0 : k = 0 := by omega
          rw [if_pos (by rw [hk0]; rfl)] at hstep
          rw [hpos]
          cbv
          repeat ((with_reducible apply next_at hA); cbv)
          rw [g1]
          cbv
          refine fits_at hA (by omega) ?_
          cbv
          repeat ((with_reducible apply next_at hA); cbv)
          replace hz : z = (k : Int) := hz
          replace hz1 : aWrap .i64 (aAdd z 1) = ((k + 1 : Nat) : Int) := hz1
          refine ⟨(aWrap .i64 (aAdd z 1), aCat b x), ⟨k + 1, hz1, h9, ?_⟩, by show ss.length - (aWrap .i64 (aAdd z 1)).toNat < ss.length - z.toNat; rw [hz1, hz]; omega, ?_⟩
          · show btl (aCat b x) = _
            rw [s4, btl_app, hE, hstep, hk0]
            simp [Lib.join_nil]
          cbv
      · rw [decide_eq_false h9] at hlt
        have hk : k = ss.length := by omega
        rw [hk, hall] at hE
        rw [hlt]
        cbv
        repeat ((with_reducible apply next_at hA); cbv)
        refine call_at hA _ hW ?_ ?_
        · rfl
        cbv
        repeat ((with_reducible apply next_at hA); cbv)
        have hq : aSeq (aBytes J) (aBytes b) = true := by rw [s1, s3, s3, btl_toList, btl_toList, hE, hJb]; exact beq_self_eq_true _
        rw [hq]
        exact ⟨rfl, trivial⟩
  · cbv
    repeat ((with_reducible apply next_at hA); cbv)
end Go.Proofs.YtgedpbpfoaljhaaDoor.Vm

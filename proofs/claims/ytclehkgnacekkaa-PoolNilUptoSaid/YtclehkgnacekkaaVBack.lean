/- slices.Backward: what it hands to the rounds. -/
import Derived.Shelf.Abstract
import Derived.WalkKit
import Derived.OwnWalkIn
import Derived.TacticsInMore
import Derived.LoopNIn
import Derived.LoopIn
import Derived.Test.YtclehkgnacekkaaVFor
set_option linter.unusedVariables false
set_option linter.unusedSimpArgs false
namespace Go.Proofs.Ytclehkgnacekkaa.Vm
open Go.RowKit Go.Shelf Go.Proofs
attribute [local go_sem] Oper.semAt_some
/-- What a round keeps for the iterator: the box of the slice, the slice's cells. -/
def KpB (Bs b off m : Nat) (W W' : World) : Prop := (∀ v, W.cell? ⟨Bs, 0, none⟩ = some v → W'.cell? ⟨Bs, 0, none⟩ = some v) ∧ ∀ i, i < m → ∀ v, W.cell? ⟨b, off + i, none⟩ = some v → W'.cell? ⟨b, off + i, none⟩ = some v
theorem KpB.refl {Bs b off m : Nat} (W : World) : KpB Bs b off m W W := ⟨fun _ h => h, fun _ _ _ h => h⟩
theorem KpB.trans {Bs b off m : Nat} {A B C : World} (h : KpB Bs b off m A B) (h' : KpB Bs b off m B C) : KpB Bs b off m A C := ⟨fun v hv => h'.1 v (h.1 v hv), fun i hi v hv => h'.2 i hi v (h.2 i hi v hv)⟩
theorem KpB.turn {Bs b off m : Nat} (W : World) (l : Nat) (o o' : Obj) (hl : W.heap[l]? = some o) (ho : o.isCells = false) : KpB Bs b off m W (W.putObj l o') :=
  ⟨fun v hv => cell_kept hv (grownBy_putObj' W l o') (fun r e => by cases e; exact ⟨o, hl, ho⟩), fun i hi v hv => cell_kept hv (grownBy_putObj' W l o') (fun r e => by cases e; exact ⟨o, hl, ho⟩)⟩
set_option maxRecDepth 100000 in
set_option maxHeartbeats 4000000 in
theorem backF_in (e : Nat → Nat → Value) (F : Fence) (n : Nat) (hf : F.fn 137) (hro : F.round = none) (hn : 1 ≤ n) (l Bs b off len cap : Nat) (hreach : len * 80 ≤ 140737488351232) (J : Nat → World → Prop) (Jx : Unit → World → Prop)
    (hY : ∀ (k : Nat) (W : World), k < len → J k W → YieldAt F (n - 1) Try.prog l #[.int .i64 ((len - 1 - k : Nat) : Int), .agg #[e (len - 1 - k) 0, e (len - 1 - k) 1, e (len - 1 - k) 2, e (len - 1 - k) 3, e (len - 1 - k) 4]] W fun r W' =>
      (r = .returned (.bool true) ∧ J (k + 1) W' ∧ KpB Bs b off (len * 5) W W') ∨ (r = .returned (.bool false) ∧ Jx () W'))
    (W : World) (hBs : W.cell? ⟨Bs, 0, none⟩ = some (.slice (some ⟨b, off, none⟩) len cap)) (hc : ∀ j, j < len → ∀ i, i < 5 → W.cell? ⟨b, off + (j * 5 + i), none⟩ = some (e j i)) (h0 : J 0 W) :
    CallsIn F n Try.prog 137 #[.func (.yield l) #[] #[], .pointer (some ⟨Bs, 0, none⟩)] W fun r W' => (∃ v, r = .returned v) ∧ (J len W' ∨ Jx () W') := by
  refine callsIn_of_wp Try.func137 rfl hf ?_ hro
  simp only [Try.ntmps137, List.size_toArray, List.length_cons, List.length_nil, Nat.reduceAdd, Nat.reduceSub, Array.replicate_succ, Array.replicate_zero, List.push_toArray, List.append_toArray, List.nil_append, List.cons_append]
  gi_wp2
  gi_loopw [3] (fun i wr => ∃ k r : Nat, k + r = len ∧ i = .int .i64 ((r : Int) - 1) ∧ J k wr ∧ KpB Bs b off (len * 5) W wr)
    (fun i _ => (intOf i + 1).toNat)
  case atStart => exact ⟨0, len, by omega, rfl, h0, KpB.refl W⟩
  case round =>
    obtain ⟨k, r, hk, rfl, hJs, hnx⟩ := hrel
    have hbx := hnx.1 _ hBs
    cases r with
    | succ q =>
      have eq : (((q + 1 : Nat) : Int) - 1) = (q : Int) := by omega
      have hq : len - 1 - k = q := by omega
      rw [eq]
      have hy0 := hY k wr (by omega) hJs
      rw [hq] at hy0
      obtain ⟨fn, tmps, assign, body, hy, hR⟩ := hy0
      have h2 : ∀ i, i < 5 → wr.cell? ⟨b, off + q * 5 + i, none⟩ = some (e q i) := fun i hi => by rw [Nat.add_assoc]; exact hnx.2 _ (by omega) _ (hc q (by omega) i hi)
      have c0 := h2 0 (by omega)
      have c1 := h2 1 (by omega)
      have c2 := h2 2 (by omega)
      have c3 := h2 3 (by omega)
      have c4 := h2 4 (by omega)
      clear h2 hc hY
      simp only [Nat.add_zero] at c0
      have hqn : (0 : Int) ≤ (q : Int) := by omega
      have hql : (q : Int) < (len : Int) := by omega
      have hqlt : q < len := by omega
      gi_wp2
      refine hR.mono ?_
      rintro r W3 (⟨rfl, hJ3, hk3⟩ | ⟨rfl, hJx3⟩)
      · gi_wp2
        go_roundw
        case rel => exact ⟨k + 1, q, by omega, by simp, hJ3, hnx.trans hk3⟩
        case measure => simp [intOf]
      · gi_wp2
        refine bodyPost_ret (results_none rfl _ _ _) rfl ?_
        exact ⟨⟨_, rfl⟩, .inr hJx3⟩
    | zero =>
      obtain rfl : k = len := by omega
      clear hY
      gi_wp2
      go_end0
      exact ⟨⟨_, rfl⟩, .inl hJs⟩
set_option maxRecDepth 100000 in
set_option maxHeartbeats 2000000 in
theorem backF_nil (A : Option Addr) (cap : Nat) (F : Fence) (n : Nat) (hf : F.fn 137) (hro : F.round = none) (l Bs : Nat) (J : World → Prop) (W : World) (hBs : W.cell? ⟨Bs, 0, none⟩ = some (.slice A 0 cap)) (h0 : J W) :
    CallsIn F n Try.prog 137 #[.func (.yield l) #[] #[], .pointer (some ⟨Bs, 0, none⟩)] W fun e W' => (∃ v, e = .returned v) ∧ J W' := by
  refine callsIn_of_wp Try.func137 rfl hf ?_ hro
  simp only [Try.ntmps137, List.size_toArray, List.length_cons, List.length_nil, Nat.reduceAdd, Nat.reduceSub, Array.replicate_succ, Array.replicate_zero, List.push_toArray, List.append_toArray, List.nil_append, List.cons_append]
  gi_wp2
  gi_loopw [3] (fun i wr => i = .int .i64 (-1) ∧ J wr) (fun _ _ => 0)
  case atStart => exact ⟨rfl, h0⟩
  case round =>
    obtain ⟨rfl, hJs⟩ := hrel
    gi_wp2
    go_end0
    exact ⟨⟨_, rfl⟩, hJs⟩
/-- The iterator over a slice that reads as rows. -/
theorem backF_seq {I : Nat → Nat → Prop} {w : World} {v : Value} {rows : List (List D)} {Bs : Nat} (hlt : ∀ b h, I b h → b < w.heap.size) (hv : AtD I w v (.sl 5 rows)) (hBl : Bs < w.heap.size) (hBs : w.cell? ⟨Bs, 0, none⟩ = some v) (hreach : rows.length * 80 ≤ 140737488351232) :
    ∃ (b off : Nat) (us : List Value), us.length = rows.length * 5 ∧ (rows ≠ [] → Up I b (off + rows.length * 5)) ∧ AtDs I w us rows.flatten ∧ (∀ r ∈ rows, r.length = 5) ∧
      ∀ (F : Fence) (n : Nat), F.fn 137 → F.round = none → 1 ≤ n → SeqN F n Try.prog 137 #[.pointer (some ⟨Bs, 0, none⟩)] (fun k => #[.int .i64 ((rows.length - 1 - k : Nat) : Int), .agg (((us.drop ((rows.length - 1 - k) * 5)).take 5).toArray)]) (KpB Bs b off (rows.length * 5)) rows.length w := by
  obtain ⟨A, cap, rfl, hcap, h⟩ := hv.slice
  rcases h with rfl | ⟨b, off, us, rfl, hI, hr, hl, hc, hd⟩
  · exact ⟨0, 0, [], rfl, fun h => absurd rfl h, .nil I w, fun r hr => (by cases hr), fun F n hf hro hn l J Jx W hW hY h0 =>
      (backF_nil A cap F n hf hro l Bs (J 0) W ((hW.cell (p := ⟨Bs, 0, none⟩) hBl).trans hBs) h0).mono fun e W' h => ⟨h.1, .inl h.2⟩⟩
  · refine ⟨b, off, us, hl, fun _ => hI, hd, hr, fun F n hf hro hn l J Jx W hW hY h0 => ?_⟩
    have hbl : b < w.heap.size := by obtain ⟨k, h1, h2⟩ := hI; exact hlt _ _ h2
    refine backF_in (fun j i => us.getD (j * 5 + i) undef) F n hf hro hn l Bs b off rows.length cap hreach J Jx (fun k W1 hk hj => ?_) W ((hW.cell (p := ⟨Bs, 0, none⟩) hBl).trans hBs) (fun j hj i hi => ?_) h0
    · have := hY k W1 hk hj
      have hlen : (rows.length - 1 - k) * 5 + 5 ≤ us.length := by rw [hl, ← Nat.succ_mul]; exact Nat.mul_le_mul_right _ (by omega)
      have e : ((us.drop ((rows.length - 1 - k) * 5)).take 5) = [us.getD ((rows.length - 1 - k) * 5 + 0) undef, us.getD ((rows.length - 1 - k) * 5 + 1) undef, us.getD ((rows.length - 1 - k) * 5 + 2) undef, us.getD ((rows.length - 1 - k) * 5 + 3) undef, us.getD ((rows.length - 1 - k) * 5 + 4) undef] := by
        apply List.ext_getElem?
        intro i
        rw [List.getElem?_take]
        split
        · rename_i hi
          rw [List.getElem?_drop]
          have h3 : (rows.length - 1 - k) * 5 + i < us.length := by omega
          have hu : ∀ j, (rows.length - 1 - k) * 5 + j < us.length → us[(rows.length - 1 - k) * 5 + j]? = some (us.getD ((rows.length - 1 - k) * 5 + j) undef) := fun j hj => by rw [List.getD_eq_getElem?_getD, List.getElem?_eq_getElem hj]; rfl
          rw [hu i h3]
          match i, hi with
          | 0, _ => rfl
           | 1, _ => rfl
           | 2, _ => rfl
           | 3, _ => rfl
           | 4, _ => rfl
          
        · rename_i hi
          rw [List.getElem?_eq_none (by simp; omega)]
      dsimp only at this
      rw [e] at this
      exact this
    · refine (hW.cell (p := ⟨b, off + (j * 5 + i), none⟩) hbl).trans ?_
      have h3 : j * 5 + i < us.length := by
        have h4 : j * 5 + 5 ≤ rows.length * 5 := by rw [← Nat.succ_mul]; exact Nat.mul_le_mul_right _ (by omega)
        omega
      have := hc (j * 5 + i) _ (List.getElem?_eq_getElem h3)
      rw [this, List.getD_eq_getElem?_getD, List.getElem?_eq_getElem h3]
      rfl
set_option maxRecDepth 100000 in
set_option maxHeartbeats 4000000 in
theorem backP_in (e : Nat → Nat → Value) (F : Fence) (n : Nat) (hf : F.fn 143) (hro : F.round = none) (hn : 1 ≤ n) (l Bs b off len cap : Nat) (hreach : len * 32 ≤ 140737488351232) (J : Nat → World → Prop) (Jx : Unit → World → Prop)
    (hY : ∀ (k : Nat) (W : World), k < len → J k W → YieldAt F (n - 1) Try.prog l #[.int .i64 ((len - 1 - k : Nat) : Int), .agg #[e (len - 1 - k) 0, e (len - 1 - k) 1]] W fun r W' =>
      (r = .returned (.bool true) ∧ J (k + 1) W' ∧ KpB Bs b off (len * 2) W W') ∨ (r = .returned (.bool false) ∧ Jx () W'))
    (W : World) (hBs : W.cell? ⟨Bs, 0, none⟩ = some (.slice (some ⟨b, off, none⟩) len cap)) (hc : ∀ j, j < len → ∀ i, i < 2 → W.cell? ⟨b, off + (j * 2 + i), none⟩ = some (e j i)) (h0 : J 0 W) :
    CallsIn F n Try.prog 143 #[.func (.yield l) #[] #[], .pointer (some ⟨Bs, 0, none⟩)] W fun r W' => (∃ v, r = .returned v) ∧ (J len W' ∨ Jx () W') := by
  refine callsIn_of_wp Try.func143 rfl hf ?_ hro
  simp only [Try.ntmps143, List.size_toArray, List.length_cons, List.length_nil, Nat.reduceAdd, Nat.reduceSub, Array.replicate_succ, Array.replicate_zero, List.push_toArray, List.append_toArray, List.nil_append, List.cons_append]
  gi_wp2
  gi_loopw [3] (fun i wr => ∃ k r : Nat, k + r = len ∧ i = .int .i64 ((r : Int) - 1) ∧ J k wr ∧ KpB Bs b off (len * 2) W wr)
    (fun i _ => (intOf i + 1).toNat)
  case atStart => exact ⟨0, len, by omega, rfl, h0, KpB.refl W⟩
  case round =>
    obtain ⟨k, r, hk, rfl, hJs, hnx⟩ := hrel
    have hbx := hnx.1 _ hBs
    cases r with
    | succ q =>
      have eq : (((q + 1 : Nat) : Int) - 1) = (q : Int) := by omega
      have hq : len - 1 - k = q := by omega
      rw [eq]
      have hy0 := hY k wr (by omega) hJs
      rw [hq] at hy0
      obtain ⟨fn, tmps, assign, body, hy, hR⟩ := hy0
      have h2 : ∀ i, i < 2 → wr.cell? ⟨b, off + q * 2 + i, none⟩ = some (e q i) := fun i hi => by rw [Nat.add_assoc]; exact hnx.2 _ (by omega) _ (hc q (by omega) i hi)
      have c0 := h2 0 (by omega)
      have c1 := h2 1 (by omega)
      clear h2 hc hY
      simp only [Nat.add_zero] at c0
      have hqn : (0 : Int) ≤ (q : Int) := by omega
      have hql : (q : Int) < (len : Int) := by omega
      have hqlt : q < len := by omega
      gi_wp2
      refine hR.mono ?_
      rintro r W3 (⟨rfl, hJ3, hk3⟩ | ⟨rfl, hJx3⟩)
      · gi_wp2
        go_roundw
        case rel => exact ⟨k + 1, q, by omega, by simp, hJ3, hnx.trans hk3⟩
        case measure => simp [intOf]
      · gi_wp2
        refine bodyPost_ret (results_none rfl _ _ _) rfl ?_
        exact ⟨⟨_, rfl⟩, .inr hJx3⟩
    | zero =>
      obtain rfl : k = len := by omega
      clear hY
      gi_wp2
      go_end0
      exact ⟨⟨_, rfl⟩, .inl hJs⟩
set_option maxRecDepth 100000 in
set_option maxHeartbeats 2000000 in
theorem backP_nil (A : Option Addr) (cap : Nat) (F : Fence) (n : Nat) (hf : F.fn 143) (hro : F.round = none) (l Bs : Nat) (J : World → Prop) (W : World) (hBs : W.cell? ⟨Bs, 0, none⟩ = some (.slice A 0 cap)) (h0 : J W) :
    CallsIn F n Try.prog 143 #[.func (.yield l) #[] #[], .pointer (some ⟨Bs, 0, none⟩)] W fun e W' => (∃ v, e = .returned v) ∧ J W' := by
  refine callsIn_of_wp Try.func143 rfl hf ?_ hro
  simp only [Try.ntmps143, List.size_toArray, List.length_cons, List.length_nil, Nat.reduceAdd, Nat.reduceSub, Array.replicate_succ, Array.replicate_zero, List.push_toArray, List.append_toArray, List.nil_append, List.cons_append]
  gi_wp2
  gi_loopw [3] (fun i wr => i = .int .i64 (-1) ∧ J wr) (fun _ _ => 0)
  case atStart => exact ⟨rfl, h0⟩
  case round =>
    obtain ⟨rfl, hJs⟩ := hrel
    gi_wp2
    go_end0
    exact ⟨⟨_, rfl⟩, hJs⟩
/-- The iterator over a slice that reads as rows. -/
theorem backP_seq {I : Nat → Nat → Prop} {w : World} {v : Value} {rows : List (List D)} {Bs : Nat} (hlt : ∀ b h, I b h → b < w.heap.size) (hv : AtD I w v (.sl 2 rows)) (hBl : Bs < w.heap.size) (hBs : w.cell? ⟨Bs, 0, none⟩ = some v) (hreach : rows.length * 32 ≤ 140737488351232) :
    ∃ (b off : Nat) (us : List Value), us.length = rows.length * 2 ∧ (rows ≠ [] → Up I b (off + rows.length * 2)) ∧ AtDs I w us rows.flatten ∧ (∀ r ∈ rows, r.length = 2) ∧
      ∀ (F : Fence) (n : Nat), F.fn 143 → F.round = none → 1 ≤ n → SeqN F n Try.prog 143 #[.pointer (some ⟨Bs, 0, none⟩)] (fun k => #[.int .i64 ((rows.length - 1 - k : Nat) : Int), .agg (((us.drop ((rows.length - 1 - k) * 2)).take 2).toArray)]) (KpB Bs b off (rows.length * 2)) rows.length w := by
  obtain ⟨A, cap, rfl, hcap, h⟩ := hv.slice
  rcases h with rfl | ⟨b, off, us, rfl, hI, hr, hl, hc, hd⟩
  · exact ⟨0, 0, [], rfl, fun h => absurd rfl h, .nil I w, fun r hr => (by cases hr), fun F n hf hro hn l J Jx W hW hY h0 =>
      (backP_nil A cap F n hf hro l Bs (J 0) W ((hW.cell (p := ⟨Bs, 0, none⟩) hBl).trans hBs) h0).mono fun e W' h => ⟨h.1, .inl h.2⟩⟩
  · refine ⟨b, off, us, hl, fun _ => hI, hd, hr, fun F n hf hro hn l J Jx W hW hY h0 => ?_⟩
    have hbl : b < w.heap.size := by obtain ⟨k, h1, h2⟩ := hI; exact hlt _ _ h2
    refine backP_in (fun j i => us.getD (j * 2 + i) undef) F n hf hro hn l Bs b off rows.length cap hreach J Jx (fun k W1 hk hj => ?_) W ((hW.cell (p := ⟨Bs, 0, none⟩) hBl).trans hBs) (fun j hj i hi => ?_) h0
    · have := hY k W1 hk hj
      have hlen : (rows.length - 1 - k) * 2 + 2 ≤ us.length := by rw [hl, ← Nat.succ_mul]; exact Nat.mul_le_mul_right _ (by omega)
      have e : ((us.drop ((rows.length - 1 - k) * 2)).take 2) = [us.getD ((rows.length - 1 - k) * 2 + 0) undef, us.getD ((rows.length - 1 - k) * 2 + 1) undef] := by
        apply List.ext_getElem?
        intro i
        rw [List.getElem?_take]
        split
        · rename_i hi
          rw [List.getElem?_drop]
          have h3 : (rows.length - 1 - k) * 2 + i < us.length := by omega
          have hu : ∀ j, (rows.length - 1 - k) * 2 + j < us.length → us[(rows.length - 1 - k) * 2 + j]? = some (us.getD ((rows.length - 1 - k) * 2 + j) undef) := fun j hj => by rw [List.getD_eq_getElem?_getD, List.getElem?_eq_getElem hj]; rfl
          rw [hu i h3]
          match i, hi with
          | 0, _ => rfl
           | 1, _ => rfl
          
        · rename_i hi
          rw [List.getElem?_eq_none (by simp; omega)]
      dsimp only at this
      rw [e] at this
      exact this
    · refine (hW.cell (p := ⟨b, off + (j * 2 + i), none⟩) hbl).trans ?_
      have h3 : j * 2 + i < us.length := by
        have h4 : j * 2 + 2 ≤ rows.length * 2 := by rw [← Nat.succ_mul]; exact Nat.mul_le_mul_right _ (by omega)
        omega
      have := hc (j * 2 + i) _ (List.getElem?_eq_getElem h3)
      rw [this, List.getD_eq_getElem?_getD, List.getElem?_eq_getElem h3]
      rfl
end Go.Proofs.Ytclehkgnacekkaa.Vm

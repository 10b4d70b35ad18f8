/- Layer 1: the walks of the reference (rowanref01): Is, Bytes, Same. -/
import Derived.Test.YtegekajbnecdfaaRNextAll
namespace Go.Proofs.Ytegekajbnecdfaa
open Go.RowKit
theorem Is_any (r : Int) (w : World) : Calls Try.prog 31 #[.int .i64 r] w fun e w' => e = .returned (.bool (isB r)) ∧ w = w' := by
  cases hb : isB r
  · have H : ¬ (0 ≤ r ∧ r ≤ 1114111 ∧ (r < 55296 ∨ 57343 < r)) := by rw [← isB_iff, hb]; decide
    clear hb
    by_cases h0 : r < 0
    · clear H
      go_enter Try.func31, Try.ntmps31
      go_wp2_with fail
      go_ret
      exact ⟨retBool (by simp <;> omega), rfl⟩
    · have h00 : 0 ≤ r := by omega
      by_cases h1 : r < 55296
      · omega
      · by_cases h2 : 57343 < r
        · have h3 : ¬ r ≤ 1114111 := by omega
          clear H h0
          go_enter Try.func31, Try.ntmps31
          go_wp2_with fail
          go_ret
          exact ⟨retBool (by simp <;> omega), rfl⟩
        · clear H h0
          go_enter Try.func31, Try.ntmps31
          go_wp2_with fail
          go_ret
          exact ⟨retBool (by simp <;> omega), rfl⟩
  · rw [isB_iff] at hb
    obtain ⟨h0, h1, h2⟩ := hb
    by_cases h3 : r < 55296
    · clear h2
      go_enter Try.func31, Try.ntmps31
      go_wp2_with fail
      go_ret
      exact ⟨retBool (by simp <;> omega), rfl⟩
    · have h4 : 57343 < r := by omega
      clear h2
      go_enter Try.func31, Try.ntmps31
      go_wp2_with fail
      go_ret
      exact ⟨retBool (by simp <;> omega), rfl⟩
theorem Bytes_1 (r : Int) (w : World) (h0 : 0 ≤ r) (h : r < 128) :
    Calls Try.prog 32 #[.int .i64 r] w fun e w' => e = .returned (.slice (some ⟨w.heap.size, 0, none⟩) (bytesS r).length (bytesS r).length) ∧ w' = w.alloc (.cells ((bytesS r).map (Value.int .u8)).toArray 5) := by
  rw [bytes1 h]
  go_enter Try.func32, Try.ntmps32
  go_wp2_with fail
  go_ret
  exact ⟨rfl, rfl⟩
theorem Bytes_2 (r : Int) (w : World) (h0 : 128 ≤ r) (h : r < 2048) :
    Calls Try.prog 32 #[.int .i64 r] w fun e w' => e = .returned (.slice (some ⟨w.heap.size, 0, none⟩) (bytesS r).length (bytesS r).length) ∧ w' = w.alloc (.cells ((bytesS r).map (Value.int .u8)).toArray 5) := by
  rw [bytes2 (r := r) (by omega) h]
  go_enter Try.func32, Try.ntmps32
  go_wp2_with fail
  go_ret
  exact ⟨rfl, rfl⟩
theorem Bytes_3 (r : Int) (w : World) (h0 : 2048 ≤ r) (h : r < 65536) :
    Calls Try.prog 32 #[.int .i64 r] w fun e w' => e = .returned (.slice (some ⟨w.heap.size, 0, none⟩) (bytesS r).length (bytesS r).length) ∧ w' = w.alloc (.cells ((bytesS r).map (Value.int .u8)).toArray 5) := by
  rw [bytes3 (r := r) (by omega) h]
  go_enter Try.func32, Try.ntmps32
  go_wp2_with fail
  go_ret
  exact ⟨rfl, rfl⟩
theorem Bytes_4 (r : Int) (w : World) (h0 : 65536 ≤ r) (h : r ≤ 1114111) :
    Calls Try.prog 32 #[.int .i64 r] w fun e w' => e = .returned (.slice (some ⟨w.heap.size, 0, none⟩) (bytesS r).length (bytesS r).length) ∧ w' = w.alloc (.cells ((bytesS r).map (Value.int .u8)).toArray 5) := by
  rw [bytes4 (r := r) (by omega)]
  go_enter Try.func32, Try.ntmps32
  go_wp2_with fail
  go_ret
  exact ⟨rfl, rfl⟩
theorem Bytes_any (r : Int) (w : World) (h : isB r = true) :
    Calls Try.prog 32 #[.int .i64 r] w fun e w' => e = .returned (.slice (some ⟨w.heap.size, 0, none⟩) (bytesS r).length (bytesS r).length) ∧ w' = w.alloc (.cells ((bytesS r).map (Value.int .u8)).toArray 5) := by
  rw [isB_iff] at h
  by_cases a : r < 128
  · exact Bytes_1 r w h.1 a
  by_cases b : r < 2048
  · exact Bytes_2 r w (by omega) b
  by_cases c : r < 65536
  · exact Bytes_3 r w (by omega) c
  · exact Bytes_4 r w (by omega) h.2.1
theorem Same_ne (A B : Option Addr) (n m ca cb : Nat) (w : World) (h : n ≠ m) :
    Calls Try.prog 33 #[.slice A n ca, .slice B m cb] w fun e w' => e = .returned (.bool false) ∧ ∃ d, w' = w.drewN d := by
  have g : (((n : Nat) : Int) != (m : Int)) = true := by rw [bne_iff_ne]; omega
  have g2 : ((n : Nat) != m) = true := by rw [bne_iff_ne]; exact h
  go_enter Try.func33, Try.ntmps33
  go_wp2_with fail
  go_ret
  exact ⟨rfl, 0, rfl⟩
theorem Same_0 (A B : Option Addr) (ca cb : Nat) (w : World) :
    Calls Try.prog 33 #[.slice A 0 ca, .slice B 0 cb] w fun e w' => e = .returned (.bool true) ∧ ∃ d, w' = w.drewN d := by
  go_enter Try.func33, Try.ntmps33
  go_wp2_with fail
  refine wp_loop_rounds 1 ?_
  rw [rounds_succ]
  go_wp2_with fail
  go_ret
  exact ⟨rfl, 0, rfl⟩
set_option maxHeartbeats 1000000 in
theorem Same_eq (b1 o1 b2 o2 n ca cb : Nat) (l1 l2 : List Int) (w : World) (h1 : l1.length = n) (h2 : l2.length = n) (hm : n ≤ 9223372036854775807) (c1 : CellsAt w .u8 b1 o1 l1) (c2 : CellsAt w .u8 b2 o2 l2) :
    Calls Try.prog 33 #[.slice (some ⟨b1, o1, none⟩) n ca, .slice (some ⟨b2, o2, none⟩) n cb] w fun e w' => e = .returned (.bool (l1 == l2)) ∧ ∃ d, w' = w.drewN d := by
  have H1 := Lib.hid h1
  have H2 := Lib.hid h2
  have C1 := Lib.hid c1
  have C2 := Lib.hid c2
  clear h1 h2 c1 c2
  go_enter Try.func33, Try.ntmps33
  go_wp2_with fail
  go_loopw [5] (fun i wr => ∃ k d : Nat, k ≤ n ∧ i = .int .i64 k ∧ wr = w.drewN d ∧ l1.take k = l2.take k) (fun i _ => n - (intOf i).toNat)
  case atStart => exact ⟨0, 0, Nat.zero_le _, rfl, rfl, rfl⟩
  case round =>
    obtain ⟨k, d, hk, rfl, rfl, hE⟩ := hrel
    have HE := Lib.hid hE
    clear hE
    by_cases hlt : k < n
    · have k1 : w.cell? ⟨b1, o1 + k, none⟩ = some (.int .u8 (gb l1 k)) := C1.out k (by rw [H1.out]; exact hlt)
      have k2 : w.cell? ⟨b2, o2 + k, none⟩ = some (.int .u8 (gb l2 k)) := C2.out k (by rw [H2.out]; exact hlt)
      have t1 := Lib.hid (take_gb (l := l1) (k := k) (by rw [H1.out]; exact hlt))
      have t2 := Lib.hid (take_gb (l := l2) (k := k) (by rw [H2.out]; exact hlt))
      have e1 := Lib.hid (gb_get (l := l1) (i := k) (by rw [H1.out]; exact hlt))
      have e2 := Lib.hid (gb_get (l := l2) (i := k) (by rw [H2.out]; exact hlt))
      by_cases hc : gb l1 k = gb l2 k
      · rw [← hc] at k2 t2
        clear hc e1 e2
        generalize gb l1 k = c at *
        go_wp2_with fail
        go_quiet (fail)
        go_wp2_with fail
        go_roundw
        case rel => exact ⟨k + 1, d + nq, by omega, by go_num, by simp, by rw [t1.out, t2.out, HE.out]⟩
        case measure => simp [intOf]; omega
      · have hf : (l1 == l2) = false := by
          rw [beq_eq_false_iff_ne]
          rintro rfl
          exact hc rfl
        have hg : (gb l1 k != gb l2 k) = true := bne_iff_ne.2 hc
        have HF := Lib.hid hf
        clear hc e1 e2 t1 t2 hf
        generalize gb l1 k = c at *
        generalize gb l2 k = c' at *
        go_wp2_with fail
        go_quiet (fail)
        go_wp2_with fail
        go_ret
        exact ⟨retBool HF.out.symm, d + nq, by simp⟩
    · have hf : (l1 == l2) = true := by
        rw [beq_iff_eq]
        have := HE.out
        rwa [List.take_of_length_le (by rw [H1.out]; omega), List.take_of_length_le (by rw [H2.out]; omega)] at this
      have HF := Lib.hid hf
      clear hf
      go_wp2_with fail
      go_ret
      exact ⟨retBool HF.out.symm, d, rfl⟩
theorem Same_any (b1 o1 b2 o2 n m ca cb : Nat) (l1 l2 : List Int) (w : World) (h1 : l1.length = n) (h2 : l2.length = m) (hm : n ≤ 9223372036854775807) (c1 : CellsAt w .u8 b1 o1 l1) (c2 : CellsAt w .u8 b2 o2 l2) :
    Calls Try.prog 33 #[.slice (some ⟨b1, o1, none⟩) n ca, .slice (some ⟨b2, o2, none⟩) m cb] w fun e w' => e = .returned (.bool (l1 == l2)) ∧ ∃ d, w' = w.drewN d := by
  by_cases h : n = m
  · subst h
    exact Same_eq b1 o1 b2 o2 n ca cb l1 l2 w h1 h2 hm c1 c2
  · have e : (l1 == l2) = false := by
      rw [beq_eq_false_iff_ne]
      rintro rfl
      exact h (h1.symm.trans h2)
    rw [e]
    exact Same_ne _ _ n m ca cb w h
end Go.Proofs.Ytegekajbnecdfaa

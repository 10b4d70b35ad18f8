/- Layer 17: the walk of the reference's Product: three loops, one within the other. -/
import Derived.Test.YtegekajbnecdfaaPWalk
namespace Go.Proofs.Ytegekajbnecdfaa
open Go.RowKit
def zeros (n : Nat) : List Int := List.replicate n 0
/-- What holds of the limbs behind n rows and k steps of the next one. -/
def PR (w2 : World) (g : Nat) (a b : List Int) (n k : Nat) (L : List Int) (wr : World) : Prop :=
  NumBlk wr g 30 .u64 L ∧ Below g w2 wr ∧ wr.heap.size = g + 1 ∧ L.length = 9 ∧ Limbs L ∧ val L = part a n * val b + gb a n * pw n * part b k
/-- The same in the middle of a carry. -/
def PC (w2 : World) (g : Nat) (a b : List Int) (n k j : Nat) (c : Int) (L : List Int) (wr : World) : Prop :=
  NumBlk wr g 30 .u64 L ∧ Below g w2 wr ∧ wr.heap.size = g + 1 ∧ L.length = 9 ∧ Limbs L ∧ val L + c * pw j = part a n * val b + gb a n * pw n * part b (k + 1)
theorem pc_start {w2 wr : World} {g : Nat} {a b : List Int} {n k : Nat} {L : List Int} (h : PR w2 g a b n k L wr) (ha : Limbs a ∧ a.length = 4) (hb : Limbs b ∧ b.length = 4) (hn : n < 4) (hk : k < 4) (m : Nat) :
    PC w2 g a b n k (n + k) (gb a n * gb b k) L (wr.drewN m) := by
  obtain ⟨h1, h2, h3, h4, h5, h6⟩ := h
  exact ⟨h1, below_drewN h2 m, h3, h4, h5, by rw [h6]; exact (target_bd ha.1 hb.1 ha.2 hb.2 hn hk).1⟩
theorem pc_end {w2 wr : World} {g : Nat} {a b : List Int} {n k j : Nat} {L : List Int} (h : PC w2 g a b n k j 0 L wr) : PR w2 g a b n (k + 1) L wr := by
  obtain ⟨h1, h2, h3, h4, h5, h6⟩ := h
  exact ⟨h1, h2, h3, h4, h5, by rw [← h6]; simp⟩
theorem pc_step {w2 wr : World} {g : Nat} {a b : List Int} {n k j : Nat} {c : Int} {L : List Int} (h : PC w2 g a b n k j c L wr) (hj : j < 9) :
    PC w2 g a b n k (j + 1) ((c + gb L j) / 65536) (L.set j ((c + gb L j) % 65536)) (wr.setCell ⟨g, j, none⟩ (.int .u64 ((c + gb L j) % 65536))) := by
  obtain ⟨h1, h2, h3, h4, h5, h6⟩ := h
  exact ⟨h1.set_ j _, h2.setCell (Nat.le_refl _) _, by simpa [World.setCell] using h3, by simpa using h4, limbs_set h5 j (by omega), carry_step (by omega) h6⟩
theorem pc_room {w2 wr : World} {g : Nat} {a b : List Int} {n k j : Nat} {c : Int} {L : List Int} (h : PC w2 g a b n k j c L wr) (ha : Limbs a ∧ a.length = 4) (hb : Limbs b ∧ b.length = 4) (hn : n < 4) (hk : k < 4) (hc : 0 < c) : j < 8 :=
  carry_room h.2.2.2.2.1 h.2.2.2.2.2 hc (target_bd ha.1 hb.1 ha.2 hb.2 hn hk).2
theorem pr_row {w2 wr : World} {g : Nat} {a b : List Int} {n : Nat} {L : List Int} (h : PR w2 g a b n 4 L wr) (ha : a.length = 4) (hb : b.length = 4) (hn : n < 4) : PR w2 g a b (n + 1) 0 L wr := by
  obtain ⟨h1, h2, h3, h4, h5, h6⟩ := h
  refine ⟨h1, h2, h3, h4, h5, ?_⟩
  rw [h6, row_done hb ha hn]
  simp [part, val]
theorem mul_small {p q : Int} (hp : 0 ≤ p ∧ p < 65536) (hq : 0 ≤ q ∧ q < 65536) : 0 ≤ p * q ∧ p * q ≤ 4294836225 := by
  have h1 := Int.mul_nonneg hp.1 hq.1
  have h2 : p * q ≤ 65535 * 65535 := Int.mul_le_mul (by omega) (by omega) hq.1 (by omega)
  omega
set_option maxRecDepth 100000 in
set_option maxHeartbeats 4000000 in
theorem product_loops (x y : Int) (w : World) (hx : 0 ≤ x) (hx' : x < 18446744073709551616) (hy : 0 ≤ y) (hy' : y < 18446744073709551616) :
    Calls Try.prog 47 #[.int .u64 x, .int .u64 y] w fun e w' => ∃ (g : Nat) (L : List Int), e = .returned (.slice (some ⟨g, 0, none⟩) 8 9) ∧ Below w.heap.size w w' ∧ w.heap.size ≤ g ∧ NumBlk w' g 30 .u64 L ∧ L.length = 9 ∧ Limbs L ∧ val L = x * y := by
  have hmk : ∀ w : World, (Instr.makeSlice 75 (.int .i64 9) (.int .i64 9)).run Try.prog w = .ok (.slice (some ⟨w.heap.size, 0, none⟩) 9 9) (w.alloc (.cells ((zeros 9).map (Value.int .u64)).toArray 30)) := fun _ => by kernel_rfl
  have LA := limbsOf_ok hx hx'
  have LB := limbsOf_ok hy hy'
  have CA := fun w => Lib.hid (limbs_any x w hx hx')
  have CB := fun w => Lib.hid (limbs_any y w hy hy')
  obtain ⟨a, ea⟩ : ∃ a, a = limbsOf x := ⟨_, rfl⟩
  obtain ⟨b, eb⟩ : ∃ b, b = limbsOf y := ⟨_, rfl⟩
  have la : a.length = 4 := by rw [ea]; rfl
  have lb : b.length = 4 := by rw [eb]; rfl
  rw [← ea] at LA CA
  rw [← eb] at LB CB
  clear ea eb
  have HLA := Lib.hid LA
  have HLB := Lib.hid LB
  have Hla := Lib.hid la
  have Hlb := Lib.hid lb
  clear LA LB la lb hx hx' hy hy'
  generalize hz : zeros 9 = Z at hmk
  have HZ := Lib.hid hz
  clear hz
  go_enter Try.func47, Try.ntmps47
  go_wp2_with fail
  refine (CA _).out.mono ?_
  rintro e w' ⟨rfl, rfl⟩
  go_wp2_with fail
  refine (CB _).out.mono ?_
  rintro e w' ⟨rfl, rfl⟩
  go_wp2_with fail
  have hcA : CellsAt (((w.alloc (.cells (a.map (Value.int .u64)).toArray 30)).alloc (.cells (b.map (Value.int .u64)).toArray 30)).alloc (.cells (Z.map (Value.int .u64)).toArray 30)) .u64 w.heap.size 0 a :=
    ((cells_new w .u64 30 a).alloc (by simp) _).alloc (by simp; omega) _
  have hcB : CellsAt (((w.alloc (.cells (a.map (Value.int .u64)).toArray 30)).alloc (.cells (b.map (Value.int .u64)).toArray 30)).alloc (.cells (Z.map (Value.int .u64)).toArray 30)) .u64 (w.heap.size + 1) 0 b :=
    (cells_new_at _ .u64 30 b (by simp)).alloc (by simp) _
  have hP : PR (((w.alloc (.cells (a.map (Value.int .u64)).toArray 30)).alloc (.cells (b.map (Value.int .u64)).toArray 30)).alloc (.cells (Z.map (Value.int .u64)).toArray 30)) (w.heap.size + 1 + 1) a b 0 0 Z
      (((w.alloc (.cells (a.map (Value.int .u64)).toArray 30)).alloc (.cells (b.map (Value.int .u64)).toArray 30)).alloc (.cells (Z.map (Value.int .u64)).toArray 30)) := by
    refine ⟨?_, Below.refl _ _, by simp, by rw [← HZ.out]; rfl, by rw [← HZ.out]; intro x hx; simp [zeros] at hx; omega, by rw [← HZ.out]; simp [zeros, part, val]⟩
    have := NumBlk.new ((w.alloc (.cells (a.map (Value.int .u64)).toArray 30)).alloc (.cells (b.map (Value.int .u64)).toArray 30)) 30 .u64 Z
    simpa using this
  have hbel : Below w.heap.size w (((w.alloc (.cells (a.map (Value.int .u64)).toArray 30)).alloc (.cells (b.map (Value.int .u64)).toArray 30)).alloc (.cells (Z.map (Value.int .u64)).toArray 30)) :=
    (((Below.refl _ _).alloc (Nat.le_refl _) _).alloc (by simp) _).alloc (by simp; omega) _
  generalize (((w.alloc (.cells (a.map (Value.int .u64)).toArray 30)).alloc (.cells (b.map (Value.int .u64)).toArray 30)).alloc (.cells (Z.map (Value.int .u64)).toArray 30)) = W2 at *
  have HA := Lib.hid hcA
  have HB := Lib.hid hcB
  clear hcA hcB hmk
  go_loopw [8] (fun i wr => ∃ (n : Nat) (L : List Int), n ≤ 4 ∧ i = .int .i64 n ∧ PR W2 (w.heap.size + 1 + 1) a b n 0 L wr) (fun i _ => 4 - (intOf i).toNat)
  case atStart => exact ⟨0, Z, by omega, rfl, hP⟩
  case round =>
    clear hP
    obtain ⟨n, L, hn, rfl, hP⟩ := hrel
    have HP := Lib.hid hP
    clear hP
    by_cases hn4 : n < 4
    · go_wp2_with fail
      obtain ⟨w1, rfl⟩ : ∃ w1 : World, w1 = wr := ⟨_, rfl⟩
      go_loopw [9] (fun i wr => ∃ (k : Nat) (L : List Int), k ≤ 4 ∧ i = .int .i64 k ∧ PR W2 (w.heap.size + 1 + 1) a b n k L wr) (fun i _ => 4 - (intOf i).toNat)
      case atStart => exact ⟨0, L, by omega, rfl, HP.out⟩
      case round =>
        clear HP
        obtain ⟨k, L, hk, rfl, hP⟩ := hrel
        have HP := Lib.hid hP
        by_cases hk4 : k < 4
        · have ka : wr.cell? ⟨w.heap.size, n, none⟩ = some (.int .u64 (gb a n)) := by
            have h1 := HA.out n (by rw [Hla.out]; exact hn4)
            rw [Nat.zero_add] at h1
            exact (hP.2.1.cell (p := ⟨w.heap.size, n, none⟩) (by simp only; omega)).trans h1
          have kb : wr.cell? ⟨w.heap.size + 1, k, none⟩ = some (.int .u64 (gb b k)) := by
            have h1 := HB.out k (by rw [Hlb.out]; exact hk4)
            rw [Nat.zero_add] at h1
            exact (hP.2.1.cell (p := ⟨w.heap.size + 1, k, none⟩) (by simp only; omega)).trans h1
          have ga := HLA.out.1 _ (gb_mem (l := a) (i := n) (by rw [Hla.out]; exact hn4))
          have gbb := HLB.out.1 _ (gb_mem (l := b) (i := k) (by rw [Hlb.out]; exact hk4))
          have hpm := mul_small ga gbb
          have hs := pc_start hP ⟨HLA.out.1, Hla.out⟩ ⟨HLB.out.1, Hlb.out⟩ hn4 hk4
          have hw : IntKind.u64.wrap (gb a n * gb b k) = gb a n * gb b k := uw_id (by omega) (by omega)
          obtain ⟨p, hp⟩ : ∃ p, p = gb a n * gb b k := ⟨_, rfl⟩
          rw [← hp] at hw hpm hs
          rw [hp] at hw
          have hw' : IntKind.u64.wrap (gb a n * gb b k) = p := by rw [hp]; exact hw
          have HS := fun m => Lib.hid (hs m)
          clear hw hs hP hp
          generalize gb a n = xa at *
          generalize gb b k = xb at *
          clear HP
          go_wp2_with fail
          go_quiet (fail)
          go_wp2_with fail
          obtain ⟨w3, rfl⟩ : ∃ w3 : World, w3 = wr := ⟨_, rfl⟩
          have HS0 := HS nq
          clear HS ka kb ga gbb
          go_loopw [10, 11] (fun c j wr => ∃ (cc : Int) (jj : Nat) (L : List Int), 0 ≤ cc ∧ cc ≤ 4294836225 ∧ jj ≤ 8 ∧ c = .int .u64 cc ∧ j = .int .i64 jj ∧ PC W2 (w.heap.size + 1 + 1) a b n k jj cc L wr) (fun _ j _ => 9 - (intOf j).toNat)
          case atStart => exact ⟨p, n + k, L, by omega, by omega, by omega, rfl, by go_num, HS0.out⟩
          case round =>
            clear HS0 hpm hw'
            obtain ⟨c, j, L, hc0, hc1, hj8, rfl, rfl, hP⟩ := hrel
            by_cases hc : 0 < c
            · have hj := pc_room hP ⟨HLA.out.1, Hla.out⟩ ⟨HLB.out.1, Hlb.out⟩ hn4 hk4 hc
              have kj : wr.cell? ⟨w.heap.size + 1 + 1, j, none⟩ = some (.int .u64 (gb L j)) := hP.1.cell (by rw [hP.2.2.2.1]; omega)
              have fj : wr.frozen? ⟨w.heap.size + 1 + 1, j, none⟩ = false := hP.1.frozen j
              have gj := hP.2.2.2.2.1 _ (gb_mem (l := L) (i := j) (by rw [hP.2.2.2.1]; omega))
              have hs := pc_step hP (by omega)
              have HS := Lib.hid hs
              clear hs hP hn4 hk4
              generalize gb L j = lj at *
              go_wp2_with fail
              go_roundw
              case rel => exact ⟨(c + lj) / 65536, j + 1, _, by omega, by omega, by omega, rfl, by go_num, HS.out⟩
              case measure => simp [intOf]; omega
            · obtain rfl : c = 0 := by omega
              have hs := Lib.hid (pc_end hP)
              clear hP
              go_wp2_with fail
              go_roundw
              case rel => exact ⟨k + 1, L, by omega, by go_num, hs.out⟩
              case measure => simp [intOf]; omega
        · obtain rfl : k = 4 := by omega
          have hs := Lib.hid (pr_row hP Hla.out Hlb.out hn4)
          clear hP HP
          go_wp2_with fail
          go_roundw
          case rel => exact ⟨n + 1, L, by omega, by go_num, hs.out⟩
          case measure => simp [intOf]; omega
    · obtain rfl : n = 4 := by omega
      have hv : val L = val a * val b := by
        have := HP.out.2.2.2.2.2
        rw [this, part_all a (by rw [Hla.out]; omega)]
        simp [part, val]
      have HV := Lib.hid hv
      clear hv
      go_wp2_with fail
      go_ret
      exact ⟨w.heap.size + 1 + 1, L, rfl, hbel.trans (HP.out.2.1.mono (by omega)), by omega, HP.out.1, HP.out.2.2.2.1, HP.out.2.2.2.2.1, by rw [HV.out, HLA.out.2, HLB.out.2]⟩
end Go.Proofs.Ytegekajbnecdfaa

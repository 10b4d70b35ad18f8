/- Layer 17: the walks of the reference's Minus and Wide; the law ArithWide. -/
import Derived.Test.YtegekajbnecdfaaPProd
import Derived.Deep.RegionWith
namespace Go.Proofs.Ytegekajbnecdfaa
open Go.RowKit
set_option maxRecDepth 100000 in
set_option maxHeartbeats 2000000 in
theorem Minus_any (b off cap : Nat) (l : List Int) (w : World) (hl : l.length = 8) (hlim : Limbs l) (hw : b < w.heap.size) (hc : CellsAt w .u64 b off l) :
    Calls Try.prog 49 #[.slice (some ⟨b, off, none⟩) 8 cap] w fun e w' => ∃ o : List Int, e = .returned (.slice (some ⟨w.heap.size, 0, none⟩) 8 8) ∧ Below w.heap.size w w' ∧ NumBlk w' w.heap.size 30 .u64 o ∧ o.length = 8 ∧ Limbs o ∧ val o = (-val l) % 340282366920938463463374607431768211456 := by
  have hmk : ∀ w : World, (Instr.makeSlice 75 (.int .i64 8) (.int .i64 8)).run Try.prog w = .ok (.slice (some ⟨w.heap.size, 0, none⟩) 8 8) (w.alloc (.cells ((zeros 8).map (Value.int .u64)).toArray 30)) := fun _ => by kernel_rfl
  have HL := Lib.hid hl
  have HM := Lib.hid hlim
  have HC := Lib.hid (hc.alloc hw (.cells ((zeros 8).map (Value.int .u64)).toArray 30))
  have HN := Lib.hid (NumBlk.new w 30 .u64 (zeros 8))
  clear hl hlim hc
  generalize hz : zeros 8 = Z at hmk HC HN
  have HZ := Lib.hid hz
  clear hz
  go_enter Try.func49, Try.ntmps49
  go_wp2_with fail
  have hbel : Below w.heap.size w (w.alloc (.cells (Z.map (Value.int .u64)).toArray 30)) := (Below.refl _ _).alloc (Nat.le_refl _) _
  have hsz : w.heap.size < (w.alloc (.cells (Z.map (Value.int .u64)).toArray 30)).heap.size := by simp
  generalize (w.alloc (.cells (Z.map (Value.int .u64)).toArray 30)) = W2 at *
  clear hmk
  go_loopw [4, 5] (fun c i wr => ∃ (n : Nat) (k : Int) (o : List Int), n ≤ 8 ∧ 0 ≤ k ∧ k ≤ 1 ∧ c = .int .u64 k ∧ i = .int .i64 n ∧ NumBlk wr w.heap.size 30 .u64 o ∧ Below w.heap.size W2 wr ∧ o.length = 8 ∧ Limbs o ∧ part o n + k * pw n = pw n - part l n) (fun _ i _ => 8 - (intOf i).toNat)
  case atStart => exact ⟨0, 1, Z, by omega, by omega, by omega, rfl, rfl, HN.out, Below.refl _ _, by rw [← HZ.out]; rfl, by rw [← HZ.out]; intro x hx; simp [zeros] at hx; omega, by simp [part, val, pw]⟩
  case round =>
    obtain ⟨n, k, o, hn, hk0, hk1, rfl, rfl, hB, hbl, ho, hlo, hE⟩ := hrel
    by_cases hn8 : n < 8
    · have kl : wr.cell? ⟨b, off + n, none⟩ = some (.int .u64 (gb l n)) := (hbl.cell (p := ⟨b, off + n, none⟩) hw).trans (HC.out n (by rw [HL.out]; exact hn8))
      have ko : wr.cell? ⟨w.heap.size, n, none⟩ = some (.int .u64 (gb o n)) := hB.cell (by rw [ho]; exact hn8)
      have fo : wr.frozen? ⟨w.heap.size, n, none⟩ = false := hB.frozen n
      have gl := HM.out _ (gb_mem (l := l) (i := n) (by rw [HL.out]; exact hn8))
      have hs := minus_step (l := l) (o := o) (i := n) (by rw [HL.out]; exact hn8) (by rw [ho]; exact hn8) hE
      have HS := Lib.hid hs
      have HO := Lib.hid ho
      have HB := Lib.hid hB
      clear hs hE ho hB
      generalize gb l n = c at *
      generalize gb o n = c' at *
      go_wp2_with fail
      go_roundw
      case rel => exact ⟨n + 1, (65535 - c + k) / 65536, o.set n ((65535 - c + k) % 65536), by omega, by omega, by omega, rfl, by go_num, HB.out.set_ n _, hbl.setCell (Nat.le_refl _) _, by rw [List.length_set, HO.out], limbs_set hlo n (by omega), HS.out⟩
      case measure => simp [intOf]; omega
    · obtain rfl : n = 8 := by omega
      have hv := Lib.hid (minus_done HL.out ho hlo HM.out hE)
      have HO := Lib.hid ho
      clear hE ho
      go_wp2_with fail
      go_ret
      exact ⟨o, rfl, hbel.trans hbl, hB, HO.out, hlo, hv.out⟩
theorem wordOf_drop (l : List Int) : wordOf (l.drop 4) 0 = wordOf l 4 := by unfold wordOf; simp only [gb_drop]
theorem word_hi (b off c : Nat) (l : List Int) (w : World) (n : Nat) (hl : l.length = 8) (hlim : Limbs l) (hc : CellsAt w .u64 b off l) :
    Calls Try.prog 50 #[.slice (some ⟨b, off + 4, none⟩) 4 c] (w.drewN n) fun e w'' => e = .returned (.int .u64 (wordOf l 4)) ∧ ∃ m, w'' = w.drewN m := by
  rw [← wordOf_drop]
  exact Calls.quiet_of (Word_any b (off + 4) c (l.drop 4) (w.drewN n) (by rw [List.length_drop, hl]; omega) (fun x hx => hlim x (List.mem_of_mem_drop hx)) (cells_drop (hc.drewN n) 4))
theorem word_lo (b off c : Nat) (l : List Int) (w : World) (n : Nat) (hl : l.length = 8) (hlim : Limbs l) (hc : CellsAt w .u64 b off l) :
    Calls Try.prog 50 #[.slice (some ⟨b, off, none⟩) 4 c] (w.drewN n) fun e w'' => e = .returned (.int .u64 (wordOf l 0)) ∧ ∃ m, w'' = w.drewN m :=
  Calls.quiet_of (Word_any b off c l (w.drewN n) (by rw [hl]; omega) hlim (hc.drewN n))
theorem eight {L : List Int} {z : Int} (hl : L.length = 9) (hlim : Limbs L) (hv : val L = z) (hz : z < 340282366920938463463374607431768211456) : (L.take 8).length = 8 ∧ Limbs (L.take 8) ∧ val (L.take 8) = z := by
  have h1 : Limbs (L.take 8) := fun x hx => hlim x (List.mem_of_mem_take hx)
  have h2 : (L.take 8).length = 8 := by rw [List.length_take, hl]; rfl
  refine ⟨h2, h1, ?_⟩
  have e := part_succ (l := L) (k := 8) (by omega)
  rw [part_all L (by omega), pw8] at e
  have hg := hlim _ (gb_mem (l := L) (i := 8) (by omega))
  have hb := val_bd h1
  rw [h2, pw8] at hb
  show part L 8 = z
  unfold part at e ⊢
  omega
set_option maxRecDepth 100000 in
set_option maxHeartbeats 2000000 in
theorem refWide_any (x y : Int) (w : World) (hx : In64 x) (hy : In64 y) :
    Calls Try.prog 20 #[.int .i64 x, .int .i64 y] w fun e w' => e = .returned (.tuple #[.int .u64 (x * y / 18446744073709551616 % 18446744073709551616), .int .u64 (x * y % 18446744073709551616)]) ∧ Below w.heap.size w w' := by
  have hmb := mul_bd hx hy
  have hsm := @size_mul x y
  have S1 := fun w => Lib.hid (Size_any x w hx)
  have S2 := fun w => Lib.hid (Size_any y w hy)
  have hX : 0 ≤ (x.natAbs : Int) ∧ (x.natAbs : Int) < 18446744073709551616 := by unfold In64 at hx; omega
  have hY : 0 ≤ (y.natAbs : Int) ∧ (y.natAbs : Int) < 18446744073709551616 := by unfold In64 at hy; omega
  have P := fun w => Lib.hid (product_loops x.natAbs y.natAbs w hX.1 hX.2 hY.1 hY.2)
  generalize (x.natAbs : Int) = X at *
  generalize (y.natAbs : Int) = Y at *
  have HMB := Lib.hid hmb
  have HSM := Lib.hid hsm
  clear hmb hsm hX hY
  unfold In64 at hx hy
  by_cases hsg : x < 0 ↔ y < 0
  · have hd : (!(decide (x < 0) == decide (y < 0))) = false := by
      by_cases a : x < 0
      · have b := hsg.1 a; simp [a, b]
      · have b : ¬ y < 0 := fun h => a (hsg.2 h); simp [a, b]
    have hv : X * Y = x * y := by have := HSM.out; rw [if_pos hsg] at this; exact this
    have HV := Lib.hid hv
    clear hv hsg
    go_enter Try.func20, Try.ntmps20
    go_wp2_with fail
    refine (S1 _).out.mono ?_
    rintro e w' ⟨rfl, rfl⟩
    go_wp2_with fail
    refine (S2 _).out.mono ?_
    rintro e w' ⟨rfl, rfl⟩
    go_wp2_with fail
    refine (P _).out.mono ?_
    rintro e w' ⟨g, L, rfl, hbel, hg, hB, hl, hlim, hvl⟩
    obtain ⟨e1, e2, e3⟩ := eight hl hlim hvl (by have h1 := HMB.out; have h2 := HV.out; omega)
    have hc : CellsAt w' .u64 g 0 (L.take 8) := cells_take hB.cells 8
    have hww := wide_words e2 e1 (z := x * y) (by rw [e3, HV.out]; have h1 := HMB.out; have h2 := (val_bd hlim).1; rw [hvl, HV.out] at h2; omega)
    have HW := Lib.hid hww
    have H1 := Lib.hid e1
    have H2 := Lib.hid e2
    have HC := Lib.hid hc
    clear hww e1 e2 e3 hvl hl hlim hB
    go_wp2_with fail
    go_quiet (first
      | (go_at_call_of 50 (Value.slice (some ⟨g, 4, none⟩) 4 5); exact word_hi g 0 _ (L.take 8) _ _ H1.out H2.out HC.out)
      | (go_at_call_of 50 (Value.slice (some ⟨g, 0, none⟩) 4 9); exact word_lo g 0 _ (L.take 8) _ _ H1.out H2.out HC.out))
    go_wp2_with fail
    go_ret2
    exact ⟨ret2c (intc HW.out.1) (intc HW.out.2), below_drewN hbel _⟩
  · have hd : (!(decide (x < 0) == decide (y < 0))) = true := by
      by_cases a : x < 0
      · have b : ¬ y < 0 := fun h => hsg ⟨fun _ => h, fun _ => a⟩; simp [a, b]
      · have b : y < 0 := by
          apply Decidable.byContradiction
          intro h
          exact hsg ⟨fun h' => absurd h' a, fun h' => absurd h' h⟩
        simp [a, b]
    have hv : X * Y = -(x * y) := by have := HSM.out; rw [if_neg hsg] at this; exact this
    have HV := Lib.hid hv
    clear hv hsg
    go_enter Try.func20, Try.ntmps20
    go_wp2_with fail
    refine (S1 _).out.mono ?_
    rintro e w' ⟨rfl, rfl⟩
    go_wp2_with fail
    refine (S2 _).out.mono ?_
    rintro e w' ⟨rfl, rfl⟩
    go_wp2_with fail
    refine (P _).out.mono ?_
    rintro e w' ⟨g, L, rfl, hbel, hg, hB, hl, hlim, hvl⟩
    obtain ⟨e1, e2, e3⟩ := eight hl hlim hvl (by have h1 := HMB.out; have h2 := HV.out; omega)
    have M := Lib.hid (Minus_any g 0 9 (L.take 8) w' e1 e2 (Blk.lt hB) (cells_take hB.cells 8))
    have HE := Lib.hid (e3.trans HV.out)
    clear e1 e2 e3 hvl hl hlim hB
    go_wp2_with fail
    refine M.out.mono ?_
    rintro e w1 ⟨o, rfl, hbel1, hB1, ho, hlo, hvo⟩
    have hww := wide_words hlo ho (z := x * y) (by rw [hvo, HE.out]; omega)
    have HW := Lib.hid hww
    have H1 := Lib.hid ho
    have H2 := Lib.hid hlo
    have HC := Lib.hid hB1.cells
    have HBB := Lib.hid (hbel.trans (hbel1.mono hbel.size))
    clear hww ho hlo hvo hB1 hbel1 hbel
    generalize w'.heap.size = g1 at *
    go_wp2_with fail
    go_quiet (first
      | (go_at_call_of 50 (Value.slice (some ⟨g1, 4, none⟩) 4 4); exact word_hi g1 0 _ o _ _ H1.out H2.out HC.out)
      | (go_at_call_of 50 (Value.slice (some ⟨g1, 0, none⟩) 4 8); exact word_lo g1 0 _ o _ _ H1.out H2.out HC.out))
    go_wp2_with fail
    go_ret2
    exact ⟨ret2c (intc HW.out.1) (intc HW.out.2), below_drewN HBB.out _⟩
set_option maxHeartbeats 1000000 in
theorem arithWide_walk (x y : Int) (w : World) (hx : In64 x) (hy : In64 y) :
    Calls Try.prog 4 #[.int .i64 x, .int .i64 y] w fun e w' => e = .returned (.bool true) ∧ Below w.heap.size w w' := by
  have A := fun w => Lib.hid (alive17 w)
  have C1 := fun w => Lib.hid (wide_any x y w hx hy)
  have C2 := fun w => Lib.hid (refWide_any x y w hx hy)
  have e : IntKind.u64.wrap (x * y / 18446744073709551616) = x * y / 18446744073709551616 % 18446744073709551616 := uw_eq _
  generalize x * y / 18446744073709551616 % 18446744073709551616 = h at *
  generalize x * y / 18446744073709551616 = h' at *
  generalize x * y % 18446744073709551616 = l at *
  go_enter Try.func4, Try.ntmps4
  go_wp2_with fail
  refine (A _).out.mono ?_
  rintro e w' ⟨rfl, m, rfl⟩
  go_wp2_with fail
  refine (C1 _).out.mono ?_
  rintro e w' ⟨rfl, rfl⟩
  go_wp2_with fail
  refine (C2 _).out.mono ?_
  rintro e w' ⟨rfl, hbel⟩
  go_wp2_with fail
  go_ret
  exact ⟨rfl, below_of_drewN hbel⟩
end Go.Proofs.Ytegekajbnecdfaa

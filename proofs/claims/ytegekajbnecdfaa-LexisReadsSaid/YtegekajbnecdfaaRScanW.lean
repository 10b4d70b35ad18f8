/- Layer 1: the walks of Check, Count, Place (runes) and Wrong, Points, Place (rowanref01). -/
import Derived.Test.YtegekajbnecdfaaRScan
import Derived.Test.YtegekajbnecdfaaRMain
import Derived.Test.YtegekajbnecdfaaBlk
namespace Go.Proofs.Ytegekajbnecdfaa
open Go.RowKit
theorem next_at (b off len cap a : Nat) (l : List Int) (w : World) (hl : l.length = len) (h0 : a < len) (hcap : len ≤ cap) (hm : cap ≤ 9223372036854775807) (hb : Byt l) (hc : CellsAt w .u8 b off l) :
    Calls Try.prog 45 #[.slice (some ⟨b, off + a, none⟩) (len - a) (cap - a)] w fun e w' => e = .returned (.tuple #[.int .i32 (rn l a), .int .i64 (nx l a : Nat)]) ∧ w = w' := by
  have h := next_any b (off + a) (len - a) (cap - a) (l.drop a) w (by rw [List.length_drop, hl]) (by omega) (by omega) (by omega) (byt_drop hb a) (cells_drop hc a)
  rw [next_eq] at h
  exact h
theorem At_at (b off len cap a : Nat) (l : List Int) (w : World) (hl : l.length = len) (h0 : a < len) (hcap : len ≤ cap) (hlm : len ≤ 4611686018427387904) (hm : cap ≤ 9223372036854775807) (hb : Byt l) (hw : b < w.heap.size) (hc : CellsAt w .u8 b off l) :
    Calls Try.prog 17 #[.slice (some ⟨b, off, none⟩) len cap, .int .i64 (a : Int)] w fun e w' => e = .returned (.tuple #[.int .i64 (rn l a), .int .i64 (nx l a : Nat)]) ∧ Below w.heap.size w w' := by
  have h := At_any b off len cap a l w hl h0 hcap hlm hm hb hw hc
  rw [next_eq] at h
  exact h
theorem nz_of {n : Nat} (h : n ≠ 0) : ((n : Int) == 0) = false := by rw [beq_eq_false_iff_ne]; omega
theorem z_of {n : Nat} (h : n = 0) : ((n : Int) == 0) = true := by rw [h]; rfl
set_option maxHeartbeats 1000000 in
theorem Check_any (A : Option Addr) (len cap : Nat) (l : List Int) (w : World) (hl : l.length = len) (hcap : len ≤ cap) (hm : cap ≤ 9223372036854775807) (hb : Byt l) (hs : SliceAt w .u8 A l) :
    Calls Try.prog 26 #[.slice A len cap] w fun e w' => e = .returned (.int .i64 (wrongS l 0)) ∧ w = w' := by
  have HL := Lib.hid hl
  have HS := Lib.hid hs
  have C := fun a h0 b off hc => Lib.hid (next_at b off len cap a l w hl h0 hcap hm hb hc)
  clear hl hs hb
  go_enter Try.func26, Try.ntmps26
  go_wp2_with fail
  go_loop [3] (fun i => ∃ a : Nat, a ≤ len ∧ i = .int .i64 a ∧ wrongS l a = wrongS l 0) (fun i => len - (intOf i).toNat)
  case atStart => exact ⟨0, Nat.zero_le _, rfl, rfl⟩
  case round =>
    obtain ⟨a, ha, rfl, hW⟩ := hrel
    have HW := Lib.hid hW
    clear hW
    by_cases hlt : a < len
    · obtain ⟨b, off, rfl, hlb, hc⟩ := HS.out.cells (by rw [HL.out]; omega)
      have CC := C a hlt b off hc
      clear hc C
      by_cases hn : nx l a = 0
      · have g := z_of hn
        have hv := Lib.hid ((wrong_here (by rw [HL.out]; exact hlt) hn).symm.trans HW.out)
        clear hn
        generalize nx l a = n at *
        go_wp2_with fail
        refine CC.out.mono ?_
        rintro e w' ⟨rfl, rfl⟩
        go_wp2_with fail
        go_ret
        exact ⟨retInt hv.out, rfl⟩
      · have g := nz_of hn
        have hv := Lib.hid ((wrong_step (by rw [HL.out]; exact hlt) hn).symm.trans HW.out)
        have hbd := (nx_bd hn).2.2 (by rw [HL.out]; exact hlt)
        rw [HL.out] at hbd
        have hb1 := (nx_bd hn).1
        clear hn
        generalize nx l a = n at *
        go_wp2_with fail
        refine CC.out.mono ?_
        rintro e w' ⟨rfl, rfl⟩
        go_wp2_with fail
        go_round
        case rel => exact ⟨a + n, by omega, by go_num, hv.out⟩
        case measure => simp [intOf]; omega
    · have hv := Lib.hid ((wrong_end (by rw [HL.out]; omega)).symm.trans HW.out)
      clear C
      go_wp2_with fail
      go_ret
      exact ⟨retInt hv.out, rfl⟩
/-- What Count tells. -/
def countTold (l : List Int) : Value := if wrongS l 0 = -1 then .tuple #[.int .i64 (pointsS l 0).length, .int .u8 0] else .tuple #[.int .i64 0, .int .u8 3]
theorem countTold_bad {l : List Int} {a : Nat} (h : (a : Int) = wrongS l 0) : countTold l = .tuple #[.int .i64 0, .int .u8 3] := by unfold countTold; rw [if_neg (by omega)]
theorem countTold_good {l : List Int} (h : -1 = wrongS l 0) : countTold l = .tuple #[.int .i64 (pointsS l 0).length, .int .u8 0] := by unfold countTold; rw [if_pos h.symm]
set_option maxHeartbeats 1000000 in
theorem Count_any (A : Option Addr) (len cap : Nat) (l : List Int) (w : World) (hl : l.length = len) (hcap : len ≤ cap) (hm : cap ≤ 9223372036854775807) (hb : Byt l) (hs : SliceAt w .u8 A l) :
    Calls Try.prog 25 #[.slice A len cap] w fun e w' => e = .returned (countTold l) ∧ w = w' := by
  have HL := Lib.hid hl
  have HS := Lib.hid hs
  have C := fun a h0 b off hc => Lib.hid (next_at b off len cap a l w hl h0 hcap hm hb hc)
  clear hl hs hb
  go_enter Try.func25, Try.ntmps25
  go_wp2_with fail
  go_loop [4, 5] (fun c i => ∃ a k : Nat, a ≤ len ∧ k ≤ a ∧ i = .int .i64 a ∧ c = .int .i64 k ∧ wrongS l a = wrongS l 0 ∧ k + (pointsS l a).length = (pointsS l 0).length) (fun _ i => len - (intOf i).toNat)
  case atStart => exact ⟨0, 0, Nat.zero_le _, Nat.zero_le _, rfl, rfl, rfl, by omega⟩
  case round =>
    obtain ⟨a, k, ha, hk, rfl, rfl, hW, hP⟩ := hrel
    have HW := Lib.hid hW
    have HP := Lib.hid hP
    clear hW hP
    by_cases hlt : a < len
    · obtain ⟨b, off, rfl, hlb, hc⟩ := HS.out.cells (by rw [HL.out]; omega)
      have CC := C a hlt b off hc
      clear hc C
      by_cases hn : nx l a = 0
      · have g := z_of hn
        have hv := Lib.hid (countTold_bad ((wrong_here (by rw [HL.out]; exact hlt) hn).symm.trans HW.out))
        clear hn
        generalize nx l a = n at *
        go_wp2_with fail
        refine CC.out.mono ?_
        rintro e w' ⟨rfl, rfl⟩
        go_wp2_with fail
        go_ret2
        exact ⟨by rw [hv.out]; rfl, rfl⟩
      · have g := nz_of hn
        have hv := Lib.hid ((wrong_step (by rw [HL.out]; exact hlt) hn).symm.trans HW.out)
        have hp := HP.out
        rw [points_step (by rw [HL.out]; exact hlt) hn, List.length_cons] at hp
        have HP2 := Lib.hid hp
        have hbd := (nx_bd hn).2.2 (by rw [HL.out]; exact hlt)
        rw [HL.out] at hbd
        have hb1 := (nx_bd hn).1
        clear hn hp HP
        generalize nx l a = n at *
        go_wp2_with fail
        refine CC.out.mono ?_
        rintro e w' ⟨rfl, rfl⟩
        go_wp2_with fail
        go_round
        case rel => exact ⟨a + n, k + 1, by omega, by omega, by go_num, by go_num, hv.out, by have := HP2.out; omega⟩
        case measure => simp [intOf]; omega
    · have hv := Lib.hid (countTold_good ((wrong_end (by rw [HL.out]; omega)).symm.trans HW.out))
      have hp := HP.out
      rw [points_end (by rw [HL.out]; omega), List.length_nil] at hp
      have HP2 := Lib.hid hp
      clear C hp HP
      go_wp2_with fail
      go_ret2
      exact ⟨by rw [hv.out]; exact ret2c (intc (by have := HP2.out; omega)) rfl, rfl⟩
set_option maxHeartbeats 1000000 in
theorem Wrong_any (A : Option Addr) (len cap : Nat) (l : List Int) (w : World) (hl : l.length = len) (hcap : len ≤ cap) (hlm : len ≤ 4611686018427387904) (hm : cap ≤ 9223372036854775807) (hb : Byt l) (hs : SliceAt w .u8 A l) :
    Calls Try.prog 24 #[.slice A len cap] w fun e w' => e = .returned (.int .i64 (wrongS l 0)) ∧ Below w.heap.size w w' := by
  have HL := Lib.hid hl
  have HS := Lib.hid hs
  have C := fun w a h0 b off hw hc => Lib.hid (At_at b off len cap a l w hl h0 hcap hlm hm hb hw hc)
  clear hl hs hb
  go_enter Try.func24, Try.ntmps24
  go_wp2_with fail
  go_loopw [3] (fun i wr => ∃ a : Nat, a ≤ len ∧ i = .int .i64 a ∧ wrongS l a = wrongS l 0 ∧ Below w.heap.size w wr) (fun i _ => len - (intOf i).toNat)
  case atStart => exact ⟨0, Nat.zero_le _, rfl, rfl, Below.refl _ _⟩
  case round =>
    obtain ⟨a, ha, rfl, hW, hbel⟩ := hrel
    have HW := Lib.hid hW
    clear hW
    by_cases hlt : a < len
    · obtain ⟨b, off, rfl, hlb, hc⟩ := (HS.out.below_all hbel).cells (by rw [HL.out]; omega)
      have CC := C wr a hlt b off hlb hc
      clear hc C
      by_cases hn : nx l a = 0
      · have g := z_of hn
        have hv := Lib.hid ((wrong_here (by rw [HL.out]; exact hlt) hn).symm.trans HW.out)
        clear hn
        generalize nx l a = n at *
        go_wp2_with fail
        refine CC.out.mono ?_
        rintro e w' ⟨rfl, hbel1⟩
        go_wp2_with fail
        go_ret
        exact ⟨retInt hv.out, hbel.trans (hbel1.mono hbel.size)⟩
      · have g := nz_of hn
        have hv := Lib.hid ((wrong_step (by rw [HL.out]; exact hlt) hn).symm.trans HW.out)
        have hbd := (nx_bd hn).2.2 (by rw [HL.out]; exact hlt)
        rw [HL.out] at hbd
        have hb1 := (nx_bd hn).1
        clear hn
        generalize nx l a = n at *
        go_wp2_with fail
        refine CC.out.mono ?_
        rintro e w' ⟨rfl, hbel1⟩
        go_wp2_with fail
        go_roundw
        case rel => exact ⟨a + n, by omega, by go_num, hv.out, hbel.trans (hbel1.mono hbel.size)⟩
        case measure => simp [intOf]; omega
    · have hv := Lib.hid ((wrong_end (by rw [HL.out]; omega)).symm.trans HW.out)
      clear C
      go_wp2_with fail
      go_ret
      exact ⟨retInt hv.out, hbel⟩
end Go.Proofs.Ytegekajbnecdfaa

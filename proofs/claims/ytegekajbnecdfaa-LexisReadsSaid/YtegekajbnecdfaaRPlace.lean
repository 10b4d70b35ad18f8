/- Layer 1: the walks of both Places; the laws RunesCheck and RunesPlaces. -/
import Derived.Test.YtegekajbnecdfaaRPts
namespace Go.Proofs.Ytegekajbnecdfaa
open Go.RowKit
theorem lc_take {ps : List Int} {k : Nat} (h : k < ps.length) : lc (ps.take (k + 1)) 1 1 = if gb ps k = 10 then ((lc (ps.take k) 1 1).1 + 1, 1) else ((lc (ps.take k) 1 1).1, (lc (ps.take k) 1 1).2 + 1) := by
  rw [take_gb h, lc_snoc]
set_option maxRecDepth 100000 in
set_option maxHeartbeats 1000000 in
theorem refPlace_any (A : Option Addr) (len cap : Nat) (l : List Int) (w : World) (hl : l.length = len) (hcap : len ≤ cap) (hlm : len ≤ 1099511627776) (hm : cap ≤ 9223372036854775807) (hb : Byt l) (hs : SliceAt w .u8 A l) (hok : wrongS l 0 = -1) :
    Calls Try.prog 29 #[.slice A len cap] w fun e w' => e = .returned (.tuple #[.int .i64 (lc (pointsS l 0) 1 1).1, .int .i64 (lc (pointsS l 0) 1 1).2]) ∧ Below w.heap.size w w' := by
  have C := fun w hs => Lib.hid (Points_any A len cap l w hl hcap hlm hm hb hs hok)
  have hpl := points_len l 0
  rw [hl] at hpl
  have HS := Lib.hid hs
  clear hl hs hb hok hcap
  generalize pointsS l 0 = ps at *
  go_enter Try.func29, Try.ntmps29
  go_wp2_with fail
  refine (C _ HS.out).out.mono ?_
  rintro e w1 ⟨v, rfl, hown, hbel⟩
  obtain ⟨A1, cap1, rfl, hc1, hm1, hs1⟩ := hown.slice
  unfold maxLen at hm1
  obtain ⟨n, hn⟩ : ∃ n, n = ps.length := ⟨_, rfl⟩
  rw [← hn] at hpl hc1
  rw [← hn]
  have HN := Lib.hid hn
  have H1 := Lib.hid hs1
  clear hn hs1 C hown
  go_wp2_with fail
  go_loop [5, 6, 7] (fun x y i => ∃ k : Nat, k ≤ n ∧ i = .int .i64 k ∧ x = .int .i64 (lc (ps.take k) 1 1).1 ∧ y = .int .i64 (lc (ps.take k) 1 1).2) (fun _ _ i => n - (intOf i).toNat)
  case atStart => exact ⟨0, Nat.zero_le _, rfl, by simp [lc], by simp [lc]⟩
  case round =>
    obtain ⟨k, hk, rfl, rfl, rfl⟩ := hrel
    by_cases hlt : k < n
    · obtain ⟨b, off, rfl, hlb, hc⟩ := H1.out.cells (by rw [← HN.out]; omega)
      have kc := hc k (by rw [← HN.out]; exact hlt)
      have hbd := lc_bd (ps.take k) 1 1 (by omega) (by omega)
      have htk : (ps.take k).length ≤ k := List.length_take_le _ _
      have hst := lc_take (ps := ps) (k := k) (by rw [← HN.out]; exact hlt)
      clear hc
      generalize lc (ps.take k) 1 1 = q at *
      obtain ⟨x, y⟩ := q
      simp only at hbd hst
      by_cases h10 : gb ps k = 10
      · rw [if_pos h10] at hst
        rw [h10] at kc
        have HST := Lib.hid hst
        clear hst h10
        go_wp2_with fail
        go_round
        case rel => exact ⟨k + 1, by omega, by go_num, by rw [HST.out], by rw [HST.out]⟩
        case measure => simp [intOf]; omega
      · rw [if_neg h10] at hst
        have hg : (gb ps k == 10) = false := beq_eq_false_iff_ne.2 h10
        have HST := Lib.hid hst
        clear hst h10
        generalize gb ps k = c at *
        go_wp2_with fail
        go_round
        case rel => exact ⟨k + 1, by omega, by go_num, by rw [HST.out], by rw [HST.out]⟩
        case measure => simp [intOf]; omega
    · have he : ps.take k = ps := List.take_of_length_le (by rw [← HN.out]; omega)
      rw [he]
      clear he
      go_wp2_with fail
      go_ret2
      exact ⟨rfl, hbel⟩
/-- What Place tells of bytes and a place within, by the bytes ahead of it. -/
def placeTold (l : List Int) : Value := if wrongS l 0 = -1 then .tuple #[.int .i64 (lc (pointsS l 0) 1 1).1, .int .i64 (lc (pointsS l 0) 1 1).2, .int .u8 0] else .tuple #[.int .i64 0, .int .i64 0, .int .u8 3]
theorem placeTold_bad {l : List Int} (h : 0 ≤ wrongS l 0) : placeTold l = .tuple #[.int .i64 0, .int .i64 0, .int .u8 3] := by unfold placeTold; rw [if_neg (by omega)]
theorem placeTold_good {l : List Int} (h : wrongS l 0 = -1) : placeTold l = .tuple #[.int .i64 (lc (pointsS l 0) 1 1).1, .int .i64 (lc (pointsS l 0) 1 1).2, .int .u8 0] := by unfold placeTold; rw [if_pos h]
/-- Where going over the bytes stands: within, or behind the place, and then the bytes ahead are wrong. -/
def PlaceAt (l : List Int) (m k : Nat) (n c : Int) : Prop :=
  (k ≤ m ∧ wrongS (l.take m) k = wrongS (l.take m) 0 ∧ lc (pointsS (l.take m) k) n c = lc (pointsS (l.take m) 0) 1 1 ∧ n ≤ k + 1 ∧ c ≤ k + 1) ∨ (m < k ∧ k ≤ m + 4 ∧ 0 ≤ wrongS (l.take m) 0 ∧ n ≤ k + 1 ∧ c ≤ k + 1)
theorem placeAt_zero (l : List Int) {m k : Nat} {n c : Int} (hb : Byt l) (hm : m ≤ l.length) (h : PlaceAt l m k n c) (hk : k < m) (h0 : nx l k = 0) : 0 ≤ wrongS (l.take m) 0 := by
  rcases h with ⟨_, h1, _⟩ | ⟨h1, _⟩
  · have hl : (l.take m).length = m := by rw [List.length_take]; omega
    have : nx (l.take m) k = 0 := by
      by_cases h : k + nx l k ≤ m
      · rw [(nx_take_in hb h).1]; exact h0
      · exact nx_take_out hb h
    rw [← h1, wrong_here (by omega) this]
    omega
  · omega
theorem placeAt_step (l : List Int) {m k : Nat} {n c : Int} (hb : Byt l) (hm : m ≤ l.length) (h : PlaceAt l m k n c) (hk : k < m) (h0 : nx l k ≠ 0) :
    (rn l k = 10 → PlaceAt l m (k + nx l k) (n + 1) 1) ∧ (rn l k ≠ 10 → PlaceAt l m (k + nx l k) n (c + 1)) := by
  have hl : (l.take m).length = m := by rw [List.length_take]; omega
  have hbd := nx_bd h0
  rcases h with ⟨_, h1, h2, h3, h4⟩ | ⟨h1, _⟩
  · by_cases h : k + nx l k ≤ m
    · obtain ⟨e1, e2⟩ := nx_take_in hb h
      have hw := wrong_step (l := l.take m) (a := k) (by omega) (by rw [e1]; exact h0)
      have hp := points_step (l := l.take m) (a := k) (by omega) (by rw [e1]; exact h0)
      rw [e1] at hw hp
      rw [e2] at hp
      rw [hp] at h2
      simp only [lc] at h2
      constructor
      · intro h10
        rw [if_pos h10] at h2
        exact .inl ⟨h, hw.symm.trans h1, h2, by omega, by omega⟩
      · intro h10
        rw [if_neg h10] at h2
        exact .inl ⟨h, hw.symm.trans h1, h2, by omega, by omega⟩
    · have e := nx_take_out hb h
      have hw := wrong_here (l := l.take m) (a := k) (by omega) e
      have : 0 ≤ wrongS (l.take m) 0 := by rw [← h1, hw]; omega
      exact ⟨fun _ => .inr ⟨by omega, by omega, this, by omega, by omega⟩, fun _ => .inr ⟨by omega, by omega, this, by omega, by omega⟩⟩
  · omega
theorem placeAt_end (l : List Int) {m : Nat} {n c : Int} (hm : m ≤ l.length) (h : PlaceAt l m m n c) : placeTold (l.take m) = .tuple #[.int .i64 n, .int .i64 c, .int .u8 0] := by
  have hl : (l.take m).length = m := by rw [List.length_take]; omega
  rcases h with ⟨_, h1, h2, _⟩ | ⟨h1, _⟩
  · rw [wrong_end (by omega)] at h1
    rw [points_end (by omega)] at h2
    simp only [lc] at h2
    rw [placeTold_good h1.symm, ← h2]
  · omega
theorem placeAt_past (l : List Int) {m k : Nat} {n c : Int} (h : PlaceAt l m k n c) (hk : m < k) : placeTold (l.take m) = .tuple #[.int .i64 0, .int .i64 0, .int .u8 3] := by
  rcases h with ⟨h1, _⟩ | ⟨_, _, h1, _⟩
  · omega
  · exact placeTold_bad h1
theorem Place_out (A : Option Addr) (len cap : Nat) (a : Int) (w : World) (h0 : a < 0 ∨ (len : Int) < a) (_hm : len ≤ 9223372036854775807) :
    Calls Try.prog 28 #[.slice A len cap, .int .i64 a] w fun e w' => e = .returned (.tuple #[.int .i64 0, .int .i64 0, .int .u8 1]) ∧ w = w' := by
  by_cases h1 : a < 0
  · clear h0
    go_enter Try.func28, Try.ntmps28
    go_wp2_with fail
    go_ret3
    exact ⟨rfl, rfl⟩
  · have h2 : (len : Int) < a := by omega
    have h3 : 0 ≤ a := by omega
    clear h0 h1
    go_enter Try.func28, Try.ntmps28
    go_wp2_with fail
    go_ret3
    exact ⟨rfl, rfl⟩
set_option maxRecDepth 100000 in
set_option maxHeartbeats 1000000 in
theorem Place_in (A : Option Addr) (len cap m : Nat) (l : List Int) (w : World) (hl : l.length = len) (hcap : len ≤ cap) (hlm : len ≤ 1099511627776) (hm : cap ≤ 9223372036854775807) (hb : Byt l) (hs : SliceAt w .u8 A l) (hmm : m ≤ len) :
    Calls Try.prog 28 #[.slice A len cap, .int .i64 (m : Int)] w fun e w' => e = .returned (placeTold (l.take m)) ∧ w = w' := by
  have HL := Lib.hid hl
  have HS := Lib.hid hs
  have HB := Lib.hid hb
  have C := fun a h0 b off hc => Lib.hid (next_at b off len cap a l w hl h0 hcap hm hb hc)
  have h00 : (0 : Int) ≤ (m : Int) := by omega
  have h01 : (m : Int) ≤ (len : Int) := by omega
  have d1 : decide ((m : Int) < 0) = false := by rw [decide_eq_false_iff_not]; omega
  have d2 : decide (len < m) = false := by rw [decide_eq_false_iff_not]; omega
  clear hl hs hb
  go_enter Try.func28, Try.ntmps28
  go_wp2_with fail
  go_loop [7, 8, 9] (fun x y i => ∃ (k : Nat) (n c : Int), i = .int .i64 k ∧ x = .int .i64 n ∧ y = .int .i64 c ∧ 0 ≤ n ∧ 0 ≤ c ∧ n ≤ k + 1 ∧ c ≤ k + 1 ∧ k ≤ m + 4 ∧ PlaceAt l m k n c) (fun _ _ i => m - (intOf i).toNat)
  case atStart => exact ⟨0, 1, 1, rfl, rfl, rfl, by omega, by omega, by omega, by omega, by omega, .inl ⟨Nat.zero_le _, rfl, rfl, by omega, by omega⟩⟩
  case round =>
    obtain ⟨k, n, c, rfl, rfl, rfl, hn0, hc0, hn1, hc1, hk4, hP⟩ := hrel
    have HP := Lib.hid hP
    clear hP
    by_cases hlt : k < m
    · obtain ⟨b, off, rfl, hlb, hc⟩ := HS.out.cells (by rw [HL.out]; omega)
      have CC := C k (by omega) b off hc
      clear hc C
      by_cases hz : nx l k = 0
      · have g := z_of hz
        have hv := Lib.hid (placeTold_bad (placeAt_zero l HB.out (by rw [HL.out]; omega) HP.out hlt hz))
        clear hz
        generalize nx l k = d at *
        generalize rn l k = r at *
        go_wp2_with fail
        refine CC.out.mono ?_
        rintro e w' ⟨rfl, rfl⟩
        go_wp2_with fail
        go_ret3
        exact ⟨by rw [hv.out]; rfl, rfl⟩
      · have g := nz_of hz
        have hst := placeAt_step l HB.out (by rw [HL.out]; omega) HP.out hlt hz
        have hbd := nx_bd hz
        have hbd2 := hbd.2.1
        have hbd1 := hbd.1
        by_cases h10 : rn l k = 10
        · have HST := Lib.hid (hst.1 h10)
          rw [h10] at CC
          clear hst hz hbd h10
          generalize nx l k = d at *
          go_wp2_with fail
          refine CC.out.mono ?_
          rintro e w' ⟨rfl, rfl⟩
          go_wp2_with fail
          go_round
          case rel => exact ⟨k + d, n + 1, 1, by go_num, rfl, rfl, by omega, by omega, by omega, by omega, by omega, HST.out⟩
          case measure => simp [intOf]; omega
        · have HST := Lib.hid (hst.2 h10)
          have hg : (rn l k == 10) = false := beq_eq_false_iff_ne.2 h10
          clear hst hz hbd h10
          generalize nx l k = d at *
          generalize rn l k = r at *
          go_wp2_with fail
          refine CC.out.mono ?_
          rintro e w' ⟨rfl, rfl⟩
          go_wp2_with fail
          go_round
          case rel => exact ⟨k + d, n, c + 1, by go_num, rfl, rfl, by omega, by omega, by omega, by omega, by omega, HST.out⟩
          case measure => simp [intOf]; omega
    · by_cases hgt : m < k
      · have hv := Lib.hid (placeAt_past l HP.out hgt)
        clear C
        go_wp2_with fail
        go_ret3
        exact ⟨by rw [hv.out]; rfl, rfl⟩
      · obtain rfl : k = m := by omega
        have hv := Lib.hid (placeAt_end l (by rw [HL.out]; omega) HP.out)
        clear C
        go_wp2_with fail
        go_ret3
        exact ⟨by rw [hv.out]; rfl, rfl⟩
end Go.Proofs.Ytegekajbnecdfaa

/- Layer 1: the walks of the laws RunesCheck and RunesPlaces. -/
import Derived.Test.YtegekajbnecdfaaRPlace
namespace Go.Proofs.Ytegekajbnecdfaa
open Go.RowKit
set_option maxRecDepth 100000 in
set_option maxHeartbeats 1000000 in
theorem runesCheck_walk (A : Option Addr) (len cap : Nat) (l : List Int) (w : World) (hl : l.length = len) (hcap : len ≤ cap) (hm : cap ≤ maxLen) (hb : Byt l) (hs : SliceAt w .u8 A l) :
    Calls Try.prog 7 #[.slice A len cap] w fun e w' => e = .returned (.bool true) ∧ Below w.heap.size w w' := by
  have AL := fun w => Lib.hid (alive01 w)
  unfold maxLen at hm
  by_cases h5 : 5000 < len
  · clear hs hl
    go_enter Try.func7, Try.ntmps7
    go_wp2_with fail
    refine (AL _).out.mono ?_
    rintro e w' ⟨rfl, rfl⟩
    go_wp2_with fail
    go_ret
    exact ⟨rfl, (Below.refl _ _).alloc (Nat.le_refl _) _⟩
  have C1 := fun w hs => Lib.hid (Wrong_any A len cap l w hl hcap (by omega) hm hb hs)
  have C2 := fun w hs => Lib.hid (Count_any A len cap l w hl hcap hm hb hs)
  have C3 := fun w hs => Lib.hid (Check_any A len cap l w hl hcap hm hb hs)
  have C4 := fun w hs hok => Lib.hid (Points_any A len cap l w hl hcap (by omega) hm hb hs hok)
  have hpl := points_len l 0
  rw [hl] at hpl
  have hwl := wrong_lt l 0
  have HS := Lib.hid hs
  unfold countTold at C2
  clear hs hl hcap hb
  by_cases hok : wrongS l 0 = -1
  · rw [if_pos hok] at C2
    rw [hok] at C1 C3
    have HK := Lib.hid hok
    clear hwl hok
    generalize pointsS l 0 = ps at *
    obtain ⟨n, hn⟩ : ∃ n, n = ps.length := ⟨_, rfl⟩
    rw [← hn] at C2 hpl
    have HN := Lib.hid hn
    clear hn
    go_enter Try.func7, Try.ntmps7
    go_wp2_with fail
    refine (AL _).out.mono ?_
    rintro e w' ⟨rfl, rfl⟩
    have H0 : Below w.heap.size w (w.alloc (.cells #[.int .u8 226, .int .u8 130, .int .u8 172] 5)) := (Below.refl _ _).alloc (Nat.le_refl _) _
    generalize w.alloc (.cells #[.int .u8 226, .int .u8 130, .int .u8 172] 5) = w0 at *
    go_wp2_with fail
    refine (C1 _ (HS.out.below_all H0)).out.mono ?_
    rintro e w1 ⟨rfl, hb1⟩
    have H1 := H0.trans (hb1.mono H0.size)
    go_wp2_with fail
    refine (C2 _ (HS.out.below_all H1)).out.mono ?_
    rintro e w' ⟨rfl, rfl⟩
    go_wp2_with fail
    refine (C3 _ (HS.out.below_all H1)).out.mono ?_
    rintro e w' ⟨rfl, rfl⟩
    go_wp2_with fail
    refine (C4 _ (HS.out.below_all H1) HK.out).out.mono ?_
    rintro e w2 ⟨v, rfl, hown, hb2⟩
    obtain ⟨A1, cap1, rfl, _, _, _⟩ := hown.slice
    rw [← HN.out]
    have H2 := H1.trans (hb2.mono H1.size)
    go_wp2_with fail
    go_ret
    exact ⟨rfl, H2⟩
  · rw [if_neg hok] at C2
    have hw0 : 0 ≤ wrongS l 0 := by omega
    clear hwl hok hpl C4
    generalize wrongS l 0 = x at *
    go_enter Try.func7, Try.ntmps7
    go_wp2_with fail
    refine (AL _).out.mono ?_
    rintro e w' ⟨rfl, rfl⟩
    have H0 : Below w.heap.size w (w.alloc (.cells #[.int .u8 226, .int .u8 130, .int .u8 172] 5)) := (Below.refl _ _).alloc (Nat.le_refl _) _
    generalize w.alloc (.cells #[.int .u8 226, .int .u8 130, .int .u8 172] 5) = w0 at *
    go_wp2_with fail
    refine (C1 _ (HS.out.below_all H0)).out.mono ?_
    rintro e w1 ⟨rfl, hb1⟩
    have H1 := H0.trans (hb1.mono H0.size)
    go_wp2_with fail
    refine (C2 _ (HS.out.below_all H1)).out.mono ?_
    rintro e w' ⟨rfl, rfl⟩
    go_wp2_with fail
    refine (C3 _ (HS.out.below_all H1)).out.mono ?_
    rintro e w' ⟨rfl, rfl⟩
    go_wp2_with fail
    go_ret
    exact ⟨rfl, H1⟩
theorem sliceAt_take {w : World} {k : IntKind} {A : Option Addr} {l : List Int} (h : SliceAt w k A l) (n : Nat) : SliceAt w k A (l.take n) := by
  rcases h with rfl | ⟨b, off, rfl, hlt, hc⟩
  · exact .inl (by simp)
  · exact .inr ⟨b, off, rfl, hlt, cells_take hc n⟩
set_option maxRecDepth 100000 in
set_option maxHeartbeats 1000000 in
theorem runesPlaces_walk (A : Option Addr) (len cap : Nat) (l : List Int) (a : Int) (w : World) (hl : l.length = len) (hcap : len ≤ cap) (hm : cap ≤ maxLen) (hb : Byt l) (hs : SliceAt w .u8 A l) :
    Calls Try.prog 8 #[.slice A len cap, .int .i64 a] w fun e w' => e = .returned (.bool true) ∧ Below w.heap.size w w' := by
  have AL := fun w => Lib.hid (alive01 w)
  unfold maxLen at hm
  by_cases h5 : 5000 < len
  · clear hs hl
    go_enter Try.func8, Try.ntmps8
    go_wp2_with fail
    refine (AL _).out.mono ?_
    rintro e w' ⟨rfl, rfl⟩
    go_wp2_with fail
    go_ret
    exact ⟨rfl, (Below.refl _ _).alloc (Nat.le_refl _) _⟩
  by_cases hr : a < 0 ∨ (len : Int) < a
  · have C := fun w => Lib.hid (Place_out A len cap a w hr (by omega))
    clear hs hl
    by_cases h1 : a < 0
    · clear hr
      go_enter Try.func8, Try.ntmps8
      go_wp2_with fail
      refine (AL _).out.mono ?_
      rintro e w' ⟨rfl, rfl⟩
      go_wp2_with fail
      refine (C _).out.mono ?_
      rintro e w' ⟨rfl, rfl⟩
      go_wp2_with fail
      go_ret
      exact ⟨rfl, (Below.refl _ _).alloc (Nat.le_refl _) _⟩
    · have h2 : (len : Int) < a := by omega
      have h3 : 0 ≤ a := by omega
      clear hr h1
      go_enter Try.func8, Try.ntmps8
      go_wp2_with fail
      refine (AL _).out.mono ?_
      rintro e w' ⟨rfl, rfl⟩
      go_wp2_with fail
      refine (C _).out.mono ?_
      rintro e w' ⟨rfl, rfl⟩
      go_wp2_with fail
      go_ret
      exact ⟨rfl, (Below.refl _ _).alloc (Nat.le_refl _) _⟩
  · obtain ⟨m, rfl⟩ := Int.eq_ofNat_of_zero_le (show 0 ≤ a by omega)
    have hmm : m ≤ len := by omega
    have h00 : (0 : Int) ≤ (m : Int) := by omega
    have h01 : (m : Int) ≤ (len : Int) := by omega
    have hlt : (l.take m).length = m := by rw [List.length_take, hl]; omega
    have C1 := fun w hs => Lib.hid (Place_in A len cap m l w hl hcap (by omega) hm hb hs hmm)
    have C2 := fun w hs => Lib.hid (Wrong_any A m cap (l.take m) w hlt (by omega) (by omega) hm (byt_take hb m) hs)
    have C3 := fun w hs hok => Lib.hid (refPlace_any A m cap (l.take m) w hlt (by omega) (by omega) hm (byt_take hb m) hs hok)
    have hwl := wrong_lt (l.take m) 0
    have HS := Lib.hid hs
    unfold placeTold at C1
    clear hs hl hb hlt hr
    by_cases hok : wrongS (l.take m) 0 = -1
    · rw [if_pos hok] at C1
      rw [hok] at C2
      have HK := Lib.hid hok
      clear hwl hok
      generalize lc (pointsS (l.take m) 0) 1 1 = q at *
      obtain ⟨x, y⟩ := q
      simp only at C1 C3
      go_enter Try.func8, Try.ntmps8
      go_wp2_with fail
      refine (AL _).out.mono ?_
      rintro e w' ⟨rfl, rfl⟩
      have H0 : Below w.heap.size w (w.alloc (.cells #[.int .u8 226, .int .u8 130, .int .u8 172] 5)) := (Below.refl _ _).alloc (Nat.le_refl _) _
      generalize w.alloc (.cells #[.int .u8 226, .int .u8 130, .int .u8 172] 5) = w0 at *
      go_wp2_with fail
      refine (C1 _ (HS.out.below_all H0)).out.mono ?_
      rintro e w' ⟨rfl, rfl⟩
      go_wp2_with fail
      refine (C2 _ (sliceAt_take (HS.out.below_all H0) m)).out.mono ?_
      rintro e w1 ⟨rfl, hb1⟩
      have H1 := H0.trans (hb1.mono H0.size)
      go_wp2_with fail
      refine (C3 _ (sliceAt_take (HS.out.below_all H1) m) HK.out).out.mono ?_
      rintro e w2 ⟨rfl, hb2⟩
      have H2 := H1.trans (hb2.mono H1.size)
      go_wp2_with fail
      go_ret
      exact ⟨rfl, H2⟩
    · rw [if_neg hok] at C1
      have hw0 : 0 ≤ wrongS (l.take m) 0 := by omega
      clear hwl hok C3
      generalize wrongS (l.take m) 0 = x at *
      go_enter Try.func8, Try.ntmps8
      go_wp2_with fail
      refine (AL _).out.mono ?_
      rintro e w' ⟨rfl, rfl⟩
      have H0 : Below w.heap.size w (w.alloc (.cells #[.int .u8 226, .int .u8 130, .int .u8 172] 5)) := (Below.refl _ _).alloc (Nat.le_refl _) _
      generalize w.alloc (.cells #[.int .u8 226, .int .u8 130, .int .u8 172] 5) = w0 at *
      go_wp2_with fail
      refine (C1 _ (HS.out.below_all H0)).out.mono ?_
      rintro e w' ⟨rfl, rfl⟩
      go_wp2_with fail
      refine (C2 _ (sliceAt_take (HS.out.below_all H0) m)).out.mono ?_
      rintro e w1 ⟨rfl, hb1⟩
      have H1 := H0.trans (hb1.mono H0.size)
      go_wp2_with fail
      go_ret
      exact ⟨rfl, H1⟩
end Go.Proofs.Ytegekajbnecdfaa

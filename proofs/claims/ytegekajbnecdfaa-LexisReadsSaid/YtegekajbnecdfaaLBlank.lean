/- Layer 2: the walk of blanks. -/
import Derived.Test.YtegekajbnecdfaaLScn
namespace Go.Proofs.Ytegekajbnecdfaa
open Go.RowKit
/-- What blanks' end tells. -/
def BlkLeft (w : World) (g : Nat) (A : Option Addr) (len cap a : Nat) (l : List Int) (e : Ending) (w' : World) : Prop :=
  ∃ (a' : Nat) (ok : Bool), e = .returned (.bool ok) ∧ a ≤ a' ∧ a' ≤ len ∧ (ok = true → (a' < len → blankB (gb l a') = false ∧ gb l a' ≠ 35) ∧ ∀ out, scanS l a false out = scanS l a' false out) ∧ (ok = false → ∀ out, scanS l a false out = ([], (a' : Int), 3)) ∧
    w.grownBy w' (some g) ∧ w'.heap.size = w.heap.size ∧ Scn w' g A len cap a'
set_option maxRecDepth 100000 in
set_option maxHeartbeats 2000000 in
theorem blanks_any (g len cap a : Nat) (A : Option Addr) (l : List Int) (w : World) (hl : l.length = len) (hcap : len ≤ cap) (hm : cap ≤ 9223372036854775807) (hb : Byt l) (hs : SliceAt w .u8 A l) (hne : ∀ b off, A = some ⟨b, off, none⟩ → l ≠ [] → b ≠ g)
    (hg : Scn w g A len cap a) (ha : a ≤ len) :
    Calls Try.prog 56 #[.pointer (some ⟨g, 0, none⟩)] w (BlkLeft w g A len cap a l) := by
  have HL := Lib.hid hl
  have HB := Lib.hid hb
  have HS := Lib.hid hs
  have HNE := Lib.hid hne
  have C := fun a w hs hg ha => Lib.hid (remark_any g len cap a A l w hl hcap hm hb hs hne hg ha)
  clear hl hb hs hne
  go_enter Try.func56, Try.ntmps56
  go_wp2_with fail
  go_loopg [] (len - a) (fun n wr => ∃ k : Nat, n = len - k ∧ a ≤ k ∧ k ≤ len ∧ (∀ out, scanS l a false out = scanS l k false out) ∧ w.grownBy wr (some g) ∧ wr.heap.size = w.heap.size ∧ Scn wr g A len cap k)
  case atStart => exact ⟨a, rfl, Nat.le_refl _, ha, fun _ => rfl, World.grownBy.refl _ _, rfl, hg⟩
  case round =>
    clear hg
    obtain ⟨k, rfl, hak, hk, hE, hgr, hsz, hg⟩ := hrel
    obtain ⟨kc0, kc1, kf⟩ := hg.cells
    have HE := Lib.hid hE
    have HG := Lib.hid hg
    have HR := Lib.hid hgr
    have HZ := Lib.hid hsz
    clear hE hg hgr hsz
    by_cases hlt : k < len
    · obtain ⟨b, off, rfl, hlb, hc⟩ := (HS.out.only HR.out HNE.out).cells (by rw [HL.out]; omega)
      have kb := hc k (by rw [HL.out]; exact hlt)
      have d1 : decide (k < len) = true := decide_eq_true hlt
      have d2 : decide ((k : Int) < (len : Int)) = true := decide_eq_true (by omega)
      have d3 : (k : Int) < (len : Int) := by omega
      have d4 : (0 : Int) ≤ (k : Int) := by omega
      have hc0 := gb_bd HB.out k
      clear hc
      by_cases hbl : blankB (gb l k) = true
      · have hsc : ∀ out, scanS l a false out = scanS l (k + 1) false out := fun out => (HE.out out).trans (scan_blank (by rw [HL.out]; exact hlt) (by
          have := (blank_iff _).1 hbl
          rw [nx_ascii HB.out (by rw [HL.out]; exact hlt) (by omega)]; omega) hbl)
        have HSC := Lib.hid hsc
        have hst := HG.out.set_ (k + 1)
        rw [Int.natCast_add] at hst
        have HST := Lib.hid hst
        have hq := (blank_iff _).1 hbl
        clear hsc hst hbl C hc0
        generalize gb l k = c at *
        have f : (c == 32) = true ∨ ((c == 32) = false ∧ ((c == 9) = true ∨ ((c == 9) = false ∧ ((c == 13) = true ∨ ((c == 13) = false ∧ (c == 10) = true))))) := by
          simp only [beq_iff_eq, beq_eq_false_iff_ne]; omega
        clear hq
        rcases f with f | ⟨f0, f | ⟨f1, f | ⟨f2, f⟩⟩⟩
        all_goals
          go_wp2_with fail
          go_quiet (fail)
          go_wp2_with fail
          go_quiet (fail)
          go_wp2_with fail
          go_roundg (len - (k + 1))
          case measure => omega
          case rel => exact ⟨k + 1, rfl, by omega, by omega, HSC.out, only_setCell (only_drewN HR.out _) (.inl rfl) _, by simpa [World.setCell] using HZ.out, HST.out⟩
      · have hbl' : blankB (gb l k) = false := by simpa using hbl
        have hq := (blank_no _).1 hbl'
        have f0 : (gb l k == 32) = false := by simp only [beq_eq_false_iff_ne]; omega
        have f1 : (gb l k == 9) = false := by simp only [beq_eq_false_iff_ne]; omega
        have f2 : (gb l k == 13) = false := by simp only [beq_eq_false_iff_ne]; omega
        have f3 : (gb l k == 10) = false := by simp only [beq_eq_false_iff_ne]; omega
        by_cases h35 : gb l k = 35
        · have hsc : ∀ out, scanS l a false out = scanS l k true out := fun out => (HE.out out).trans (scan_hash_rem HB.out (by rw [HL.out]; exact hlt) h35)
          have HSC := Lib.hid hsc
          have H35 := Lib.hid h35
          rw [h35] at kb
          have CC := fun n => C k (wr.drewN n) (HS.out.only (only_drewN HR.out n) HNE.out) (HG.out.drewN n) (by omega)
          clear hsc hc0 hbl hbl' hq f0 f1 f2 f3 h35 C
          go_wp2_with fail
          go_quiet (fail)
          go_wp2_with fail
          go_quiet (fail)
          go_wp2_with fail
          refine (CC _).out.mono ?_
          rintro e w2 ⟨a', ok, rfl, h1, h2, h3, h4, h5, h6, h7⟩
          have H3 := Lib.hid h3
          have H4 := Lib.hid h4
          have H5 := Lib.hid h5
          have H6 := Lib.hid h6
          have H7 := Lib.hid h7
          clear h3 h4 h5 h6 h7
          cases ok
          · go_wp2_with fail
            go_ret
            exact ⟨a', false, rfl, by omega, h2, fun h => (by cases h), fun _ out => (HSC.out out).trans (H4.out (by trivial) out), only_trans (only_drewN HR.out _) H5.out, H6.out.trans HZ.out, H7.out⟩
          · have hlt2 : k < a' := by
              rcases Nat.lt_or_ge k a' with h | h
              · exact h
              · obtain rfl : a' = k := by omega
                have := (H3.out rfl).1
                have := H35.out
                omega
            go_wp2_with fail
            go_roundg (len - a')
            case measure => omega
            case rel => exact ⟨a', rfl, by omega, h2, fun out => (HSC.out out).trans ((H3.out (by trivial)).2 out), only_trans (only_drewN HR.out _) H5.out, H6.out.trans HZ.out, H7.out⟩
        · have f4 : (gb l k == 35) = false := by simp only [beq_eq_false_iff_ne]; omega
          have HQ := Lib.hid (And.intro hbl' h35)
          clear hbl hbl' hq h35 C hc0
          obtain ⟨c, ec⟩ : ∃ c, c = gb l k := ⟨_, rfl⟩
          have HEC := Lib.hid ec
          rw [← ec] at kb f0 f1 f2 f3 f4
          clear ec
          go_wp2_with fail
          go_quiet (fail)
          go_wp2_with fail
          go_quiet (fail)
          go_wp2_with fail
          go_ret
          exact ⟨k, true, rfl, hak, hk, fun _ => ⟨fun _ => HQ.out, HE.out⟩, fun h => (by cases h), only_drewN HR.out _, HZ.out, HG.out⟩
    · obtain rfl : k = len := by omega
      have d1 : decide (k < k) = false := decide_eq_false (by omega)
      have d2 : decide ((k : Int) < (k : Int)) = false := decide_eq_false (by omega)
      clear C
      go_wp2_with fail
      go_quiet (fail)
      go_wp2_with fail
      go_ret
      exact ⟨k, true, rfl, hak, hk, fun _ => ⟨fun h => by omega, HE.out⟩, fun h => (by cases h), only_drewN HR.out _, HZ.out, HG.out⟩
end Go.Proofs.Ytegekajbnecdfaa

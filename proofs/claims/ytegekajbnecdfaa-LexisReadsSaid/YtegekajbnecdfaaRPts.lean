/- Layer 1: the walks of Points and both Places. -/
import Derived.Test.YtegekajbnecdfaaRScanW
import Derived.Test.YtegekajbnecdfaaApp
namespace Go.Proofs.Ytegekajbnecdfaa
open Go.RowKit
theorem int_info : (Try.prog.info? 3).map (fun i => (i.zero, i.size, i.bytes)) = some (some (.int .i64 0), 1, 8) := by kernel_rfl
set_option maxRecDepth 100000 in
set_option maxHeartbeats 1000000 in
theorem Points_any (A : Option Addr) (len cap : Nat) (l : List Int) (w : World) (hl : l.length = len) (hcap : len ≤ cap) (hlm : len ≤ 1099511627776) (hm : cap ≤ 9223372036854775807) (hb : Byt l) (hs : SliceAt w .u8 A l) (hok : wrongS l 0 = -1) :
    Calls Try.prog 27 #[.slice A len cap] w fun e w' => ∃ v, e = .returned v ∧ Own w' w.heap.size 3 .i64 v (pointsS l 0) ∧ Below w.heap.size w w' := by
  obtain ⟨i0, hi, hz0, hz1, hz2⟩ := info_parts int_info
  have HL := Lib.hid hl
  have HS := Lib.hid hs
  have HK := Lib.hid hok
  have C := fun w a h0 b off hw hc => Lib.hid (At_at b off len cap a l w hl h0 hcap (by omega) hm hb hw hc)
  have hpl := points_len l 0
  rw [hl] at hpl
  have HPL := Lib.hid hpl
  clear hl hs hb hok hpl
  go_enter Try.func27, Try.ntmps27
  go_wp2_with fail
  go_loopw [3, 4] (fun v i wr => ∃ (a : Nat) (ps : List Int), a ≤ len ∧ i = .int .i64 a ∧ Own wr w.heap.size 3 .i64 v ps ∧ Below w.heap.size w wr ∧ wrongS l a = wrongS l 0 ∧ ps ++ pointsS l a = pointsS l 0) (fun _ i _ => len - (intOf i).toNat)
  case atStart => exact ⟨0, [], Nat.zero_le _, rfl, World.ownsRow_nil _ _ _ _, Below.refl _ _, rfl, rfl⟩
  case round =>
    obtain ⟨a, ps, ha, rfl, hown, hbel, hW, hP⟩ := hrel
    have HW := Lib.hid hW
    have HP := Lib.hid hP
    clear hW hP
    by_cases hlt : a < len
    · obtain ⟨b, off, rfl, hlb, hc⟩ := (HS.out.below_all hbel).cells (by rw [HL.out]; omega)
      have CC := C wr a hlt b off hlb hc
      clear hc C
      by_cases hn : nx l a = 0
      · have h1 := (wrong_here (by rw [HL.out]; exact hlt) hn).symm.trans HW.out
        rw [HK.out] at h1
        omega
      · have g := nz_of hn
        have hv := Lib.hid ((wrong_step (by rw [HL.out]; exact hlt) hn).symm.trans HW.out)
        have hp := HP.out
        rw [points_step (by rw [HL.out]; exact hlt) hn, ← List.singleton_append, ← List.append_assoc] at hp
        have hps : ps.length + 1 ≤ len := by
          have h1 := HPL.out
          rw [← hp] at h1
          simp at h1
          omega
        have HP2 := Lib.hid hp
        have hbd := (nx_bd hn).2.2 (by rw [HL.out]; exact hlt)
        rw [HL.out] at hbd
        have hb1 := (nx_bd hn).1
        clear hn hp HP
        generalize nx l a = n at *
        generalize rn l a = r at *
        have HO := Lib.hid hown
        clear hown
        go_wp2_with fail
        refine CC.out.mono ?_
        rintro e w1 ⟨rfl, hbel1⟩
        have hown : Own w1 w.heap.size 3 .i64 u3 ps := HO.out.below hbel1
        have hbel2 := hbel.trans (hbel1.mono hbel.size)
        unfold Own at hown
        go_wp2_with (at_builtin; refine wpList_append_own _ rfl _ _ 45 rfl w.heap.size 3 i0 (.int .i64 0) 1 8 Try.underlying45 hi hz0 hz1 hz2 rfl (by decide) _ _ _ rfl (hown.alloc _) ⟨w1.heap.size, 0, none⟩ 1 1 [.int .i64 r] rfl rfl ?c1 ?c2 ?c3 ?c4 ?c5 ?_)
        case c1 =>
          intro j u hj
          match j, hj with
          | 0, hj => simp at hj; subst hj; simp [Addr.add]
        case c2 => intro u hu; simp at hu; subst hu; rfl
        case c3 => unfold maxLen; omega
        case c4 => omega
        case c5 => have := hbel2.size; simp; omega
        intro v' w2 hown' hgrow _
        have hown2 : Own w2 w.heap.size 3 .i64 v' (ps ++ [r]) := by
          unfold Own
          rw [List.length_append, List.map_append]
          exact hown'
        have hbel3 : Below w.heap.size w w2 := (hbel2.alloc hbel2.size _).grown hgrow (by have := hbel2.size; simp; omega) (fun k hk => (hown.lt k hk).1)
        have HO2 := Lib.hid hown2
        have HB2 := Lib.hid hbel3
        clear hown hown' hgrow hown2 hbel3 hbel2 hbel1 HO
        go_wp2_with fail
        go_roundw
        case rel => exact ⟨a + n, ps ++ [r], by omega, by go_num, HO2.out, HB2.out, hv.out, HP2.out⟩
        case measure => simp [intOf]; omega
    · have hp := HP.out
      rw [points_end (by rw [HL.out]; omega), List.append_nil] at hp
      have HP2 := Lib.hid hp
      clear C hp HP
      go_wp2_with fail
      go_ret
      exact ⟨u3, rfl, by rw [← HP2.out]; exact hown, hbel⟩
end Go.Proofs.Ytegekajbnecdfaa

/- Layer 2: the walk of token: no sign. -/
import Derived.Test.YtegekajbnecdfaaLTok1
namespace Go.Proofs.Ytegekajbnecdfaa
open Go.RowKit
set_option maxRecDepth 100000 in
set_option maxHeartbeats 2000000 in
theorem token_none (g len cap a b off : Nat) (l : List Int) (w : World) (hl : l.length = len) (hcap : len ≤ cap) (hm : cap ≤ 9223372036854775807) (hb : Byt l) (hc : CellsAt w .u8 b off l) (hne : b < w.heap.size)
    (hg : Scn w g (some ⟨b, off, none⟩) len cap a) (ha : a < len) (hbl : blankB (gb l a) = false) (h35 : gb l a ≠ 35) (hr : runsB (gb l a) = false) (hs : signS (l.drop a) = 0) :
    Calls Try.prog 57 #[.pointer (some ⟨g, 0, none⟩)] w (TokLeft w g (some ⟨b, off, none⟩) len cap a l) := by
  have hgl := Blk.lt hg
  obtain ⟨kc0, kc1, kf⟩ := hg.cells
  have kb := hc a (by omega)
  have C0 := fun w => Lib.hid (runs_any (gb l a) w)
  rw [hr] at C0
  have C1 := fun w' (h : Below w.heap.size w w') => Lib.hid (sign_any b (off + a) (len - a) (cap - a) (l.drop a) w' (by rw [List.length_drop, hl]) (by omega) (by omega) (by omega) (byt_drop hb a) ((cells_drop hc a).below h hne))
  rw [hs] at C1
  have C2 := fun w' (h : Below w.heap.size w w') => Lib.hid (Next_in b off len cap a l w' hl ha hcap hm hb (hc.below h hne))
  have d1 : (0 : Int) ≤ (a : Int) := by omega
  have d2 : (a : Int) < (len : Int) := by omega
  have d3 : (a : Int) ≤ (len : Int) := by omega
  have hz : strOfNums ((l.drop a).take 0) = ⟨#[]⟩ := rfl
  rw [hz] at C1
  have hst := hg.alloc (.cells #[.int .u8 0, .string ⟨#[]⟩, .int .i64 0, .int .i64 0] 67)
  have HST := Lib.hid hst
  by_cases h0 : nx l a = 0
  · have hN : NextT l a = .tuple #[.int .i32 0, .int .i64 0, .int .u8 3] := by
      unfold NextT
      rw [if_neg (by omega), Int.toNat_natCast, if_pos (by rw [nx_cast, h0]; rfl)]
    rw [hN] at C2
    have HSC := Lib.hid (fun out => scan_utf (rem := false) (out := out) (by omega : a < l.length) h0)
    generalize hB : gb l a = c at *
    clear hl hb hc hbl h35 hr hs hB hg h0 hN hst hz
    go_enter Try.func57, Try.ntmps57
    go_wp2_with fail
    refine (C0 _).out.mono ?_
    rintro e w' ⟨rfl, rfl⟩
    go_wp2_with fail
    refine (C1 _ ((Below.refl _ _).alloc (Nat.le_refl _) _)).out.mono ?_
    rintro e w' ⟨rfl, rfl⟩
    go_wp2_with fail
    refine (C2 _ ((Below.refl _ _).alloc (Nat.le_refl _) _)).out.mono ?_
    rintro e w' ⟨rfl, rfl⟩
    go_wp2_with fail
    refine bodyPost_ret (v := .tuple #[Tok.val ⟨0, ⟨#[]⟩, 0, 0⟩, .int .u8 3]) (by simp [results, Try.results57, go_sem, Tok.val]) rfl ⟨⟨0, ⟨#[]⟩, 0, 0⟩, 3, a, rfl, by omega, fun h => by simp at h, fun _ => HSC.out, only_alloc (World.grownBy.refl _ _) _, HST.out⟩
  · have hN : NextT l a = .tuple #[.int .i32 (rn l a), .int .i64 (nx l a : Nat), .int .u8 0] := by
      unfold NextT
      rw [if_neg (by omega), Int.toNat_natCast, next_eq]
      simp only
      rw [if_neg (by omega)]
    rw [hN] at C2
    have HSC := Lib.hid (fun out => scan_nosign (out := out) (by omega : a < l.length) h0 hbl h35 hr hs)
    generalize hB : gb l a = c at *
    clear hl hb hc hbl h35 hr hs hB hg h0 hN hst hz
    go_enter Try.func57, Try.ntmps57
    go_wp2_with fail
    refine (C0 _).out.mono ?_
    rintro e w' ⟨rfl, rfl⟩
    go_wp2_with fail
    refine (C1 _ ((Below.refl _ _).alloc (Nat.le_refl _) _)).out.mono ?_
    rintro e w' ⟨rfl, rfl⟩
    go_wp2_with fail
    refine (C2 _ ((Below.refl _ _).alloc (Nat.le_refl _) _)).out.mono ?_
    rintro e w' ⟨rfl, rfl⟩
    go_wp2_with fail
    refine bodyPost_ret (v := .tuple #[Tok.val ⟨0, ⟨#[]⟩, 0, 0⟩, .int .u8 4]) (by simp [results, Try.results57, go_sem, Tok.val]) rfl ⟨⟨0, ⟨#[]⟩, 0, 0⟩, 4, a, rfl, by omega, fun h => by simp at h, fun _ => HSC.out, only_alloc (World.grownBy.refl _ _) _, HST.out⟩
end Go.Proofs.Ytegekajbnecdfaa

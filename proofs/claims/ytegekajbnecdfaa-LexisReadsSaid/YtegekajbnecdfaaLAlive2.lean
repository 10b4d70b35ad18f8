/- Layer 2: the walk of alive. -/
import Derived.Test.YtegekajbnecdfaaLAlive
import Derived.Lib.SlBytesConst
namespace Go.Proofs.Ytegekajbnecdfaa
open Go.RowKit
theorem alive_toks (b cap : Nat) (w : World) (hcap : 10 ≤ cap) (hm : cap ≤ 9223372036854775807) (hs : SliceAt w .u8 (some ⟨b, 0, none⟩) aliveL) : Calls Try.prog 35 #[.slice (some ⟨b, 0, none⟩) 10 cap] w fun e w1 =>
    ∃ A c ts, e = .returned (.tuple #[.slice A 4 c, .int .i64 0, .int .u8 0]) ∧ ToksAt w1 A ts ∧ ts.length = 4 ∧ sameB ts aliveT = true ∧ Below w.heap.size w w1 := by
  refine (Tokens_any (some ⟨b, 0, none⟩) 10 cap aliveL w rfl hcap hm (by intro x hx; simp [aliveL] at hx; omega) hs (by omega)).mono ?_
  rintro e w1 ⟨v, rfl, ho, hb⟩
  obtain ⟨A, c, rfl, ht⟩ := ho.toks
  have h4 : (scanS aliveL 0 false []).1.length = 4 := (sameB_len alive_scan.2).trans rfl
  refine ⟨A, c, _, ?_, ht, h4, alive_scan.2, hb⟩
  rw [h4, alive_scan.1]
theorem ToksAt.below {w w' : World} {A : Option Addr} {ts : List Tok} (h : ToksAt w A ts) (hb : Below w.heap.size w w') : ToksAt w' A ts := by
  rcases h with h | ⟨b, off, rfl, hlt, hc⟩
  · exact .inl h
  · refine .inr ⟨b, off, rfl, Nat.lt_of_lt_of_le hlt hb.size, fun i t hi => ?_⟩
    obtain ⟨h0, h1, h2, h3⟩ := hc i t hi
    exact ⟨(hb.cell (p := ⟨b, _, none⟩) hlt).trans h0, (hb.cell (p := ⟨b, _, none⟩) hlt).trans h1, (hb.cell (p := ⟨b, _, none⟩) hlt).trans h2, (hb.cell (p := ⟨b, _, none⟩) hlt).trans h3⟩
set_option maxRecDepth 100000 in
set_option maxHeartbeats 2000000 in
theorem alive_any (w : World) : Calls Try.prog 34 #[] w fun e w' => e = .returned (.bool true) ∧ Below w.heap.size w w' := by
  have CT := fun b w h => Lib.hid (alive_toks b 10 w (by omega) (by omega) h)
  have CS := fun A B c1 c2 ts w h4 ha hb (hs : sameB ts aliveT = true) => Lib.hid (SameToks_any A B 4 4 c1 c2 ts aliveT w h4 rfl (by omega) (by omega) ha hb)
  have hcv := Go.Lib.run_convert_bytes_const (P := Try.prog) w 22 5 (aliveL.map (Value.int .u8)).toArray 10 10 Try.underlying22 Try.underlying5
  have hrow := heap_alloc_new w (.cells (aliveL.map (Value.int .u8)).toArray 5 ((aliveL.map (Value.int .u8)).toArray.size, (aliveL.map (Value.int .u8)).toArray.size + 1))
  have hsl : SliceAt (w.alloc (.cells (aliveL.map (Value.int .u8)).toArray 5 ((aliveL.map (Value.int .u8)).toArray.size, (aliveL.map (Value.int .u8)).toArray.size + 1))) .u8 (some ⟨w.heap.size, 0, none⟩) aliveL := .inr ⟨_, 0, rfl, by simp, fun i hi => by
    rw [Nat.zero_add, cell_of_row _ _ i _ _ _ hrow]
    simp [gb, hi]⟩
  have HSL := Lib.hid hsl
  clear hsl hrow
  simp only [aliveL, List.map_cons, List.map_nil] at hcv
  go_enter Try.func34, Try.ntmps34
  go_wp2_with fail
  refine (CT _ _ HSL.out).out.mono ?_
  rintro e w1 ⟨A, c, ts, rfl, ht, h4, hsm, hb⟩
  have hb1 := Below.trans ((Below.refl w.heap.size w).alloc (Nat.le_refl _) _) (hb.mono (by simp))
  have HB := Lib.hid hb1
  have HT := Lib.hid ht
  clear hb hb1 ht CT
  go_wp2_with fail
  refine (CS _ _ _ _ ts _ h4 (HT.out.below ((Below.refl _ _).alloc (Nat.le_refl _) _)) (.inr ⟨_, 0, rfl, by simp, fun i t hi => by
    match i, hi with
    | 0, hi => simp [aliveT] at hi; subst hi; simp
    | 1, hi => simp [aliveT] at hi; subst hi; simp
    | 2, hi => simp [aliveT] at hi; subst hi; simp
    | 3, hi => simp [aliveT] at hi; subst hi; simp
    | i + 4, hi => simp [aliveT] at hi⟩) hsm).out.mono ?_
  rintro e w2 ⟨rfl, q, rfl⟩
  rw [hsm]
  have HB2 := Lib.hid (below_drewN (HB.out.alloc HB.out.size (.cells (aliveT.flatMap Tok.cells).toArray 67)) q)
  go_wp2_with fail
  go_ret
  exact ⟨rfl, HB2.out⟩
end Go.Proofs.Ytegekajbnecdfaa

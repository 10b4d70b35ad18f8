/- Layer 2: the walk of token: a sign, or none. -/
import Derived.Test.YtegekajbnecdfaaLBlank
namespace Go.Proofs.Ytegekajbnecdfaa
open Go.RowKit
/-- What token's end tells. -/
def TokLeft (w : World) (g : Nat) (A : Option Addr) (len cap a : Nat) (l : List Int) (e : Ending) (w' : World) : Prop :=
  ∃ (t : Tok) (c : Int) (a' : Nat), e = .returned (.tuple #[t.val, .int .u8 c]) ∧ a' ≤ len ∧ (c = 0 → a < a' ∧ ∀ out, scanS l a false out = scanS l a' false (out ++ [t])) ∧ (c ≠ 0 → ∀ out, scanS l a false out = ([], (a' : Int), c)) ∧
    w.grownBy w' (some g) ∧ Scn w' g A len cap a'
theorem sign_lt {l : List Int} {a : Nat} (h : a < l.length) : a + signS (l.drop a) ≤ l.length := by
  have := sign_bd (l.drop a) (by rw [List.length_drop]; omega)
  rw [List.length_drop] at this
  omega
theorem str_len (l : List Int) : (strOfNums l).size = l.length := by
  simp [strOfNums, ByteArray.size]
set_option maxRecDepth 100000 in
set_option maxHeartbeats 2000000 in
theorem token_sign (g len cap a b off : Nat) (l : List Int) (w : World) (hl : l.length = len) (hcap : len ≤ cap) (hm : cap ≤ 9223372036854775807) (hb : Byt l) (hc : CellsAt w .u8 b off l) (hne : b < w.heap.size)
    (hg : Scn w g (some ⟨b, off, none⟩) len cap a) (ha : a < len) (hbl : blankB (gb l a) = false) (h35 : gb l a ≠ 35) (hr : runsB (gb l a) = false) (hs : signS (l.drop a) ≠ 0) :
    Calls Try.prog 57 #[.pointer (some ⟨g, 0, none⟩)] w (TokLeft w g (some ⟨b, off, none⟩) len cap a l) := by
  have hgl := Blk.lt hg
  obtain ⟨kc0, kc1, kf⟩ := hg.cells
  have kb := hc a (by omega)
  have C0 := fun w => Lib.hid (runs_any (gb l a) w)
  rw [hr] at C0
  have C1 := fun w' (h : w'.heap.size = w.heap.size + 1 ∧ Below w.heap.size w w') => Lib.hid (sign_any b (off + a) (len - a) (cap - a) (l.drop a) w' (by rw [List.length_drop, hl]) (by omega) (by omega) (by omega) (byt_drop hb a) ((cells_drop hc a).below h.2 hne))
  have hbd := sign_lt (l := l) (a := a) (by omega)
  have hsz : (strOfNums ((l.drop a).take (signS (l.drop a)))).size = signS (l.drop a) := by
    rw [str_len, List.length_take, List.length_drop]; omega
  have hn0 : nx l a ≠ 0 := by
    have hd : gb l a < 128 := by
      unfold signS at hs
      split at hs
      · rename_i h
        have := h.2
        rw [gb_drop] at this
        simp [dblB] at this
        omega
      · split at hs
        · rename_i h
          have := sgl_ascii h
          rw [gb_drop] at this
          simp at this
          omega
        · exact absurd rfl hs
    rw [nx_ascii hb (by omega) hd]; omega
  have HSC := Lib.hid (fun out => scan_sign (out := out) (by omega : a < l.length) hn0 hbl h35 hr hs)
  have d1 : (0 : Int) ≤ (a : Int) := by omega
  have d2 : (a : Int) < (len : Int) := by omega
  have d3 : (a : Int) ≤ (len : Int) := by omega
  have HG := Lib.hid hg
  generalize hS : strOfNums ((l.drop a).take (signS (l.drop a))) = S at *
  generalize hN : signS (l.drop a) = n at *
  generalize hB : gb l a = c at *
  rw [hl] at hbd
  have d5 : S.size ≠ 0 := by omega
  have d6 : ¬ S.size = 0 := d5
  have d7 : (S.toList != []) = true := by
    rw [bne_iff_ne]
    intro h
    rw [ByteArray.toList_eq] at h
    apply d5
    rw [← ByteArray.size_data, ← Array.length_toList, h]; rfl
  have HSZ := Lib.hid hsz
  have HN := Lib.hid hs
  have d8 : (!S.toList.isEmpty) = true := by
    simp only [bne_iff_ne, ne_eq] at d7
    simp [d7]
  have hst := (hg.set_ (a + n)).alloc (.cells #[.int .u8 3, .string S, .int .i64 0, .int .i64 (a : Int)] 67)
  have hw : wrap64 ((a : Int) + (S.size : Int)) = ((a + n : Nat) : Int) := by rw [hsz]; unfold wrap64; omega
  rw [← hw] at hst
  have HST := Lib.hid hst
  clear hst hw
  clear hl hb hc hbl h35 hr hs hn0 hS hN hB hg hsz d5 d6
  go_enter Try.func57, Try.ntmps57
  go_wp2_with fail
  refine (C0 _).out.mono ?_
  rintro e w' ⟨rfl, rfl⟩
  go_wp2_with fail
  refine (C1 _ ⟨by simp, (Below.refl _ _).alloc (Nat.le_refl _) _⟩).out.mono ?_
  rintro e w' ⟨rfl, rfl⟩
  go_wp2_with fail
  refine bodyPost_ret (v := .tuple #[Tok.val ⟨3, S, 0, a⟩, .int .u8 0]) (by simp [results, Try.results57, go_sem, Tok.val]) rfl ⟨⟨3, S, 0, a⟩, 0, a + n, rfl, hbd, fun _ => ⟨by have := HN.out; omega, HSC.out⟩, fun h => absurd rfl h, only_alloc (only_setCell (World.grownBy.refl _ _) (.inl rfl) _) _, HST.out⟩
end Go.Proofs.Ytegekajbnecdfaa

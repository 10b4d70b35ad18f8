/- Layer 2: the scanner's block; the walks of remark and blanks. -/
import Derived.Test.YtegekajbnecdfaaLSign
import Derived.Deep.LoopGhost
namespace Go.Proofs.Ytegekajbnecdfaa
open Go.RowKit
/-- The scanner: its bytes, and where it is. -/
def Scn (w : World) (g : Nat) (A : Option Addr) (len cap a : Nat) : Prop := Blk w g 89 #[.slice A len cap, .int .i64 (a : Int)]
section
variable {w w' w'' : World} {g len cap a : Nat} {A : Option Addr}
theorem Scn.cells (h : Scn w g A len cap a) : w.cell? ⟨g, 0, none⟩ = some (.slice A len cap) ∧ w.cell? ⟨g, 1, none⟩ = some (.int .i64 (a : Int)) ∧ w.frozen? ⟨g, 1, none⟩ = false :=
  ⟨(Blk.cell h 0).trans rfl, (Blk.cell h 1).trans rfl, Blk.frozen h 1⟩
theorem Scn.drewN (h : Scn w g A len cap a) (n : Nat) : Scn (w.drewN n) g A len cap a := h
theorem Scn.set_ (h : Scn w g A len cap a) (a' : Nat) : Scn (w.setCell ⟨g, 1, none⟩ (.int .i64 (a' : Int))) g A len cap a' := by
  have := Blk.set_ h 1 (.int .i64 (a' : Int))
  simpa [Scn] using this
theorem Scn.alloc (h : Scn w g A len cap a) (o : Obj) : Scn (w.alloc o) g A len cap a := Blk.alloc h o
theorem Scn.below (h : Scn w g A len cap a) (hb : Below w.heap.size w w') : Scn w' g A len cap a := Blk.below h hb (Blk.lt h)
theorem only_drewN {row : Option Nat} (h : w.grownBy w' row) (n : Nat) : w.grownBy (w'.drewN n) row := ⟨h.os, h.tape, h.output, h.size, h.block⟩
theorem only_drew {row : Option Nat} (h : w.grownBy w' row) : w.grownBy w'.drew row := ⟨h.os, h.tape, h.output, h.size, h.block⟩
theorem only_trans {row : Option Nat} (h : w.grownBy w' row) (k : w'.grownBy w'' row) : w.grownBy w'' row :=
  ⟨k.os.trans h.os, k.tape.trans h.tape, k.output.trans h.output, Nat.le_trans h.size k.size, fun i hi hr => (k.block i (Nat.lt_of_lt_of_le hi h.size) hr).trans (h.block i hi hr)⟩
theorem only_alloc {row : Option Nat} (h : w.grownBy w' row) (o : Obj) : w.grownBy (w'.alloc o) row :=
  ⟨h.os, h.tape, h.output, Nat.le_trans h.size (by simp), fun i hi hr => (Below.heap_alloc w' o i (Nat.lt_of_lt_of_le hi h.size)).trans (h.block i hi hr)⟩
theorem only_setCell (h : w.grownBy w' (some g)) {p : Addr} (hp : p.block = g ∨ w.heap.size ≤ p.block) (u : Value) : w.grownBy (w'.setCell p u) (some g) :=
  ⟨h.os, h.tape, h.output, by simpa [World.setCell] using h.size, fun i hi hr => (Below.heap_setCell w' p u i (by
    rintro rfl
    rcases hp with hp | hp
    · exact hr (by rw [hp])
    · omega)).trans (h.block i hi hr)⟩
theorem only_below {row : Option Nat} (h : Below w.heap.size w w') : w.grownBy w' row := ⟨h.os, h.tape, h.output, h.size, fun i hi _ => h.block i hi⟩
theorem SliceAt.only {k : IntKind} {l : List Int} (h : SliceAt w k A l) (hg : w.grownBy w' (some g)) (hne : ∀ b off, A = some ⟨b, off, none⟩ → l ≠ [] → b ≠ g) : SliceAt w' k A l := by
  rcases h with h | ⟨b, off, rfl, hlt, hc⟩
  · exact .inl h
  · by_cases hn : l = []
    · exact .inl hn
    · exact .inr ⟨b, off, rfl, Nat.lt_of_lt_of_le hlt hg.size, hc.grown hg hlt (fun e => hne b off rfl hn (by injection e with e; exact e.symm))⟩
end
theorem scan_nl {l : List Int} {a : Nat} {out : List Tok} (hb : Byt l) (h : a < l.length) (hc : gb l a = 10) : scanS l a true out = scanS l a false out := by
  have hn := nx_ascii hb h (by omega)
  rw [scan_rem h (by omega), scan_blank h (by omega) ((blank_iff _).2 (by omega)), hn, hc]
  rfl
theorem scan_hash_rem {l : List Int} {a : Nat} {out : List Tok} (hb : Byt l) (h : a < l.length) (hc : gb l a = 35) : scanS l a false out = scanS l a true out := by
  have hn := nx_ascii hb h (by omega)
  rw [scan_rem h (by omega), scan_hash h (by omega) hc, hn, hc]
  rfl
/-- A quiet callee behind a quiet region. -/
theorem quiet2 {P : Program} {f : FuncId} {args : Array Value} {w : World} {a n : Nat} {v : Value}
    (h : Calls P f args (w.drewN (a + n)) fun e w' => e = .returned v ∧ w.drewN (a + n) = w') : Calls P f args (w.drewN (a + n)) fun e w'' => e = .returned v ∧ ∃ m, w'' = w.drewN (a + m) :=
  h.mono fun _ _ ⟨he, hw⟩ => ⟨he, n, hw.symm⟩
theorem quiet1 {P : Program} {f : FuncId} {args : Array Value} {w : World} {n : Nat} {v : Value}
    (h : Calls P f args (w.drewN n) fun e w' => e = .returned v ∧ w.drewN n = w') : Calls P f args (w.drewN n) fun e w'' => e = .returned v ∧ ∃ m, w'' = w.drewN m :=
  h.mono fun _ _ ⟨he, hw⟩ => ⟨he, n, hw.symm⟩
/-- What a remark's end tells. -/
def RemLeft (w : World) (g : Nat) (A : Option Addr) (len cap a : Nat) (l : List Int) (e : Ending) (w' : World) : Prop :=
  ∃ (a' : Nat) (ok : Bool), e = .returned (.bool ok) ∧ a ≤ a' ∧ a' ≤ len ∧ (ok = true → (a' = len ∨ gb l a' = 10) ∧ ∀ out, scanS l a true out = scanS l a' false out) ∧ (ok = false → ∀ out, scanS l a true out = ([], (a' : Int), 3)) ∧
    w.grownBy w' (some g) ∧ w'.heap.size = w.heap.size ∧ Scn w' g A len cap a'
set_option maxRecDepth 100000 in
set_option maxHeartbeats 2000000 in
theorem remark_any (g len cap a : Nat) (A : Option Addr) (l : List Int) (w : World) (hl : l.length = len) (hcap : len ≤ cap) (hm : cap ≤ 9223372036854775807) (hb : Byt l) (hs : SliceAt w .u8 A l) (hne : ∀ b off, A = some ⟨b, off, none⟩ → l ≠ [] → b ≠ g)
    (hg : Scn w g A len cap a) (ha : a ≤ len) :
    Calls Try.prog 68 #[.pointer (some ⟨g, 0, none⟩)] w (RemLeft w g A len cap a l) := by
  have HL := Lib.hid hl
  have HB := Lib.hid hb
  have HS := Lib.hid hs
  have HNE := Lib.hid hne
  have C := fun b off a h0 w hc => Lib.hid (Next_in b off len cap a l w hl h0 hcap hm hb hc)
  clear hl hb hs hne
  go_enter Try.func68, Try.ntmps68
  go_wp2_with fail
  go_loopg [] (len - a) (fun n wr => ∃ k : Nat, n = len - k ∧ a ≤ k ∧ k ≤ len ∧ (∀ out, scanS l a true out = scanS l k true out) ∧ w.grownBy wr (some g) ∧ wr.heap.size = w.heap.size ∧ Scn wr g A len cap k)
  case atStart => exact ⟨a, rfl, Nat.le_refl _, ha, fun _ => rfl, World.grownBy.refl _ _, rfl, hg⟩
  case round =>
    clear hg
    obtain ⟨k, rfl, hak, hk, hE, hgr, hsz, hg⟩ := hrel
    obtain ⟨kc0, kc1, kf⟩ := hg.cells
    have HE := Lib.hid hE
    have HG := Lib.hid hg
    have HR := Lib.hid hgr
    have HZ := Lib.hid hsz
    clear hE hg hgr hsz
    by_cases hlt : k < len
    · obtain ⟨b, off, rfl, hlb, hc⟩ := (HS.out.only HR.out HNE.out).cells (by rw [HL.out]; omega)
      have kb := hc k (by rw [HL.out]; exact hlt)
      have d1 : decide (k < len) = true := decide_eq_true hlt
      have d2 : decide ((k : Int) < (len : Int)) = true := decide_eq_true (by omega)
      have d3 : (k : Int) < (len : Int) := by omega
      have d4 : (0 : Int) ≤ (k : Int) := by omega
      have hc0 := gb_bd HB.out k
      by_cases h10 : gb l k = 10
      · have hsc : ∀ out, scanS l a true out = scanS l k false out := fun out => (HE.out out).trans (scan_nl HB.out (by rw [HL.out]; exact hlt) h10)
        have HSC := Lib.hid hsc
        have HT := Lib.hid h10
        rw [h10] at kb
        clear hsc h10 hc0
        go_wp2_with fail
        go_quiet (fail)
        go_wp2_with fail
        go_ret
        exact ⟨k, true, rfl, hak, hk, fun _ => ⟨.inr HT.out, HSC.out⟩, fun h => (by cases h), only_drewN HR.out _, HZ.out, HG.out⟩
      · have g10 : (gb l k != 10) = true := bne_iff_ne.2 h10
        have CC := C b off k hlt
        by_cases h0 : nx l k = 0
        · have hsc : ∀ out, scanS l a true out = ([], (k : Int), 3) := fun out => (HE.out out).trans (scan_utf (by rw [HL.out]; exact hlt) h0)
          have HSC := Lib.hid hsc
          have hN : NextT l k = .tuple #[.int .i32 0, .int .i64 0, .int .u8 3] := by
            unfold NextT
            rw [if_neg (by rw [HL.out]; omega), Int.toNat_natCast, if_pos (by rw [nx_cast, h0]; rfl)]
          rw [hN] at CC
          have HC := fun w hc => Lib.hid (CC w hc).out
          have Hc := Lib.hid hc
          clear hsc hN CC h10 h0 C hc
          generalize gb l k = c at *
          go_wp2_with fail
          go_quiet (fail)
          go_wp2_with fail
          go_quiet ((go_at_call 16; exact quiet2 (HC _ (Hc.out.drewN _)).out))
          go_wp2_with fail
          go_ret
          exact ⟨k, false, rfl, hak, hk, fun h => (by cases h), fun _ => HSC.out, only_drewN HR.out _, HZ.out, HG.out⟩
        · have hN : NextT l k = .tuple #[.int .i32 (rn l k), .int .i64 (nx l k : Nat), .int .u8 0] := by
            unfold NextT
            rw [if_neg (by rw [HL.out]; omega), Int.toNat_natCast, next_eq]
            simp only
            rw [if_neg (by omega)]
          have hsc : ∀ out, scanS l a true out = scanS l (k + nx l k) true out := fun out => (HE.out out).trans (by rw [scan_rem (by rw [HL.out]; exact hlt) h0, g10])
          have hbd := nx_bd h0
          have hbd2 := hbd.2.2 (by rw [HL.out]; exact hlt)
          rw [HL.out] at hbd2
          have hbd1 := hbd.1
          have HSC := Lib.hid hsc
          rw [hN] at CC
          have HC := fun w hc => Lib.hid (CC w hc).out
          have Hc := Lib.hid hc
          clear hsc hN CC h10 h0 C hc hbd
          generalize gb l k = c at *
          generalize nx l k = n at *
          generalize rn l k = r at *
          obtain ⟨kc0', kc1', kf'⟩ := HG.out.cells
          go_wp2_with fail
          go_quiet (fail)
          go_wp2_with fail
          go_quiet ((go_at_call 16; exact quiet2 (HC _ (Hc.out.drewN _)).out))
          go_wp2_with fail
          go_roundg (len - (k + n))
          case measure => omega
          case rel =>
            have hst := HG.out.set_ (k + n)
            rw [Int.natCast_add] at hst
            exact ⟨k + n, rfl, by omega, by omega, HSC.out, only_setCell (only_drewN HR.out _) (.inl rfl) _, by simpa [World.setCell] using HZ.out, hst⟩
    · obtain rfl : k = len := by omega
      have hsc : ∀ out, scanS l a true out = scanS l k false out := fun out => (HE.out out).trans (by rw [scan_end (by rw [HL.out]; omega), scan_end (by rw [HL.out]; omega)])
      have HSC := Lib.hid hsc
      have d1 : decide (k < k) = false := decide_eq_false (by omega)
      have d2 : decide ((k : Int) < (k : Int)) = false := decide_eq_false (by omega)
      clear hsc C
      go_wp2_with fail
      go_quiet (fail)
      go_wp2_with fail
      go_ret
      exact ⟨k, true, rfl, hak, hk, fun _ => ⟨.inl rfl, HSC.out⟩, fun h => (by cases h), only_drewN HR.out _, HZ.out, HG.out⟩
end Go.Proofs.Ytegekajbnecdfaa

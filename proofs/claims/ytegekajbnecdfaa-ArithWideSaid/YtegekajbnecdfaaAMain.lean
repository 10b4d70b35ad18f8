/- Layer 17: the three laws' own walks. -/
import Derived.Test.YtegekajbnecdfaaARef
namespace Go.Proofs.Ytegekajbnecdfaa
open Go.RowKit
theorem in64_of_wf {x : Int} (h : (Lit.int .i64 x).wf = true) : In64 x := by
  simp only [Lit.wf, IntKind.min, IntKind.max, IntKind.signed, IntKind.bits, Bool.and_eq_true, decide_eq_true_eq, if_true] at h
  unfold In64
  omega
theorem grown_drewN {W w : World} (n : Nat) (h : Grown W w) : Grown W (w.drewN n) := h
/-- A step by a sign that is written out, at numbers that are written out. -/
theorem step_at {s : ByteArray} {x y : Int} {l : List UInt8} {r : Int × Bool × Int} (w : World) (hx : In64 x) (hy : In64 y) (hl : s.toList = l) (h : stepZ l x y = r) :
    Calls Try.prog 21 #[.string s, .int .i64 x, .int .i64 y] w fun e w' => e = .returned (.tuple #[.int .i64 r.1, .bool r.2.1, .int .u8 r.2.2]) ∧ ∃ n, w' = w.drewN n := by
  have h1 := step_all s x y w hx hy
  rw [hl, h] at h1
  exact h1
theorem alive17 (w : World) : Calls Try.prog 18 #[] w fun e w' => e = .returned (.bool true) ∧ ∃ n, w' = w.drewN n := by
  have C1 : ∀ w, Hid (Calls Try.prog 21 #[.string ⟨#[47]⟩, .int .i64 (-7), .int .i64 2] w fun e w' => e = .returned (.tuple #[.int .i64 (-3), .bool false, .int .u8 0]) ∧ ∃ n, w' = w.drewN n) :=
    fun w => step_at (s := ⟨#[47]⟩) (x := -7) (y := 2) (l := [47]) (r := (-3, false, 0)) w (by unfold In64; omega) (by unfold In64; omega) (by decide +kernel) (by decide)
  have C2 : ∀ w, Hid (Calls Try.prog 21 #[.string ⟨#[37]⟩, .int .i64 (-7), .int .i64 2] w fun e w' => e = .returned (.tuple #[.int .i64 (-1), .bool false, .int .u8 0]) ∧ ∃ n, w' = w.drewN n) :=
    fun w => step_at (s := ⟨#[37]⟩) (x := -7) (y := 2) (l := [37]) (r := (-1, false, 0)) w (by unfold In64; omega) (by unfold In64; omega) (by decide +kernel) (by decide)
  go_enter Try.func18, Try.ntmps18
  go_wp2_with fail
  refine (C1 _).out.mono ?_
  rintro e w' ⟨rfl, n, rfl⟩
  go_wp2_with fail
  refine (C2 _).out.mono ?_
  rintro e w' ⟨rfl, m, rfl⟩
  go_wp2_with fail
  go_ret
  exact ⟨rfl, n + m, by simp⟩
end Go.Proofs.Ytegekajbnecdfaa

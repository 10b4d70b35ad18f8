/- Layer 1: the walks of the laws: alive, RunesNext. -/
import Derived.Test.YtegekajbnecdfaaRAt
namespace Go.Proofs.Ytegekajbnecdfaa
open Go.RowKit
theorem byt_of_wf {l : List Int} (h : ∀ n ∈ l, (Lit.int .u8 n).wf = true) : Byt l := fun x hx => by
  have := h x hx
  simp only [Lit.wf, IntKind.min, IntKind.max, IntKind.signed, IntKind.bits, Bool.and_eq_true] at this
  simp at this
  omega
theorem next_val (l : List Int) : 0 ≤ (nextS l).1 ∧ (nextS l).1 ≤ 1114111 := by
  unfold nextS
  split
  · simp
  split
  · rename_i h
    have := (isB_iff _).1 h.2.1
    exact ⟨this.1, this.2.1⟩
  · simp
theorem alive01 (w : World) : Calls Try.prog 15 #[] w fun e w' => e = .returned (.bool true) ∧ w' = w.alloc (.cells #[.int .u8 226, .int .u8 130, .int .u8 172] 5) := by
  have C := Lib.hid (Next_in w.heap.size 0 3 3 0 [226, 130, 172] (w.alloc (.cells ([226, 130, 172].map (Value.int .u8)).toArray 5)) rfl (by omega) (by omega) (by omega) (by intro x hx; simp at hx; omega) (cells_new _ _ _ _))
  have e : NextT [226, 130, 172] 0 = .tuple #[.int .i32 8364, .int .i64 3, .int .u8 0] := by
    have h : nextS [226, 130, 172] = (8364, 3) := by decide
    unfold NextT
    simp [h]
  have E := Lib.hid e
  clear e
  go_enter Try.func15, Try.ntmps15
  go_wp2_with fail
  refine C.out.mono ?_
  rintro e w' ⟨rfl, rfl⟩
  rw [show ((0 : Nat) : Int) = 0 from rfl, E.out]
  go_wp2_with fail
  go_ret
  exact ⟨rfl, rfl⟩
set_option maxHeartbeats 1000000 in
theorem runesNext_walk (A : Option Addr) (len cap : Nat) (l : List Int) (a : Int) (w : World) (hl : l.length = len) (hcap : len ≤ cap) (hm : cap ≤ maxLen) (hb : Byt l) (hs : SliceAt w .u8 A l) (_ha : (Lit.int .i64 a).wf = true) :
    Calls Try.prog 3 #[.slice A len cap, .int .i64 a] w fun e w' => e = .returned (.bool true) ∧ Below w.heap.size w w' := by
  have AL := fun w => Lib.hid (alive01 w)
  unfold maxLen at hm
  by_cases h5 : 5000 < len
  · clear hs hl
    go_enter Try.func3, Try.ntmps3
    go_wp2_with fail
    refine (AL _).out.mono ?_
    rintro e w' ⟨rfl, rfl⟩
    go_wp2_with fail
    go_ret
    exact ⟨rfl, (Below.refl _ _).alloc (Nat.le_refl _) _⟩
  by_cases hr : a < 0 ∨ (len : Int) ≤ a
  · have C := fun w => Lib.hid (Next_out A len cap a l w hl hr (by omega))
    have e : NextT l a = .tuple #[.int .i32 0, .int .i64 0, .int .u8 1] := by unfold NextT; rw [if_pos (by rw [hl]; exact hr)]
    rw [e] at C
    clear hs hl e
    by_cases h1 : a < 0
    · clear hr
      go_enter Try.func3, Try.ntmps3
      go_wp2_with fail
      refine (AL _).out.mono ?_
      rintro e w' ⟨rfl, rfl⟩
      go_wp2_with fail
      refine (C _).out.mono ?_
      rintro e w' ⟨rfl, rfl⟩
      go_wp2_with fail
      go_ret
      exact ⟨rfl, (Below.refl _ _).alloc (Nat.le_refl _) _⟩
    · have h2 : (len : Int) ≤ a := by omega
      have h3 : 0 ≤ a := by omega
      clear hr h1
      go_enter Try.func3, Try.ntmps3
      go_wp2_with fail
      refine (AL _).out.mono ?_
      rintro e w' ⟨rfl, rfl⟩
      go_wp2_with fail
      refine (C _).out.mono ?_
      rintro e w' ⟨rfl, rfl⟩
      go_wp2_with fail
      go_ret
      exact ⟨rfl, (Below.refl _ _).alloc (Nat.le_refl _) _⟩
  · obtain ⟨n, rfl⟩ := Int.eq_ofNat_of_zero_le (show 0 ≤ a by omega)
    have hn : n < len := by omega
    obtain ⟨b, off, rfl, hlt, hc⟩ := hs.cells (by omega)
    have C1 := fun o => Lib.hid (Next_in b off len cap n l (w.alloc o) hl hn hcap hm hb (hc.alloc hlt o))
    have C2 := fun o => Lib.hid (At_any b off len cap n l (w.alloc o) hl hn hcap (by omega) hm hb (by rw [World.size_alloc]; omega) (hc.alloc hlt o))
    have hk := next_none (l := l.drop n)
    have hv := next_val (l.drop n)
    unfold NextT at C1
    unfold atTold at C2
    rw [if_neg (by omega), Int.toNat_natCast] at C1
    generalize nextS (l.drop n) = r at *
    obtain ⟨r, k⟩ := r
    simp only [Prod.mk.injEq] at hk hv C1 C2
    clear hl hb hc hr hcap
    have h0 : 0 ≤ (n : Int) := by omega
    by_cases hz : k = 0
    · obtain ⟨rfl, rfl⟩ : r = 0 ∧ k = 0 := by omega
      simp only [if_true] at C1
      clear hk
      go_enter Try.func3, Try.ntmps3
      go_wp2_with fail
      refine (AL _).out.mono ?_
      rintro e w' ⟨rfl, rfl⟩
      go_wp2_with fail
      refine (C1 _).out.mono ?_
      rintro e w' ⟨rfl, rfl⟩
      go_wp2_with fail
      refine (C2 _).out.mono ?_
      rintro e w' ⟨rfl, hbel⟩
      go_wp2_with fail
      go_ret
      exact ⟨rfl, ((Below.refl _ _).alloc (Nat.le_refl _) _).trans (hbel.mono (by simp))⟩
    · simp only [hz, if_false] at C1
      have g : (k == 0) = false := beq_eq_false_iff_ne.2 hz
      clear hk hz
      go_enter Try.func3, Try.ntmps3
      go_wp2_with fail
      refine (AL _).out.mono ?_
      rintro e w' ⟨rfl, rfl⟩
      go_wp2_with fail
      refine (C1 _).out.mono ?_
      rintro e w' ⟨rfl, rfl⟩
      go_wp2_with fail
      refine (C2 _).out.mono ?_
      rintro e w' ⟨rfl, hbel⟩
      go_wp2_with fail
      go_ret
      exact ⟨rfl, ((Below.refl _ _).alloc (Nat.le_refl _) _).trans (hbel.mono (by simp))⟩
end Go.Proofs.Ytegekajbnecdfaa

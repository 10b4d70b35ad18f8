/- Layer 2: the walk of sign. -/
import Derived.Test.YtegekajbnecdfaaLRun
namespace Go.Proofs.Ytegekajbnecdfaa
open Go.RowKit
theorem retStr {a b : ByteArray} (h : a = b) : Ending.returned (.string a) = .returned (.string b) := by rw [h]
theorem str_two {a b : Int} (ha : 0 ≤ a ∧ a ≤ 255) (hb : 0 ≤ b ∧ b ≤ 255) (x y : UInt8) : ((strOfNums [a, b]).toList == [x, y]) = ((a == (x.toNat : Int)) && (b == (y.toNat : Int))) := by
  rw [ByteArray.toList_eq, strOfNums_data]
  rw [Bool.eq_iff_iff]
  simp only [List.map_cons, List.map_nil, beq_iff_eq, Bool.and_eq_true, List.cons.injEq, and_true]
  have k : ∀ (c : Int) (z : UInt8), 0 ≤ c ∧ c ≤ 255 → (UInt8.ofNat c.toNat = z ↔ c = (z.toNat : Int)) := fun c z hc => by
    rw [← UInt8.toNat_inj, UInt8.toNat_ofNat']
    have := z.toNat_lt
    omega
  rw [k a x ha, k b y hb]
theorem sign_two {l : List Int} (h : 2 ≤ l.length) (hd : dblB (gb l 0) (gb l 1) = true) : strOfNums (l.take (signS l)) = strOfNums [gb l 0, gb l 1] := by
  have : signS l = 2 := by unfold signS; rw [if_pos ⟨h, hd⟩]
  rw [this, take2 h]
theorem sign_one {l : List Int} (h : 1 ≤ l.length) (hn : ¬ (2 ≤ l.length ∧ dblB (gb l 0) (gb l 1) = true)) (hc : gb l 0 ∈ sgls) : strOfNums (l.take (signS l)) = strOfNums [gb l 0] := by
  have : signS l = 1 := by unfold signS; rw [if_neg hn, if_pos hc]
  rw [this, take1 h]
theorem sign_zero {l : List Int} (hn : ¬ (2 ≤ l.length ∧ dblB (gb l 0) (gb l 1) = true)) (hc : gb l 0 ∉ sgls) : strOfNums (l.take (signS l)) = ⟨#[]⟩ := by
  have : signS l = 0 := by unfold signS; rw [if_neg hn, if_neg hc]
  rw [this]; rfl
theorem mem_sgls (c : Int) : c ∈ sgls ↔ c = 40 ∨ c = 41 ∨ c = 123 ∨ c = 125 ∨ c = 60 ∨ c = 62 ∨ c = 61 ∨ c = 44 ∨ c = 58 ∨ c = 59 ∨ c = 124 ∨ c = 46 ∨ c = 92 ∨ c = 64 ∨ c = 94 ∨ c = 63 ∨ c = 43 ∨ c = 45 ∨ c = 42 ∨ c = 47 ∨ c = 37 := by simp [sgls]
set_option maxRecDepth 100000 in
set_option maxHeartbeats 8000000 in
theorem sign_any (b off len cap : Nat) (l : List Int) (w : World) (hl : l.length = len) (h0 : 1 ≤ len) (hcap : len ≤ cap) (hm : cap ≤ 9223372036854775807) (hb : Byt l) (hc : CellsAt w .u8 b off l) :
    Calls Try.prog 71 #[.slice (some ⟨b, off, none⟩) len cap] w fun e w' => e = .returned (.string (strOfNums (l.take (signS l)))) ∧ w = w' := by
  have b0 := gb_bd hb 0
  have b1 := gb_bd hb 1
  have k0 : w.cell? ⟨b, off, none⟩ = some (.int .u8 (gb l 0)) := hc 0 (by omega)
  have kc1 := run_convert_bytes_arg (P := Try.prog) w 22 5 Try.underlying22 Try.underlying5 b off 1 cap [gb l 0] rfl (fun i hi => by
    obtain rfl : i = 0 := by omega
    exact k0) 9 Try.underlying9
  by_cases h2 : 2 ≤ l.length
  · have k1 := hc 1 (by omega)
    have kc2 := run_convert_bytes_arg (P := Try.prog) w 22 5 Try.underlying22 Try.underlying5 b off 2 cap [gb l 0, gb l 1] rfl (fun i hi => by
      obtain rfl | rfl : i = 0 ∨ i = 1 := by omega
      · exact k0
      · exact k1) 9 Try.underlying9
    have e1 := str_two b0 b1 61 61
    have e2 := str_two b0 b1 61 62
    have e3 := str_two b0 b1 58 61
    have e4 := str_two b0 b1 45 62
    have hdd : dblB (gb l 0) (gb l 1) = (((strOfNums [gb l 0, gb l 1]).toList == [61, 61]) || (((strOfNums [gb l 0, gb l 1]).toList == [61, 62]) || (((strOfNums [gb l 0, gb l 1]).toList == [58, 61]) || ((strOfNums [gb l 0, gb l 1]).toList == [45, 62])))) := by
      rw [e1, e2, e3, e4]; rfl
    clear e1 e2 e3 e4 k1
    cases hd : dblB (gb l 0) (gb l 1)
    · have hn : ¬ (2 ≤ l.length ∧ dblB (gb l 0) (gb l 1) = true) := fun h => by rw [hd] at h; cases h.2
      have H1 := Lib.hid (sign_one (l := l) (by omega) hn)
      have H0 := Lib.hid (sign_zero hn)
      rw [hd] at hdd
      generalize strOfNums [gb l 0, gb l 1] = t2 at *
      have f := hdd.symm
      simp only [Bool.or_eq_false_iff] at f
      obtain ⟨f1, f2, f3, f4⟩ := f
      have h2' : (2 : Int) ≤ (len : Int) := by omega
      have h2'' : (2 : Int) ≤ (cap : Int) := by omega
      clear hl hn hd hdd hb hc h2 b0 b1
      obtain ⟨c0, e0⟩ : ∃ c, c = gb l 0 := ⟨_, rfl⟩
      rw [← e0] at k0 kc1 H1 H0
      clear e0
      go_enter Try.func71, Try.ntmps71
      go_wp2_with fail
      all_goals go_ret
      all_goals simp only [beq_iff_eq, beq_eq_false_iff_ne, ne_eq] at *
      all_goals first
        | exact ⟨retStr (H1.out ((mem_sgls c0).2 (by omega))).symm, trivial⟩
        | exact ⟨retStr (H0.out (fun h => by have := (mem_sgls c0).1 h; omega)).symm, trivial⟩
    · have H2 := Lib.hid (sign_two h2 hd)
      rw [hd] at hdd
      generalize strOfNums [gb l 0, gb l 1] = t2 at *
      have f := hdd.symm
      have h2' : (2 : Int) ≤ (len : Int) := by omega
      have h2'' : (2 : Int) ≤ (cap : Int) := by omega
      clear hl hd hdd hb hc h2 b0 b1
      have hgo : ∀ (P : Prop), ((t2.toList == [61, 61]) = true → P) → ((t2.toList == [61, 61]) = false → (t2.toList == [61, 62]) = true → P) → ((t2.toList == [61, 61]) = false → (t2.toList == [61, 62]) = false → (t2.toList == [58, 61]) = true → P) →
          ((t2.toList == [61, 61]) = false → (t2.toList == [61, 62]) = false → (t2.toList == [58, 61]) = false → (t2.toList == [45, 62]) = true → P) → P := fun P p1 p2 p3 p4 => by
        cases a : (t2.toList == [61, 61])
        · cases b : (t2.toList == [61, 62])
          · cases c : (t2.toList == [58, 61])
            · rw [a, b, c] at f
              simp only [Bool.false_or] at f
              exact p4 a b c f
            · exact p3 a b c
          · exact p2 a b
        · exact p1 a
      clear f
      apply hgo
      all_goals
        intros
        clear hgo
        go_enter Try.func71, Try.ntmps71
        go_wp2_with fail
        go_ret
        exact ⟨retStr H2.out.symm, rfl⟩
  · have hn : ¬ (2 ≤ l.length ∧ dblB (gb l 0) (gb l 1) = true) := fun h => h2 h.1
    have H1 := Lib.hid (sign_one (l := l) (by omega) hn)
    have H0 := Lib.hid (sign_zero hn)
    have h2' : ¬ (1 : Int) < (len : Int) := by omega
    obtain ⟨c0, e0⟩ : ∃ c, c = gb l 0 := ⟨_, rfl⟩
    rw [← e0] at k0 kc1 H1 H0
    obtain rfl : len = 1 := by omega
    clear e0 hl hb hc h2 b0 b1 hn
    go_enter Try.func71, Try.ntmps71
    go_wp2_with fail
    all_goals go_ret
    all_goals simp only [beq_iff_eq, beq_eq_false_iff_ne, ne_eq] at *
    all_goals first
      | exact ⟨retStr (H1.out ((mem_sgls c0).2 (by omega))).symm, trivial⟩
      | exact ⟨retStr (H0.out (fun h => by have := (mem_sgls c0).1 h; omega)).symm, trivial⟩
end Go.Proofs.Ytegekajbnecdfaa

/- Layer 2: the walks of the reference's lists of words, and of IsWord. -/
import Derived.Test.YtegekajbnecdfaaLWalk3
namespace Go.Proofs.Ytegekajbnecdfaa
open Go.RowKit
/-- A row of texts in memory. -/
def StrsAt (w : World) (b off : Nat) (ws : List ByteArray) : Prop := ∀ i, i < ws.length → w.cell? ⟨b, off + i, none⟩ = some (.string (ws.getD i ByteArray.empty))
theorem strs_new {w : World} (t : TypeId) (ws : List ByteArray) {n : Nat} (h : n = w.heap.size) : StrsAt (w.alloc (.cells (ws.map Value.string).toArray t)) n 0 ws := fun i hi => by
  subst h
  rw [World.cell?_alloc_new]
  simp [hi]
theorem StrsAt.below {w w' : World} {b off B : Nat} {ws : List ByteArray} (h : StrsAt w b off ws) (hb : Below B w w') (hB : b < B) : StrsAt w' b off ws := fun i hi => (hb.cell (p := ⟨b, off + i, none⟩) hB).trans (h i hi)
theorem Own_any (w : World) : Calls Try.prog 58 #[] w fun e w' => e = .returned (.tuple #[.slice (some ⟨w.heap.size, 0, none⟩) 15 15, .slice (some ⟨w.heap.size + 1, 0, none⟩) 25 25]) ∧
    w' = (w.alloc (.cells (ownWs.map Value.string).toArray 9)).alloc (.cells (signWs.map Value.string).toArray 9) := by
  go_enter Try.func58, Try.ntmps58
  go_wp2_with fail
  go_ret2
  exact ⟨rfl, rfl⟩
theorem in_any (b off n cap : Nat) (ws : List ByteArray) (s : ByteArray) (w : World) (hn : ws.length = n) (hm : n ≤ 1000000) (hc : StrsAt w b off ws) :
    Calls Try.prog 64 #[.slice (some ⟨b, off, none⟩) n cap, .string s] w fun e w' => e = .returned (.bool (inB ws s)) ∧ w = w' := by
  have HN := Lib.hid hn
  have HC := Lib.hid hc
  clear hn hc
  go_enter Try.func64, Try.ntmps64
  go_wp2_with fail
  go_loop [5] (fun i => ∃ k : Nat, k ≤ n ∧ i = .int .i64 k ∧ inB (ws.drop k) s = inB ws s) (fun i => n - (intOf i).toNat)
  case atStart => exact ⟨0, Nat.zero_le _, rfl, rfl⟩
  case round =>
    obtain ⟨k, hk, rfl, hE⟩ := hrel
    have HE := Lib.hid hE
    clear hE
    by_cases hlt : k < n
    · have hc := HC.out k (by rw [HN.out]; exact hlt)
      have hd : inB (ws.drop k) s = (((ws.getD k ByteArray.empty).toList == s.toList) || inB (ws.drop (k + 1)) s) := by
        have hk' : k < ws.length := by rw [HN.out]; exact hlt
        rw [List.drop_eq_getElem_cons hk', inB_cons]
        simp [hk']
      obtain ⟨x, hx⟩ : ∃ x, x = ws.getD k ByteArray.empty := ⟨_, rfl⟩
      rw [← hx] at hc hd
      rw [HE.out] at hd
      clear hx
      cases hb : (x.toList == s.toList)
      · rw [hb, Bool.false_or] at hd
        have HD := Lib.hid hd
        clear hd
        go_wp2_with fail
        go_round
        case rel => exact ⟨k + 1, by omega, by go_num, HD.out.symm⟩
        case measure => simp [intOf]; omega
      · rw [hb, Bool.true_or] at hd
        have HD := Lib.hid hd
        clear hd
        go_wp2_with fail
        go_ret
        exact ⟨retBool HD.out.symm, rfl⟩
    · have hd : inB ws s = false := by
        rw [← HE.out, List.drop_eq_nil_of_le (by rw [HN.out]; omega)]
        rfl
      have HD := Lib.hid hd
      clear hd
      go_wp2_with fail
      go_ret
      exact ⟨retBool HD.out.symm, rfl⟩
theorem below_own (w : World) : Below w.heap.size w ((w.alloc (.cells (ownWs.map Value.string).toArray 9)).alloc (.cells (signWs.map Value.string).toArray 9)) :=
  ((Below.refl _ _).alloc (Nat.le_refl _) _).alloc (by simp) _
theorem strs_own (w : World) : StrsAt ((w.alloc (.cells (ownWs.map Value.string).toArray 9)).alloc (.cells (signWs.map Value.string).toArray 9)) w.heap.size 0 ownWs :=
  (strs_new 9 ownWs rfl).below (B := w.heap.size + 1) ((Below.refl _ _).alloc (by simp) _) (by omega)
theorem refIsWord_any (s : ByteArray) (w : World) (hm : s.size ≤ maxLen) : Calls Try.prog 39 #[.string s] w fun e w' => e = .returned (.bool (isWordB s)) ∧ Below w.heap.size w w' := by
  have C1 := fun w => Lib.hid (Wordly_any s w hm)
  have C0 := fun w => Lib.hid (Own_any w)
  have C2 := fun b w hc => Lib.hid (in_any b 0 15 15 ownWs s w rfl (by omega) hc)
  have e : inB ownWs s = ownB s := rfl
  rw [e] at C2
  unfold isWordB
  unfold maxLen at hm
  clear e
  cases hw : wordlyB (numsOf s)
  · rw [hw] at C1
    clear hw
    go_enter Try.func39, Try.ntmps39
    go_wp2_with fail
    refine (C0 _).out.mono ?_
    rintro e w1 ⟨rfl, rfl⟩
    have HB := Lib.hid (below_own w)
    go_wp2_with fail
    refine (C1 _).out.mono ?_
    rintro e w' ⟨rfl, rfl⟩
    go_wp2_with fail
    go_ret
    exact ⟨retBool (by simp), HB.out⟩
  · rw [hw] at C1
    clear hw
    cases ho : ownB s
    · rw [ho] at C2
      clear ho
      go_enter Try.func39, Try.ntmps39
      go_wp2_with fail
      refine (C0 _).out.mono ?_
      rintro e w1 ⟨rfl, rfl⟩
      have HB := Lib.hid (below_own w)
      go_wp2_with fail
      refine (C1 _).out.mono ?_
      rintro e w' ⟨rfl, rfl⟩
      go_wp2_with fail
      refine (C2 _ _ (strs_own w)).out.mono ?_
      rintro e w' ⟨rfl, rfl⟩
      go_wp2_with fail
      go_ret
      exact ⟨retBool (by simp <;> omega), HB.out⟩
    · rw [ho] at C2
      clear ho
      go_enter Try.func39, Try.ntmps39
      go_wp2_with fail
      refine (C0 _).out.mono ?_
      rintro e w1 ⟨rfl, rfl⟩
      have HB := Lib.hid (below_own w)
      go_wp2_with fail
      refine (C1 _).out.mono ?_
      rintro e w' ⟨rfl, rfl⟩
      go_wp2_with fail
      refine (C2 _ _ (strs_own w)).out.mono ?_
      rintro e w' ⟨rfl, rfl⟩
      go_wp2_with fail
      go_ret
      exact ⟨retBool (by simp), HB.out⟩
end Go.Proofs.Ytegekajbnecdfaa

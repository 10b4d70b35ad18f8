/- Layer 2: the walks of run, both. Written by wip/gen/gen_lrun.py. -/
import Derived.Test.YtegekajbnecdfaaLNum3
namespace Go.Proofs.Ytegekajbnecdfaa
open Go.RowKit
def Tok.val (t : Tok) : Value := .agg #[.int .u8 t.kind, .string t.text, .int .i64 t.n, .int .i64 t.at_]
/-- What run tells. -/
def RunTold (k : IntKind) (r : Tok × Int) (w : World) (e : Ending) (w' : World) : Prop := ∃ t : Tok, e = .returned (.tuple #[t.val, .int k r.2]) ∧ (r.2 = 0 → t = r.1) ∧ Below w.heap.size w w'
/-- What a run's end tells, with what it made. -/
def RunMade (k : IntKind) (r : Tok × Int) (w : World) (e : Ending) (w' : World) : Prop := ∃ t : Tok, e = .returned (.tuple #[t.val, .int k r.2]) ∧ (r.2 = 0 → t = r.1) ∧ ∃ a b, w' = (w.alloc a).alloc b
theorem below2 {w : World} (a b : Obj) : Below w.heap.size w ((w.alloc a).alloc b) := ((Below.refl _ _).alloc (Nat.le_refl _) _).alloc (by simp) _
set_option maxRecDepth 100000 in
set_option maxHeartbeats 2000000 in
theorem run_any (s : ByteArray) (at_ : Int) (w : World) (h1 : 1 ≤ s.size) (hm : s.size ≤ maxLen) : Calls Try.prog 70 #[.string s, .int .i64 at_] w (RunMade .u8 (runS s at_) w) := by
  have C1 := fun w => Lib.hid (number_any s w h1 hm)
  have C2 := fun w => Lib.hid (own_any s w)
  have C3 := fun w => Lib.hid (wordly_any s w hm)
  have g0 := nums_gb s 0 h1
  have hl := nums_len s
  unfold numTold at C1
  unfold maxLen at hm
  unfold runS
  rw [← g0, hl]
  clear g0 hl
  cases hd : digitB (s[0].toNat : Int)
  · rw [if_neg (by decide)]
    clear C1
    cases ho : ownB s
    · rw [ho] at C2
      rw [if_neg (by decide)]
      clear ho
      cases hw : wordlyB (numsOf s)
      · rw [hw] at C3
        rw [if_pos rfl]
        clear hw
        go_enter Try.func70, Try.ntmps70
        go_wp2_with fail
        refine (digit_any _ _).mono ?_
        rintro e w' ⟨rfl, rfl⟩
        go_wp2_with fail
        refine (C2 _).out.mono ?_
        rintro e w' ⟨rfl, rfl⟩
        go_wp2_with fail
        refine (C3 _).out.mono ?_
        rintro e w' ⟨rfl, rfl⟩
        go_wp2_with fail
        refine bodyPost_ret (v := .tuple #[.agg #[.int .u8 1, .string s, .int .i64 0, .int .i64 at_], .int .u8 4]) (by simp [results, Try.results70, go_sem]) rfl ⟨⟨1, s, 0, at_⟩, rfl, fun h => by simp at h, _, _, rfl⟩
      · rw [hw] at C3
        rw [if_neg (by decide)]
        clear hw
        by_cases hz : 32 < s.size
        · have hz' : (32 : Int) < (s.size : Int) := by omega
          rw [if_pos hz]
          go_enter Try.func70, Try.ntmps70
          go_wp2_with fail
          refine (digit_any _ _).mono ?_
          rintro e w' ⟨rfl, rfl⟩
          go_wp2_with fail
          refine (C2 _).out.mono ?_
          rintro e w' ⟨rfl, rfl⟩
          go_wp2_with fail
          refine (C3 _).out.mono ?_
          rintro e w' ⟨rfl, rfl⟩
          go_wp2_with fail
          refine bodyPost_ret (v := .tuple #[.agg #[.int .u8 1, .string s, .int .i64 0, .int .i64 at_], .int .u8 7]) (by simp [results, Try.results70, go_sem]) rfl ⟨⟨1, s, 0, at_⟩, rfl, fun h => by simp at h, _, _, rfl⟩
        · have hz' : ¬ (32 : Int) < (s.size : Int) := by omega
          rw [if_neg hz]
          go_enter Try.func70, Try.ntmps70
          go_wp2_with fail
          refine (digit_any _ _).mono ?_
          rintro e w' ⟨rfl, rfl⟩
          go_wp2_with fail
          refine (C2 _).out.mono ?_
          rintro e w' ⟨rfl, rfl⟩
          go_wp2_with fail
          refine (C3 _).out.mono ?_
          rintro e w' ⟨rfl, rfl⟩
          go_wp2_with fail
          refine bodyPost_ret (v := .tuple #[.agg #[.int .u8 1, .string s, .int .i64 0, .int .i64 at_], .int .u8 0]) (by simp [results, Try.results70, go_sem]) rfl ⟨⟨1, s, 0, at_⟩, rfl, fun _ => rfl, _, _, rfl⟩
    · rw [ho] at C2
      rw [if_pos rfl]
      clear ho
      go_enter Try.func70, Try.ntmps70
      go_wp2_with fail
      refine (digit_any _ _).mono ?_
      rintro e w' ⟨rfl, rfl⟩
      go_wp2_with fail
      refine (C2 _).out.mono ?_
      rintro e w' ⟨rfl, rfl⟩
      go_wp2_with fail
      refine bodyPost_ret (v := .tuple #[.agg #[.int .u8 3, .string s, .int .i64 0, .int .i64 at_], .int .u8 0]) (by simp [results, Try.results70, go_sem]) rfl ⟨⟨3, s, 0, at_⟩, rfl, fun _ => rfl, _, _, rfl⟩
  · rw [if_pos rfl]
    generalize numS (numsOf s) = q at *
    obtain ⟨n, c⟩ := q
    simp only at C1
    go_enter Try.func70, Try.ntmps70
    go_wp2_with fail
    refine (digit_any _ _).mono ?_
    rintro e w' ⟨rfl, rfl⟩
    go_wp2_with fail
    refine (C1 _).out.mono ?_
    rintro e w' ⟨rfl, rfl⟩
    go_wp2_with fail
    refine bodyPost_ret (v := .tuple #[.agg #[.int .u8 2, .string ⟨#[]⟩, .int .i64 n, .int .i64 at_], .int .u8 c]) (by simp [results, Try.results70, go_sem]) rfl ⟨⟨2, ⟨#[]⟩, n, at_⟩, rfl, fun _ => rfl, _, _, rfl⟩
theorem below3 {w : World} (a b c : Obj) : Below w.heap.size w (((w.alloc a).alloc b).alloc c) := (((Below.refl _ _).alloc (Nat.le_refl _) _).alloc (by simp) _).alloc (by simp; omega) _
theorem kind_not3 {c : Int} (h : digitB c = false) : (kindZ c == 3) = false := by
  rw [beq_eq_false_iff_ne]; intro hh; rw [(kind_digit c).1 hh] at h; cases h
theorem kind_is3 {c : Int} (h : digitB c = true) : kindZ c = 3 := (kind_digit c).2 h
set_option maxRecDepth 100000 in
set_option maxHeartbeats 2000000 in
theorem refRun_any (s : ByteArray) (at_ : Int) (w : World) (h1 : 1 ≤ s.size) (hm : s.size ≤ maxLen) : Calls Try.prog 60 #[.string s, .int .i64 at_] w (RunTold .i64 (runS s at_) w) := by
  have C1 := fun w => Lib.hid (refNumber_any s w h1 hm)
  have C2 := fun b w hc => Lib.hid (in_any b 0 15 15 ownWs s w rfl (by omega) hc)
  have eo : inB ownWs s = ownB s := rfl
  rw [eo] at C2
  have C3 := fun w => Lib.hid (Wordly_any s w hm)
  have g0 := nums_gb s 0 h1
  have hl := nums_len s
  unfold refNumTold at C1
  unfold maxLen at hm
  unfold runS
  rw [← g0, hl]
  clear g0 hl eo
  cases hd : digitB (s[0].toNat : Int)
  · have hk := kind_not3 hd
    rw [if_neg (by decide)]
    clear C1 hd
    cases ho : ownB s
    · rw [ho] at C2
      rw [if_neg (by decide)]
      clear ho
      cases hw : wordlyB (numsOf s)
      · rw [hw] at C3
        rw [if_pos rfl]
        clear hw
        go_enter Try.func60, Try.ntmps60
        go_wp2_with fail
        refine (Own_any _).mono ?_
        rintro e w1 ⟨rfl, rfl⟩
        have hs1 : StrsAt (((w.alloc (.cells #[.int .u8 0, .string ⟨#[]⟩, .int .i64 0, .int .i64 0] 67)).alloc (.cells (ownWs.map Value.string).toArray 9)).alloc (.cells (signWs.map Value.string).toArray 9)) (w.heap.size + 1) 0 ownWs := by
          have := strs_own (w.alloc (.cells #[.int .u8 0, .string ⟨#[]⟩, .int .i64 0, .int .i64 0] 67))
          rwa [World.size_alloc] at this
        have HS1 := Lib.hid hs1
        clear hs1
        go_wp2_with fail
        refine (kind_any _ _).mono ?_
        rintro e w' ⟨rfl, rfl⟩
        go_wp2_with fail
        refine (C2 _ _ HS1.out).out.mono ?_
        rintro e w' ⟨rfl, rfl⟩
        go_wp2_with fail
        refine (C3 _).out.mono ?_
        rintro e w' ⟨rfl, rfl⟩
        go_wp2_with fail
        refine bodyPost_ret (v := .tuple #[.agg #[.int .u8 0, .string ⟨#[]⟩, .int .i64 0, .int .i64 0], .int .i64 4]) (by simp [results, Try.results60, go_sem]) rfl ⟨⟨0, ⟨#[]⟩, 0, 0⟩, rfl, fun h => by simp at h, below3 _ _ _⟩
      · rw [hw] at C3
        rw [if_neg (by decide)]
        clear hw
        by_cases hz : 32 < s.size
        · have hz' : (32 : Int) < (s.size : Int) := by omega
          rw [if_pos hz]
          go_enter Try.func60, Try.ntmps60
          go_wp2_with fail
          refine (Own_any _).mono ?_
          rintro e w1 ⟨rfl, rfl⟩
          have hs1 : StrsAt (((w.alloc (.cells #[.int .u8 0, .string ⟨#[]⟩, .int .i64 0, .int .i64 0] 67)).alloc (.cells (ownWs.map Value.string).toArray 9)).alloc (.cells (signWs.map Value.string).toArray 9)) (w.heap.size + 1) 0 ownWs := by
            have := strs_own (w.alloc (.cells #[.int .u8 0, .string ⟨#[]⟩, .int .i64 0, .int .i64 0] 67))
            rwa [World.size_alloc] at this
          have HS1 := Lib.hid hs1
          clear hs1
          go_wp2_with fail
          refine (kind_any _ _).mono ?_
          rintro e w' ⟨rfl, rfl⟩
          go_wp2_with fail
          refine (C2 _ _ HS1.out).out.mono ?_
          rintro e w' ⟨rfl, rfl⟩
          go_wp2_with fail
          refine (C3 _).out.mono ?_
          rintro e w' ⟨rfl, rfl⟩
          go_wp2_with fail
          refine bodyPost_ret (v := .tuple #[.agg #[.int .u8 0, .string ⟨#[]⟩, .int .i64 0, .int .i64 0], .int .i64 7]) (by simp [results, Try.results60, go_sem]) rfl ⟨⟨0, ⟨#[]⟩, 0, 0⟩, rfl, fun h => by simp at h, below3 _ _ _⟩
        · have hz' : ¬ (32 : Int) < (s.size : Int) := by omega
          rw [if_neg hz]
          go_enter Try.func60, Try.ntmps60
          go_wp2_with fail
          refine (Own_any _).mono ?_
          rintro e w1 ⟨rfl, rfl⟩
          have hs1 : StrsAt (((w.alloc (.cells #[.int .u8 0, .string ⟨#[]⟩, .int .i64 0, .int .i64 0] 67)).alloc (.cells (ownWs.map Value.string).toArray 9)).alloc (.cells (signWs.map Value.string).toArray 9)) (w.heap.size + 1) 0 ownWs := by
            have := strs_own (w.alloc (.cells #[.int .u8 0, .string ⟨#[]⟩, .int .i64 0, .int .i64 0] 67))
            rwa [World.size_alloc] at this
          have HS1 := Lib.hid hs1
          clear hs1
          go_wp2_with fail
          refine (kind_any _ _).mono ?_
          rintro e w' ⟨rfl, rfl⟩
          go_wp2_with fail
          refine (C2 _ _ HS1.out).out.mono ?_
          rintro e w' ⟨rfl, rfl⟩
          go_wp2_with fail
          refine (C3 _).out.mono ?_
          rintro e w' ⟨rfl, rfl⟩
          go_wp2_with fail
          refine bodyPost_ret (v := .tuple #[.agg #[.int .u8 1, .string s, .int .i64 0, .int .i64 at_], .int .i64 0]) (by simp [results, Try.results60, go_sem]) rfl ⟨⟨1, s, 0, at_⟩, rfl, fun _ => rfl, below3 _ _ _⟩
    · rw [ho] at C2
      rw [if_pos rfl]
      clear ho
      go_enter Try.func60, Try.ntmps60
      go_wp2_with fail
      refine (Own_any _).mono ?_
      rintro e w1 ⟨rfl, rfl⟩
      have hs1 : StrsAt (((w.alloc (.cells #[.int .u8 0, .string ⟨#[]⟩, .int .i64 0, .int .i64 0] 67)).alloc (.cells (ownWs.map Value.string).toArray 9)).alloc (.cells (signWs.map Value.string).toArray 9)) (w.heap.size + 1) 0 ownWs := by
        have := strs_own (w.alloc (.cells #[.int .u8 0, .string ⟨#[]⟩, .int .i64 0, .int .i64 0] 67))
        rwa [World.size_alloc] at this
      have HS1 := Lib.hid hs1
      clear hs1
      go_wp2_with fail
      refine (kind_any _ _).mono ?_
      rintro e w' ⟨rfl, rfl⟩
      go_wp2_with fail
      refine (C2 _ _ HS1.out).out.mono ?_
      rintro e w' ⟨rfl, rfl⟩
      go_wp2_with fail
      refine bodyPost_ret (v := .tuple #[.agg #[.int .u8 3, .string s, .int .i64 0, .int .i64 at_], .int .i64 0]) (by simp [results, Try.results60, go_sem]) rfl ⟨⟨3, s, 0, at_⟩, rfl, fun _ => rfl, below3 _ _ _⟩
  · have hk := kind_is3 hd
    rw [if_pos rfl]
    clear hd
    generalize numS (numsOf s) = q at *
    obtain ⟨n, c⟩ := q
    simp only at C1
    go_enter Try.func60, Try.ntmps60
    go_wp2_with fail
    refine (Own_any _).mono ?_
    rintro e w1 ⟨rfl, rfl⟩
    have hs1 : StrsAt (((w.alloc (.cells #[.int .u8 0, .string ⟨#[]⟩, .int .i64 0, .int .i64 0] 67)).alloc (.cells (ownWs.map Value.string).toArray 9)).alloc (.cells (signWs.map Value.string).toArray 9)) (w.heap.size + 1) 0 ownWs := by
      have := strs_own (w.alloc (.cells #[.int .u8 0, .string ⟨#[]⟩, .int .i64 0, .int .i64 0] 67))
      rwa [World.size_alloc] at this
    have HS1 := Lib.hid hs1
    clear hs1
    go_wp2_with fail
    refine (kind_any _ _).mono ?_
    rintro e w' ⟨rfl, rfl⟩
    go_wp2_with fail
    refine (C1 _).out.mono ?_
    rintro e w' ⟨rfl, rfl⟩
    go_wp2_with fail
    refine bodyPost_ret (v := .tuple #[.agg #[.int .u8 2, .string ⟨#[]⟩, .int .i64 n, .int .i64 at_], .int .i64 c]) (by simp [results, Try.results60, go_sem]) rfl ⟨⟨2, ⟨#[]⟩, n, at_⟩, rfl, fun _ => rfl, below3 _ _ _⟩
end Go.Proofs.Ytegekajbnecdfaa

/- Layer 2: the walks of a reader's functions. -/
import Derived.Test.YtegekajbnecdfaaLRTok1
import Derived.StillTailTactics
namespace Go.Proofs.Ytegekajbnecdfaa
open Go.RowKit
/-- A reader. -/
def Rd (w : World) (g : Nat) (A : Option Addr) (n cap a : Nat) : Prop := Blk w g 100 #[.slice A n cap, .int .i64 (a : Int)]
section
variable {w w' : World} {g : Nat} {A : Option Addr} {n cap a : Nat}
theorem Rd.lt (h : Rd w g A n cap a) : g < w.heap.size := Blk.lt h
theorem Rd.cells (h : Rd w g A n cap a) : w.cell? ⟨g, 0, none⟩ = some (.slice A n cap) ∧ w.cell? ⟨g, 1, none⟩ = some (.int .i64 (a : Int)) ∧ w.frozen? ⟨g, 1, none⟩ = false :=
  ⟨Blk.cell h 0, Blk.cell h 1, Blk.frozen h 1⟩
theorem Rd.below {B : Nat} (h : Rd w g A n cap a) (hb : Below B w w') (hg : g < B) : Rd w' g A n cap a := Blk.below h hb hg
theorem Rd.set_ (h : Rd w g A n cap a) (a' : Nat) : Rd (w.setCell ⟨g, 1, none⟩ (.int .i64 (a' : Int))) g A n cap a' := by
  have := Blk.set_ h 1 (.int .i64 (a' : Int))
  unfold Rd
  simpa using this
end
/-- The token that a reader tells. -/
def peekS (ts : List Tok) (a : Nat) : Tok :=
  match ts[a]? with
  | some t => t
  | none => match ts.getLast? with
    | some t => ⟨4, ⟨#[]⟩, 0, t.at_⟩
    | none => ⟨4, ⟨#[]⟩, 0, 0⟩
def noneTok : Tok := ⟨4, ⟨#[]⟩, 0, 0⟩
set_option maxHeartbeats 1000000 in
theorem Peek_nil (w : World) : Calls Try.prog 41 #[.pointer none] w fun e w' => e = .returned noneTok.val ∧ Below w.heap.size w w' := by
  go_enter Try.func41, Try.ntmps41
  go_wp2_with fail
  exact bodyPost_ret (v := noneTok.val) (by simp [results, Try.results41, go_sem, Tok.val, noneTok]) rfl ⟨rfl, (Below.refl _ _).alloc (Nat.le_refl _) _⟩
set_option maxRecDepth 100000 in
set_option maxHeartbeats 1000000 in
theorem Peek_any (g n cap a : Nat) (A : Option Addr) (ts : List Tok) (w : World) (hn : ts.length = n) (hN : n ≤ 1000000) (ha : a ≤ n) (hr : Rd w g A n cap a) (ht : ToksAt w A ts) :
    Calls Try.prog 41 #[.pointer (some ⟨g, 0, none⟩)] w fun e w' => e = .returned (peekS ts a).val ∧ Below w.heap.size w w' := by
  have hgl := Blk.lt hr
  obtain ⟨c0, c1, _⟩ := hr.cells
  have HN := Lib.hid hn
  have HT := Lib.hid ht
  clear hn ht
  by_cases h0 : n = 0
  · subst h0
    obtain rfl : ts = [] := List.eq_nil_of_length_eq_zero HN.out
    obtain rfl : a = 0 := by omega
    go_enter Try.func41, Try.ntmps41
    go_wp2_with fail
    exact bodyPost_ret (v := noneTok.val) (by simp [results, Try.results41, go_sem, Tok.val, noneTok]) rfl ⟨rfl, (Below.refl _ _).alloc (Nat.le_refl _) _⟩
  · have e0 : ((n : Int) == 0) = false := by rw [beq_eq_false_iff_ne]; omega
    have e1 : (n == 0) = false := by rw [beq_eq_false_iff_ne]; omega
    have hts : ts ≠ [] := by rintro rfl; exact h0 HN.out.symm
    obtain ⟨b, off, rfl, hlb, hc⟩ := HT.out.resolve_left hts
    by_cases hlt : a < n
    · obtain ⟨⟨tk, tt, tn, ta⟩, hs⟩ : ∃ t, ts[a]? = some t := ⟨_, List.getElem?_eq_getElem (by rw [HN.out]; exact hlt)⟩
      have hp : peekS ts a = ⟨tk, tt, tn, ta⟩ := by unfold peekS; rw [hs]
      rw [hp]
      obtain ⟨x0, x1, x2, x3⟩ := hc a _ hs
      simp only at x0 x1 x2 x3
      have d1 : (a : Int) < (n : Int) := by omega
      have d2 : (0 : Int) ≤ (a : Int) := by omega
      have d3 : decide ((a : Int) < (n : Int)) = true := decide_eq_true d1
      have d4 : decide (a < n) = true := decide_eq_true hlt
      clear hc hs hp hts
      go_enter Try.func41, Try.ntmps41
      go_wp2_with fail
      go_quiet (fail)
      rename Nat => nq
      have hB := below_drewN ((Below.refl w.heap.size w).alloc (Nat.le_refl _) (.cells #[.int .u8 0, .string ⟨#[]⟩, .int .i64 0, .int .i64 0] 67)) nq
      have hv := (Blk.new w 67 #[.int .u8 0, .string ⟨#[]⟩, .int .i64 0, .int .i64 0]).drewN nq
      generalize (w.alloc (.cells #[.int .u8 0, .string ⟨#[]⟩, .int .i64 0, .int .i64 0] 67)).drewN nq = wt at *
      obtain ⟨c0, c1, _⟩ := (hr.below hB hgl).cells
      rw [← hB.cell (p := ⟨b, _, none⟩) hlb] at x0 x1 x2 x3
      obtain ⟨y0, y1, y2, y3, y4, y5, y6, y7⟩ := blk4 hv
      have HBX := Lib.hid hB
      have HV := Lib.hid hv
      have HR := Lib.hid hr
      have hne : ¬ w.heap.size = b := by omega
      clear hB hv hr
      go_wp2_with fail
      go_still_tail 10, (by kernel_rfl)
      change wpList _ _ _ _ _ (World.drew wt)
      have HBD := Lib.hid HBX.out.drew
      have HVD := Lib.hid HV.out.drew
      have HE := Lib.hid (show w.heap.size < wt.drew.heap.size from Blk.lt HV.out)
      generalize World.drew wt = wd at *
      clear HBX HV y0 y1 y2 y3 y4 y5 y6 y7 c0 c1 x0 x1 x2 x3
      obtain ⟨y0, y1, y2, y3, y4, y5, y6, y7⟩ := blk4 HVD.out
      go_wp2_with fail
      refine bodyPost_ret (v := Tok.val ⟨tk, tt, tn, ta⟩) (by simp [results, Try.results41, go_sem, Tok.val, y0, y1, y2, y3]) rfl ⟨rfl, ?_⟩
      exact (((HBD.out.setCell (Nat.le_refl _) _).setCell (Nat.le_refl _) _).setCell (Nat.le_refl _) _).setCell (Nat.le_refl _) _
    · obtain rfl : a = n := by omega
      obtain ⟨⟨tk, tt, tn, ta⟩, hs⟩ : ∃ t, ts[a - 1]? = some t := ⟨_, List.getElem?_eq_getElem (by rw [HN.out]; omega)⟩
      have hp : peekS ts a = ⟨4, ⟨#[]⟩, 0, ta⟩ := by
        unfold peekS
        rw [List.getElem?_eq_none (by rw [HN.out]; exact Nat.le_refl _), List.getLast?_eq_getElem?, HN.out, hs]
      rw [hp]
      obtain ⟨_, _, _, x3⟩ := hc (a - 1) _ hs
      simp only at x3
      have d1 : ¬ (a : Int) < (a : Int) := by omega
      have d2 : (0 : Int) ≤ (a : Int) := by omega
      have d3 : decide ((a : Int) < (a : Int)) = false := decide_eq_false d1
      have d4 : decide (a < a) = false := decide_eq_false hlt
      have hw0 : IntKind.i64.wrap ((a : Int) - 1) = (a : Int) - 1 := IntWalk.i64_in _ (by omega)
      have hw1 : 0 ≤ (a : Int) - 1 := by omega
      have hw2 : ((a : Int) - 1).toNat = a - 1 := by omega
      have hw3 : (a : Int) - 1 < (a : Int) := by omega
      have hw4 : (1 : Int) ≤ (a : Int) := by omega
      clear hc hs hp hts hlt
      go_enter Try.func41, Try.ntmps41
      go_wp2_with fail
      go_quiet (fail)
      rename Nat => nq
      have hB := below_drewN ((Below.refl w.heap.size w).alloc (Nat.le_refl _) (.cells #[.int .u8 0, .string ⟨#[]⟩, .int .i64 0, .int .i64 0] 67)) nq
      have hv := (Blk.new w 67 #[.int .u8 0, .string ⟨#[]⟩, .int .i64 0, .int .i64 0]).drewN nq
      generalize (w.alloc (.cells #[.int .u8 0, .string ⟨#[]⟩, .int .i64 0, .int .i64 0] 67)).drewN nq = wt at *
      obtain ⟨c0, c1, _⟩ := (hr.below hB hgl).cells
      rw [← hB.cell (p := ⟨b, _, none⟩) hlb] at x3
      obtain ⟨y0, y1, y2, y3, y4, y5, y6, y7⟩ := blk4 hv
      have HBX := Lib.hid hB
      have HV := Lib.hid hv
      have HR := Lib.hid hr
      have hne : ¬ w.heap.size = b := by omega
      clear hB hv hr
      go_wp2_with fail
      go_still_tail 14, (by kernel_rfl)
      change wpList _ _ _ _ _ (World.drew wt)
      have HBD := Lib.hid HBX.out.drew
      have HVD := Lib.hid HV.out.drew
      have HE := Lib.hid (show w.heap.size < wt.drew.heap.size from Blk.lt HV.out)
      generalize World.drew wt = wd at *
      clear HBX HV y0 y1 y2 y3 y4 y5 y6 y7 c0 c1 x3
      obtain ⟨y0, y1, y2, y3, y4, y5, y6, y7⟩ := blk4 HVD.out
      go_wp2_with fail
      refine bodyPost_ret (v := Tok.val ⟨4, ⟨#[]⟩, 0, ta⟩) (by simp [results, Try.results41, go_sem, Tok.val, y0, y1, y2, y3]) rfl ⟨rfl, ?_⟩
      exact (((HBD.out.setCell (Nat.le_refl _) _).setCell (Nat.le_refl _) _).setCell (Nat.le_refl _) _).setCell (Nat.le_refl _) _
/-- Is a token this sign? -/
def isS (t : Tok) (s : ByteArray) : Bool := (t.kind == 3) && (t.text.toList == s.toList)
set_option maxRecDepth 100000 in
set_option maxHeartbeats 1000000 in
theorem Is_of (p : Value) (t : Tok) (s : ByteArray) (w : World) (C : ∀ w1, Below w.heap.size w w1 → Calls Try.prog 41 #[p] w1 fun e w' => e = .returned t.val ∧ Below w1.heap.size w1 w') :
    Calls Try.prog 42 #[p, .string s] w fun e w' => e = .returned (.bool (isS t s)) ∧ Below w.heap.size w w' := by
  obtain ⟨tk, tt, tn, ta⟩ := t
  have C0 := fun w1 h => Lib.hid (C w1 h)
  unfold isS
  simp only
  clear C
  cases h1 : (tk == 3) <;> cases h2 : (tt.toList == s.toList)
  all_goals
    go_enter Try.func42, Try.ntmps42
    go_wp2_with fail
    refine (C0 _ (by first | exact Below.refl _ _ | exact (Below.refl _ _).alloc (Nat.le_refl _) _)).out.mono ?_
    rintro e w1 ⟨rfl, hb⟩
    have hz := hb.size
    have HB := Lib.hid hb
    simp only [Tok.val]
    clear hb
    go_wp2_with fail
    go_ret
    exact ⟨rfl, HB.out.alloc hz _⟩
set_option maxRecDepth 100000 in
set_option maxHeartbeats 1000000 in
theorem Take_nil (w : World) : Calls Try.prog 43 #[.pointer none] w fun e w' => e = .returned noneTok.val ∧ Below w.heap.size w w' := by
  have C0 := fun w1 => Lib.hid (Peek_nil w1)
  unfold noneTok at *
  simp only [Tok.val] at *
  go_enter Try.func43, Try.ntmps43
  go_wp2_with fail
  refine (C0 _).out.mono ?_
  rintro e w1 ⟨rfl, hb⟩
  have hz := hb.size
  simp at hz
  have hB := Below.trans ((Below.refl w.heap.size w).alloc (Nat.le_refl _) (.cells #[.int .u8 0, .string ⟨#[]⟩, .int .i64 0, .int .i64 0] 67)) (hb.mono (by simp))
  have hv := Blk.below (Blk.new w 67 #[.int .u8 0, .string ⟨#[]⟩, .int .i64 0, .int .i64 0]) hb (by simp)
  have HBX := Lib.hid hB
  have hv2 := hv.alloc (.cells #[.int .u8 4, .string ⟨#[]⟩, .int .i64 0, .int .i64 0] 67)
  obtain ⟨y0, y1, y2, y3, y4, y5, y6, y7⟩ := blk4 hv2
  have hx := Blk.new w1 67 #[.int .u8 4, .string ⟨#[]⟩, .int .i64 0, .int .i64 0]
  have hB2 := hB.alloc hB.size (.cells #[.int .u8 4, .string ⟨#[]⟩, .int .i64 0, .int .i64 0] 67)
  have n1 : ¬ w.heap.size = w1.heap.size := by omega
  have n2 : ¬ w1.heap.size = w.heap.size := by omega
  clear hb hB hv HBX
  go_wp2_with fail
  go_quiet (fail)
  rename Nat => nq
  have HV := Lib.hid (hv2.drewN nq)
  have HX := Lib.hid (hx.drewN nq)
  have HBY := Lib.hid (below_drewN hB2 nq)
  clear hv2 hx hB2
  generalize (w1.alloc (.cells #[.int .u8 4, .string ⟨#[]⟩, .int .i64 0, .int .i64 0] 67)).drewN nq = wt at *
  obtain ⟨y0, y1, y2, y3, y4, y5, y6, y7⟩ := blk4 HV.out
  obtain ⟨x0, x1, x2, x3, _⟩ := blk4 HX.out
  go_wp2_with fail
  refine bodyPost_ret (v := .agg #[.int .u8 4, .string ⟨#[]⟩, .int .i64 0, .int .i64 0]) (by simp [results, Try.results43, go_sem, y0, y1, y2, y3]) rfl ⟨rfl, ?_⟩
  exact (((HBY.out.setCell (Nat.le_refl _) _).setCell (Nat.le_refl _) _).setCell (Nat.le_refl _) _).setCell (Nat.le_refl _) _
/-- What Take leaves. -/
def TakeLeft (t : Tok) (w : World) (g : Nat) (A : Option Addr) (n cap a : Nat) (e : Ending) (w' : World) : Prop := e = .returned t.val ∧ w.grownBy w' (some g) ∧ Rd w' g A n cap a
set_option maxRecDepth 100000 in
set_option maxHeartbeats 2000000 in
theorem Take_any (g n cap a : Nat) (A : Option Addr) (ts : List Tok) (w : World) (hn : ts.length = n) (hN : n ≤ 1000000) (ha : a ≤ n) (hr : Rd w g A n cap a) (ht : ToksAt w A ts) :
    Calls Try.prog 43 #[.pointer (some ⟨g, 0, none⟩)] w (TakeLeft (peekS ts a) w g A n cap (min (a + 1) n)) := by
  have hgl := Blk.lt hr
  have C0 := fun w1 h1 h2 => Lib.hid (Peek_any g n cap a A ts w1 hn hN ha h1 h2)
  have hzz : ∀ o : Obj, Below w.heap.size w (w.alloc o) := fun o => (Below.refl _ _).alloc (Nat.le_refl _) o
  have C1 := Lib.hid ((C0 _ (hr.below (hzz (.cells #[.int .u8 0, .string ⟨#[]⟩, .int .i64 0, .int .i64 0] 67)) hgl) (ht.below (hzz _))).out)
  obtain ⟨c0, c1, cf⟩ := hr.cells
  have HR := Lib.hid hr
  generalize peekS ts a = t at *
  obtain ⟨tk, tt, tn, ta⟩ := t
  clear C0 hzz ht hn hr
  rcases (show (a < n ∧ min (a + 1) n = a + 1) ∨ (a = n ∧ min (a + 1) n = a) by omega) with ⟨hlt, hmin⟩ | ⟨heq, hmin⟩
  · rw [hmin]
    have d1 : (a : Int) < (n : Int) := by omega
    have d3 : decide ((a : Int) < (n : Int)) = true := decide_eq_true d1
    have d4 : decide (a < n) = true := decide_eq_true hlt
    clear hmin
    go_enter Try.func43, Try.ntmps43
    go_wp2_with fail
    refine C1.out.mono ?_
    rintro e w1 ⟨rfl, hb⟩
    have hz := hb.size
    simp at hz
    have hB := Below.trans ((Below.refl w.heap.size w).alloc (Nat.le_refl _) (.cells #[.int .u8 0, .string ⟨#[]⟩, .int .i64 0, .int .i64 0] 67)) (hb.mono (by simp))
    have hv := Blk.below (Blk.new w 67 #[.int .u8 0, .string ⟨#[]⟩, .int .i64 0, .int .i64 0]) hb (by simp)
    have hv2 := hv.alloc (.cells #[.int .u8 tk, .string tt, .int .i64 tn, .int .i64 ta] 67)
    obtain ⟨y0, y1, y2, y3, y4, y5, y6, y7⟩ := blk4 hv2
    have hx := Blk.new w1 67 #[.int .u8 tk, .string tt, .int .i64 tn, .int .i64 ta]
    have hB2 := hB.alloc hB.size (.cells #[.int .u8 tk, .string tt, .int .i64 tn, .int .i64 ta] 67)
    have n1 : ¬ w.heap.size = w1.heap.size := by omega
    have n2 : ¬ w1.heap.size = w.heap.size := by omega
    have n3 : ¬ g = w.heap.size := by omega
    have n4 : ¬ w.heap.size = g := by omega
    have n5 : ¬ g = w1.heap.size := by omega
    have n6 : ¬ w1.heap.size = g := by omega
    obtain ⟨r0, r1, rf⟩ := (HR.out.below hB2 hgl).cells
    clear hb hB hv
    simp only [Tok.val]
    go_wp2_with fail
    go_quiet (fail)
    rename Nat => nq
    have HV := Lib.hid (hv2.drewN nq)
    have HX := Lib.hid (hx.drewN nq)
    have HBY := Lib.hid (below_drewN hB2 nq)
    clear hv2 hx hB2 y0 y1 y2 y3 y4 y5 y6 y7 r0 r1 rf
    generalize (w1.alloc (.cells #[.int .u8 tk, .string tt, .int .i64 tn, .int .i64 ta] 67)).drewN nq = wt at *
    have HRT := Lib.hid (HR.out.below HBY.out hgl)
    obtain ⟨r0, r1, rf⟩ := HRT.out.cells
    have HV2 := Lib.hid (HV.out.far (p := ⟨g, 1, none⟩) n4 (.int .i64 ((a : Int) + 1)))
    have HX2 := Lib.hid (HX.out.far (p := ⟨g, 1, none⟩) n6 (.int .i64 ((a : Int) + 1)))
    obtain ⟨y0, y1, y2, y3, y4, y5, y6, y7⟩ := blk4 HV2.out
    obtain ⟨x0, x1, x2, x3, _⟩ := blk4 HX2.out
    go_wp2_with fail
    refine bodyPost_ret (v := Tok.val ⟨tk, tt, tn, ta⟩) (by simp [results, Try.results43, go_sem, Tok.val, y0, y1, y2, y3]) rfl ⟨rfl, ?_, ?_⟩
    · exact only_setCell (only_setCell (only_setCell (only_setCell (only_setCell (only_below HBY.out) (.inl rfl) _) (.inr (Nat.le_refl _)) _) (.inr (Nat.le_refl _)) _) (.inr (Nat.le_refl _)) _) (.inr (Nat.le_refl _)) _
    · have h := HRT.out.set_ (a + 1)
      rw [Int.natCast_add] at h
      exact (((Blk.far h n3 _).far n3 _).far n3 _).far n3 _
  · rw [hmin]
    subst heq
    have d1 : ¬ (a : Int) < (a : Int) := by omega
    have d3 : decide ((a : Int) < (a : Int)) = false := decide_eq_false d1
    have d4 : decide (a < a) = false := decide_eq_false (by omega)
    clear hmin
    go_enter Try.func43, Try.ntmps43
    go_wp2_with fail
    refine C1.out.mono ?_
    rintro e w1 ⟨rfl, hb⟩
    have hz := hb.size
    simp at hz
    have hB := Below.trans ((Below.refl w.heap.size w).alloc (Nat.le_refl _) (.cells #[.int .u8 0, .string ⟨#[]⟩, .int .i64 0, .int .i64 0] 67)) (hb.mono (by simp))
    have hv := Blk.below (Blk.new w 67 #[.int .u8 0, .string ⟨#[]⟩, .int .i64 0, .int .i64 0]) hb (by simp)
    have hv2 := hv.alloc (.cells #[.int .u8 tk, .string tt, .int .i64 tn, .int .i64 ta] 67)
    obtain ⟨y0, y1, y2, y3, y4, y5, y6, y7⟩ := blk4 hv2
    have hx := Blk.new w1 67 #[.int .u8 tk, .string tt, .int .i64 tn, .int .i64 ta]
    have hB2 := hB.alloc hB.size (.cells #[.int .u8 tk, .string tt, .int .i64 tn, .int .i64 ta] 67)
    have n1 : ¬ w.heap.size = w1.heap.size := by omega
    have n2 : ¬ w1.heap.size = w.heap.size := by omega
    have n3 : ¬ g = w.heap.size := by omega
    have n4 : ¬ w.heap.size = g := by omega
    have n5 : ¬ g = w1.heap.size := by omega
    have n6 : ¬ w1.heap.size = g := by omega
    obtain ⟨r0, r1, rf⟩ := (HR.out.below hB2 hgl).cells
    clear hb hB hv
    simp only [Tok.val]
    go_wp2_with fail
    go_quiet (fail)
    rename Nat => nq
    have HV := Lib.hid (hv2.drewN nq)
    have HX := Lib.hid (hx.drewN nq)
    have HBY := Lib.hid (below_drewN hB2 nq)
    clear hv2 hx hB2 y0 y1 y2 y3 y4 y5 y6 y7 r0 r1 rf
    generalize (w1.alloc (.cells #[.int .u8 tk, .string tt, .int .i64 tn, .int .i64 ta] 67)).drewN nq = wt at *
    have HRT := Lib.hid (HR.out.below HBY.out hgl)
    obtain ⟨r0, r1, rf⟩ := HRT.out.cells
    obtain ⟨y0, y1, y2, y3, y4, y5, y6, y7⟩ := blk4 HV.out
    obtain ⟨x0, x1, x2, x3, _⟩ := blk4 HX.out
    go_wp2_with fail
    refine bodyPost_ret (v := Tok.val ⟨tk, tt, tn, ta⟩) (by simp [results, Try.results43, go_sem, Tok.val, y0, y1, y2, y3]) rfl ⟨rfl, ?_, ?_⟩
    · exact only_setCell (only_setCell (only_setCell (only_setCell (only_below HBY.out) (.inr (Nat.le_refl _)) _) (.inr (Nat.le_refl _)) _) (.inr (Nat.le_refl _)) _) (.inr (Nat.le_refl _)) _
    · exact (((Blk.far HRT.out n3 _).far n3 _).far n3 _).far n3 _
theorem ToksAt.only {w w' : World} {g : Nat} {A : Option Addr} {ts : List Tok} (h : ToksAt w A ts) (hg : w.grownBy w' (some g)) (hne : ∀ b off, A = some ⟨b, off, none⟩ → ts ≠ [] → b ≠ g) : ToksAt w' A ts := by
  rcases h with h | ⟨b, off, rfl, hlt, hc⟩
  · exact .inl h
  · by_cases ht : ts = []
    · exact .inl ht
    · have hb := hne b off rfl ht
      have hcell : ∀ o, w'.cell? ⟨b, o, none⟩ = w.cell? ⟨b, o, none⟩ := fun o => by
        have := hg.block b hlt (fun e => hb (by injection e))
        simp only [World.cell?, this]
      refine .inr ⟨b, off, rfl, Nat.lt_of_lt_of_le hlt hg.size, fun i t hi => ?_⟩
      obtain ⟨h0, h1, h2, h3⟩ := hc i t hi
      exact ⟨(hcell _).trans h0, (hcell _).trans h1, (hcell _).trans h2, (hcell _).trans h3⟩
end Go.Proofs.Ytegekajbnecdfaa

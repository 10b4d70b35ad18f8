/- Layer 2: the walk of LexisTokens. -/
import Derived.Test.YtegekajbnecdfaaLRTok1
namespace Go.Proofs.Ytegekajbnecdfaa
open Go.RowKit
theorem tokB_refl (t : Tok) : tokB t t = true := by unfold tokB; simp
theorem sameB_refl : ∀ ts : List Tok, sameB ts ts = true
  | [] => rfl
  | t :: ts => by unfold sameB; rw [tokB_refl, sameB_refl ts]; rfl
theorem takeWhile_len (p : Int → Bool) : ∀ l : List Int, (l.takeWhile p).length ≤ l.length
  | [] => Nat.le_refl _
  | x :: l => by
    rw [List.takeWhile_cons]
    split
    · have := takeWhile_len p l
      simp; exact this
    · simp
theorem runS_bd (s : ByteArray) (a : Int) : 0 ≤ (runS s a).2 ∧ (runS s a).2 ≤ 7 := by
  unfold runS
  repeat' split
  all_goals first | (simp; done) | exact numS_bd _ | (simp; omega)
theorem scan_n {l : List Int} : ∀ (n a : Nat) (rem : Bool) (out : List Tok), l.length - a ≤ n → Byt l → out.length ≤ a → a ≤ l.length → (scanS l a rem out).1.length ≤ l.length + 1 ∧ 0 ≤ (scanS l a rem out).2.2 ∧ (scanS l a rem out).2.2 ≤ 7 := by
  intro n
  induction n with
  | zero =>
    intro a rem out hn hb ho ha
    rw [scan_end (by omega)]
    simp; omega
  | succ n ih =>
    intro a rem out hn hb ho ha
    rcases Nat.lt_or_ge a l.length with hlt | hge
    · by_cases h0 : nx l a = 0
      · rw [scan_utf hlt h0]; simp
      · have hx := nx_bd h0
        have hx2 := hx.2.2 hlt
        cases rem
        · rcases scan_kinds (gb l a) with h | ⟨h, h35⟩ | ⟨h, h35, hr⟩ | ⟨h, h35, hr⟩
          · rw [scan_blank hlt h0 h]; exact ih _ _ _ (by omega) hb (by omega) (by omega)
          · rw [scan_hash hlt h0 h35]; exact ih _ _ _ (by omega) hb (by omega) (by omega)
          · rw [scan_run hlt h0 h h35 hr]
            have hp := run_pos hlt hr
            have hle : a + (runAt l a).length ≤ l.length := by
              have : (runAt l a).length ≤ (l.drop a).length := by unfold runAt; exact takeWhile_len _ _
              rw [List.length_drop] at this
              omega
            split
            · exact ih _ _ _ (by omega) hb (by simp; omega) (by omega)
            · have := runS_bd (strOfNums (runAt l a)) a
              simp; omega
          · by_cases hs : signS (l.drop a) = 0
            · rw [scan_nosign hlt h0 h h35 hr hs]; simp
            · rw [scan_sign hlt h0 h h35 hr hs]
              have := sign_lt hlt
              exact ih _ _ _ (by omega) hb (by simp; omega) (by omega)
        · rw [scan_rem hlt h0]; exact ih _ _ _ (by omega) hb (by omega) (by omega)
    · rw [scan_end (by omega)]
      simp; omega
/-- What Tokens tells, as a slice that is known whole. -/
def TksAt (k : IntKind) (n : Nat) (ts : List Tok) (p c : Int) (w : World) (e : Ending) (w' : World) : Prop :=
  ∃ A cap, e = .returned (.tuple #[.slice A n cap, .int .i64 p, .int k c]) ∧ ToksAt w' A ts ∧ Below w.heap.size w w'
theorem tks_at {k : IntKind} {l : List Int} {w : World} {e : Ending} {w' : World} (h : TksTold k l w e w') : TksAt k (scanS l 0 false []).1.length (scanS l 0 false []).1 (scanS l 0 false []).2.1 (scanS l 0 false []).2.2 w e w' := by
  obtain ⟨v, rfl, ho, hb⟩ := h
  obtain ⟨A, cap, rfl, ht⟩ := ho.toks
  exact ⟨A, cap, rfl, ht, hb⟩
set_option maxHeartbeats 1000000 in
theorem LexisTokens_any (A : Option Addr) (len cap : Nat) (l : List Int) (w : World) (hl : l.length = len) (hcap : len ≤ cap) (hm : cap ≤ maxLen) (hb : Byt l) (hs : SliceAt w .u8 A l) :
    Calls Try.prog 11 #[.slice A len cap] w fun e w' => e = .returned (.bool true) ∧ Below w.heap.size w w' := by
  unfold maxLen at hm
  have C0 := fun w => Lib.hid (alive_any w)
  have HS := Lib.hid hs
  by_cases h5 : 5000 < len
  · have h5' : (5000 : Int) < (len : Int) := by omega
    clear hl hs hb
    go_enter Try.func11, Try.ntmps11
    go_wp2_with fail
    refine (C0 _).out.mono ?_
    rintro e w1 ⟨rfl, hb1⟩
    have HB := Lib.hid hb1
    clear hb1
    go_wp2_with fail
    go_ret
    exact ⟨rfl, HB.out⟩
  · have h5' : ¬ (5000 : Int) < (len : Int) := by omega
    have hlen := scan_n l.length 0 false [] (by omega) hb (by simp) (by omega)
    have C1 := fun w hs => Lib.hid ((Tokens_any A len cap l w hl hcap hm hb hs (by omega)).mono fun e w' h => tks_at h)
    have C2 := fun w hs => Lib.hid ((RefTokens_any A len cap l w hl hcap hm hb hs (by omega)).mono fun e w' h => tks_at h)
    rw [hl] at hlen
    generalize scanS l 0 false [] = s at *
    obtain ⟨ts, p, c⟩ := s
    simp only at C1 C2 hlen
    obtain ⟨hlen, hc0, hc7⟩ := hlen
    have C3 := fun A B cn cm w ha hb => Lib.hid (SameToks_any A B ts.length ts.length cn cm ts ts w rfl rfl (by omega) (by omega) ha hb)
    rw [sameB_refl] at C3
    generalize ts.length = n at *
    clear hl hs hb
    go_enter Try.func11, Try.ntmps11
    go_wp2_with fail
    refine (C0 _).out.mono ?_
    rintro e w1 ⟨rfl, hb1⟩
    have HB := Lib.hid hb1
    clear hb1
    go_wp2_with fail
    refine (C1 _ (HS.out.below_all HB.out)).out.mono ?_
    rintro e w2 ⟨A1, c1, rfl, ht1, hb2⟩
    have HB2 := Lib.hid (HB.out.trans (hb2.mono HB.out.size))
    have HT1 := Lib.hid ht1
    clear hb2 ht1
    go_wp2_with fail
    refine (C2 _ (HS.out.below_all HB2.out)).out.mono ?_
    rintro e w3 ⟨A2, c2, rfl, ht2, hb3⟩
    have HB3 := Lib.hid (HB2.out.trans (hb3.mono HB2.out.size))
    have HT2 := Lib.hid ht2
    have HT1' := Lib.hid (HT1.out.below hb3)
    clear hb3 ht2
    go_wp2_with fail
    refine (C3 _ _ _ _ _ HT1'.out HT2.out).out.mono ?_
    rintro e w4 ⟨rfl, q, rfl⟩
    go_wp2_with fail
    go_ret
    exact ⟨retBool (by simp), below_drewN HB3.out _⟩
end Go.Proofs.Ytegekajbnecdfaa

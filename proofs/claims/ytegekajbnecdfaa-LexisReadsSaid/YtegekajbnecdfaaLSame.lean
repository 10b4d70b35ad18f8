/- Layer 2: the walk of Same. -/
import Derived.Test.YtegekajbnecdfaaLTokens
namespace Go.Proofs.Ytegekajbnecdfaa
open Go.RowKit
/-- Tokens that lie somewhere. -/
def ToksAt (w : World) (A : Option Addr) (ts : List Tok) : Prop := ts = [] ∨ ∃ b off, A = some ⟨b, off, none⟩ ∧ b < w.heap.size ∧ ∀ i t, ts[i]? = some t → w.cell? ⟨b, off + i * 4, none⟩ = some (.int .u8 t.kind) ∧ w.cell? ⟨b, off + i * 4 + 1, none⟩ = some (.string t.text) ∧ w.cell? ⟨b, off + i * 4 + 2, none⟩ = some (.int .i64 t.n) ∧ w.cell? ⟨b, off + i * 4 + 3, none⟩ = some (.int .i64 t.at_)
def tokB (s t : Tok) : Bool := (s.kind == t.kind) && ((s.text.toList == t.text.toList) && ((s.n == t.n) && (s.at_ == t.at_)))
def sameB : List Tok → List Tok → Bool
  | [], [] => true
  | s :: ss, t :: ts => tokB s t && sameB ss ts
  | _, _ => false
theorem sameB_len : ∀ {ss ts : List Tok}, sameB ss ts = true → ss.length = ts.length
  | [], [], _ => rfl
  | s :: ss, t :: ts, h => by
    unfold sameB at h
    rw [Bool.and_eq_true] at h
    simp [sameB_len h.2]
  | [], _ :: _, h => by simp [sameB] at h
  | _ :: _, [], h => by simp [sameB] at h
theorem sameB_drop : ∀ {ss ts : List Tok} {k : Nat} {s t : Tok}, ss[k]? = some s → ts[k]? = some t → sameB (ss.drop k) (ts.drop k) = (tokB s t && sameB (ss.drop (k + 1)) (ts.drop (k + 1))) := by
  intro ss ts k s t hs ht
  obtain ⟨h1, e1⟩ := List.getElem?_eq_some_iff.1 hs
  obtain ⟨h2, e2⟩ := List.getElem?_eq_some_iff.1 ht
  rw [List.drop_eq_getElem_cons h1, List.drop_eq_getElem_cons h2, e1, e2]
  rfl
set_option maxRecDepth 100000 in
set_option maxHeartbeats 4000000 in
theorem SameToks_any (A B : Option Addr) (n m cn cm : Nat) (ss ts : List Tok) (w : World) (hn : ss.length = n) (hm : ts.length = m) (hN : n ≤ 1000000) (hM : m ≤ 1000000) (ha : ToksAt w A ss) (hb : ToksAt w B ts) :
    Calls Try.prog 37 #[.slice A n cn, .slice B m cm] w fun e w' => e = .returned (.bool (sameB ss ts)) ∧ ∃ q, w' = w.drewN q := by
  by_cases hnm : n = m
  · subst hnm
    have HN := Lib.hid hn
    have HM := Lib.hid hm
    have HA := Lib.hid ha
    have HB := Lib.hid hb
    clear hn hm ha hb
    go_enter Try.func37, Try.ntmps37
    go_wp2_with fail
    go_loopw [5] (fun i wr => ∃ (k q : Nat), k ≤ n ∧ i = .int .i64 k ∧ sameB (ss.drop k) (ts.drop k) = sameB ss ts ∧ wr = w.drewN q) (fun i _ => n - (intOf i).toNat)
    case atStart => exact ⟨0, 0, Nat.zero_le _, rfl, rfl, rfl⟩
    case round =>
      obtain ⟨k, q, hk, rfl, hE, rfl⟩ := hrel
      have HE := Lib.hid hE
      clear hE
      by_cases hlt : k < n
      · obtain ⟨⟨sk, st, sn, sa⟩, hs⟩ : ∃ t, ss[k]? = some t := ⟨_, List.getElem?_eq_getElem (by rw [HN.out]; exact hlt)⟩
        obtain ⟨⟨tk, tt, tn, ta⟩, ht⟩ : ∃ t, ts[k]? = some t := ⟨_, List.getElem?_eq_getElem (by rw [HM.out]; exact hlt)⟩
        have hd := sameB_drop hs ht
        rw [HE.out] at hd
        have hss : ss ≠ [] := by rintro rfl; simp at hs
        have hts : ts ≠ [] := by rintro rfl; simp at ht
        obtain ⟨b1, o1, rfl, _, hc1⟩ := HA.out.resolve_left hss
        obtain ⟨b2, o2, rfl, _, hc2⟩ := HB.out.resolve_left hts
        obtain ⟨x0, x1, x2, x3⟩ := hc1 k _ hs
        obtain ⟨y0, y1, y2, y3⟩ := hc2 k _ ht
        simp only at x0 x1 x2 x3 y0 y1 y2 y3
        unfold tokB at hd
        simp only at hd
        have d3 : (k : Int) < (n : Int) := by omega
        have d4 : (0 : Int) ≤ (k : Int) := by omega
        clear hs ht hss hts hc1 hc2
        cases hb0 : (sk == tk) <;> cases hb1 : (st.toList == tt.toList) <;> cases hb2 : (sn == tn) <;> cases hb3 : (sa == ta)
        all_goals
          rw [hb0, hb1, hb2, hb3] at hd
          simp only [Bool.and_true, Bool.true_and, Bool.and_false, Bool.false_and] at hd
          have HD := Lib.hid hd
          clear hd
          go_wp2_with fail
          go_region_held3 (fun w' => w'.cell? ⟨b1, o1 + k * 4, none⟩ = some (.int .u8 sk) ∧ w'.cell? ⟨b1, o1 + k * 4 + 1, none⟩ = some (.string st) ∧ w'.cell? ⟨b1, o1 + k * 4 + 2, none⟩ = some (.int .i64 sn) ∧ w'.cell? ⟨b1, o1 + k * 4 + 3, none⟩ = some (.int .i64 sa) ∧ w'.cell? ⟨b2, o2 + k * 4, none⟩ = some (.int .u8 tk) ∧ w'.cell? ⟨b2, o2 + k * 4 + 1, none⟩ = some (.string tt) ∧ w'.cell? ⟨b2, o2 + k * 4 + 2, none⟩ = some (.int .i64 tn) ∧ w'.cell? ⟨b2, o2 + k * 4 + 3, none⟩ = some (.int .i64 ta)) (go_keep) (fail)
          go_wp2_with fail
          first
            | (go_ret; exact ⟨retBool HD.out.symm, q + 1, rfl⟩)
            | (go_roundw
               case rel => exact ⟨k + 1, q + 1, by omega, by go_num, HD.out.symm, rfl⟩
               case measure => simp [intOf]; omega)
      · have hd : sameB ss ts = true := by
          rw [← HE.out, List.drop_eq_nil_of_le (by rw [HN.out]; omega), List.drop_eq_nil_of_le (by rw [HM.out]; omega)]
          rfl
        have HD := Lib.hid hd
        clear hd
        go_wp2_with fail
        go_ret
        exact ⟨retBool HD.out.symm, q, rfl⟩
  · have hd : sameB ss ts = false := by
      cases h : sameB ss ts
      · rfl
      · have := sameB_len h
        omega
    have HD := Lib.hid hd
    have d1 : ((n : Int) != (m : Int)) = true := by rw [bne_iff_ne]; omega
    have d2 : (n != m) = true := by rw [bne_iff_ne]; omega
    clear hd hn hm ha hb
    go_enter Try.func37, Try.ntmps37
    go_wp2_with fail
    go_ret
    exact ⟨retBool HD.out.symm, 0, rfl⟩
end Go.Proofs.Ytegekajbnecdfaa

/- Layer 2: the walks of Skip, Clone and NewReader. -/
import Derived.Test.YtegekajbnecdfaaLRead
import Derived.Test.YtegekajbnecdfaaAppN
namespace Go.Proofs.Ytegekajbnecdfaa
open Go.RowKit
/-- What Skip leaves. -/
def SkipLeft (t : Tok) (s : ByteArray) (w : World) (g : Nat) (A : Option Addr) (n cap a b : Nat) (e : Ending) (w' : World) : Prop := e = .returned (.bool (isS t s)) ∧ w.grownBy w' (some g) ∧ Rd w' g A n cap (if isS t s = true then b else a)
set_option maxHeartbeats 1000000 in
theorem Skip_any (g n cap a : Nat) (A : Option Addr) (ts : List Tok) (s : ByteArray) (w : World) (hn : ts.length = n) (hN : n ≤ 1000000) (ha : a ≤ n) (hr : Rd w g A n cap a) (ht : ToksAt w A ts) :
    Calls Try.prog 44 #[.pointer (some ⟨g, 0, none⟩), .string s] w (SkipLeft (peekS ts a) s w g A n cap a (min (a + 1) n)) := by
  have hgl := Blk.lt hr
  have C0 := Lib.hid (Is_of (.pointer (some ⟨g, 0, none⟩)) (peekS ts a) s w (fun w1 hb => Peek_any g n cap a A ts w1 hn hN ha (hr.below hb hgl) (ht.below hb)))
  have C1 := fun w1 h => Lib.hid (Take_any g n cap a A ts w1 hn hN ha (hr.below (B := w.heap.size) h hgl) (ht.below h))
  have HR := Lib.hid hr
  generalize peekS ts a = t at *
  unfold SkipLeft
  cases h : isS t s
  all_goals
    rw [h] at C0
    clear h hr ht hn
    go_enter Try.func44, Try.ntmps44
    go_wp2_with fail
    refine C0.out.mono ?_
    rintro e w1 ⟨rfl, hb⟩
    have HB := Lib.hid hb
    clear hb
    go_wp2_with fail
    first
      | (go_ret
         exact ⟨rfl, only_below HB.out, HR.out.below HB.out hgl⟩)
      | (refine (C1 _ HB.out).out.mono ?_
         rintro e w2 ⟨rfl, h1, h2⟩
         have H1 := Lib.hid h1
         have H2 := Lib.hid h2
         clear h1 h2
         go_wp2_with fail
         go_ret
         exact ⟨rfl, only_trans (only_below HB.out) H1.out, H2.out⟩)
theorem Skip_nil (s : ByteArray) (w : World) (hs : isS noneTok s = false) : Calls Try.prog 44 #[.pointer none, .string s] w fun e w' => e = .returned (.bool false) ∧ Below w.heap.size w w' := by
  have C0 := Lib.hid (Is_of (.pointer none) noneTok s w (fun w1 _ => Peek_nil w1))
  rw [hs] at C0
  go_enter Try.func44, Try.ntmps44
  go_wp2_with fail
  refine C0.out.mono ?_
  rintro e w1 ⟨rfl, hb⟩
  have HB := Lib.hid hb
  clear hb
  go_wp2_with fail
  go_ret
  exact ⟨rfl, HB.out⟩
theorem ToksAt.src {w : World} {A : Option Addr} {ts : List Tok} (h : ToksAt w A ts) (hA : A = none → ts.length = 0) : SrcAt w A ts.length 4 (ts.flatMap Tok.cells) := by
  refine ⟨flat_len ts, hA, fun ad had j u hu => ?_, fun u hu => ?_⟩
  · have hj : j < ts.length * 4 := by rw [← flat_len ts]; exact (List.getElem?_eq_some_iff.1 hu).1
    rcases h with rfl | ⟨b, off, rfl, _, hc⟩
    · simp at hj
    · injection had with had
      subst had
      have hi : j / 4 < ts.length := by omega
      have hj4 : j = j / 4 * 4 + j % 4 := by omega
      have e := flat_get ts (j / 4) ts[j / 4] (j % 4) (List.getElem?_eq_getElem hi) (by omega)
      rw [← hj4] at e
      rw [hu] at e
      obtain ⟨x0, x1, x2, x3⟩ := hc (j / 4) ts[j / 4] (List.getElem?_eq_getElem hi)
      have ha : (⟨b, off, none⟩ : Addr).add j = ⟨b, off + j / 4 * 4 + j % 4, none⟩ := by
        unfold Addr.add
        by_cases h0 : j = 0
        · subst h0; rfl
        · simp [h0]; omega
      rw [ha]
      have hm : j % 4 < 4 := Nat.mod_lt _ (by omega)
      match j % 4, hm, e with
      | 0, _, e => simp [Tok.cells] at e; rw [e]; exact x0
      | 1, _, e => simp [Tok.cells] at e; rw [e]; exact x1
      | 2, _, e => simp [Tok.cells] at e; rw [e]; exact x2
      | 3, _, e => simp [Tok.cells] at e; rw [e]; exact x3
  · obtain ⟨t, _, hu⟩ := List.mem_flatMap.1 hu
    simp [Tok.cells] at hu
    rcases hu with rfl | rfl | rfl | rfl <;> rfl
theorem OwnT.lit0 (w : World) {base : Nat} (hb : base ≤ w.heap.size) : OwnT (w.alloc (.cells #[] 67)) base (.slice (some ⟨w.heap.size, 0, none⟩) 0 0) [] := by
  have := World.ownsRow_lit (base := base) (e := 67) (size := 4) w #[] 0 hb (by unfold maxLen; omega) (by simp)
  simpa [OwnT] using this
/-- Tokens that lie in memory that the call made: from base on, and known. -/
def NewT (w w' : World) (v : Value) (ts : List Tok) : Prop := OwnT w' w.heap.size v ts ∧ Below w.heap.size w w'
set_option maxRecDepth 100000 in
set_option maxHeartbeats 1000000 in
theorem Clone_any (n cap : Nat) (A : Option Addr) (ts : List Tok) (w : World) (hn : ts.length = n) (hN : n ≤ 1000000) (hA : A = none → n = 0 ∧ cap = 0) (ht : ToksAt w A ts) :
    Calls Try.prog 65 #[.slice A n cap] w fun e w' => ∃ v, e = .returned v ∧ NewT w w' v ts := by
  obtain ⟨i0, hi, hz0, hz1, hz2⟩ := info_parts tok_info
  have q22 : ∀ (w : World) (a : Option Addr) (n c n' c' : Nat), (binOp .eql 59 (.slice a n c) (.slice none n' c')).run Try.prog w = .ok (.bool a.isNone) w := fun w a n c n' c' => Lib.run_eql_slice_nil w _ _ a n c n' c' Try.underlying59
  have HS := fun o => Lib.hid ((ht.below ((Below.refl w.heap.size w).alloc (Nat.le_refl _) o)).src (fun h => by rw [hn]; exact (hA h).1))
  rw [hn] at HS
  have HN := Lib.hid hn
  rcases A with _ | ad
  · obtain ⟨rfl, rfl⟩ := hA rfl
    obtain rfl : ts = [] := List.eq_nil_of_length_eq_zero hn
    clear HS hn hA ht
    go_enter Try.func65, Try.ntmps65
    go_wp2_with fail
    go_ret
    exact ⟨_, rfl, OwnT.nil _ _, Below.refl _ _⟩
  · clear hA hn ht
    go_enter Try.func65, Try.ntmps65
    go_wp2_with (at_builtin; refine wpList_append_srcN _ rfl _ _ 59 rfl w.heap.size 67 i0 _ 4 40 Try.underlying59 hi hz0 hz1 hz2 rfl (by decide) _ _ _ rfl (OwnT.lit0 w (Nat.le_refl _)) _ _ _ (ts.flatMap Tok.cells) rfl (HS _).out ?c3 ?c4 ?c5 ?_)
    case c3 => unfold maxLen; simp; omega
    case c4 => simp; omega
    case c5 => simp
    intro v' w' h1 h2
    have HB := Lib.hid (((Below.refl w.heap.size w).alloc (Nat.le_refl _) (.cells #[] 67)).grown h2 (by simp) (fun k hk => (World.ownsRow.lt (OwnT.lit0 w (Nat.le_refl _)) k hk).1))
    have HO := Lib.hid (show OwnT w' w.heap.size v' ts by
      unfold OwnT
      rw [HN.out]
      simpa using h1)
    clear h1 h2
    go_wp2_with fail
    go_ret
    exact ⟨_, rfl, HO.out, HB.out⟩
/-- A reader that the call made. -/
def NewRd (w w' : World) (ts : List Tok) (e : Ending) : Prop := ∃ g A n cap, e = .returned (.pointer (some ⟨g, 0, none⟩)) ∧ ts.length = n ∧ w.heap.size ≤ g ∧ Rd w' g A n cap 0 ∧ ToksAt w' A ts ∧ (∀ b off, A = some ⟨b, off, none⟩ → ts ≠ [] → w.heap.size ≤ b ∧ b < g) ∧ Below w.heap.size w w'
theorem OwnT.base {w : World} {base : Nat} {A : Option Addr} {n cap : Nat} {ts : List Tok} (h : OwnT w base (.slice A n cap) ts) : ∀ b off, A = some ⟨b, off, none⟩ → base ≤ b ∧ b < w.heap.size := by
  rintro b off rfl
  exact World.ownsRow.lt h b rfl
set_option maxHeartbeats 1000000 in
theorem NewReader_any (n cap : Nat) (A : Option Addr) (ts : List Tok) (w : World) (hn : ts.length = n) (hN : n ≤ 1000000) (hA : A = none → n = 0 ∧ cap = 0) (ht : ToksAt w A ts) :
    Calls Try.prog 40 #[.slice A n cap] w fun e w' => NewRd w w' ts e := by
  have C0 := Lib.hid (Clone_any n cap A ts w hn hN hA ht)
  have HN := Lib.hid hn
  clear hn ht hA
  go_enter Try.func40, Try.ntmps40
  go_wp2_with fail
  refine C0.out.mono ?_
  rintro e w1 ⟨v, rfl, ho, hb⟩
  obtain ⟨A', cap', rfl, ht'⟩ := ho.toks
  have HO := Lib.hid ho
  have HT := Lib.hid ht'
  have HB := Lib.hid hb
  clear ho ht' hb
  rw [HN.out]
  go_wp2_with fail
  go_ret
  exact ⟨w1.heap.size, A', n, cap', rfl, HN.out, HB.out.size, Blk.new _ _ _, HT.out.below ((Below.refl _ _).alloc (Nat.le_refl _) _), fun b off h _ => HO.out.base b off h, HB.out.alloc HB.out.size _⟩
end Go.Proofs.Ytegekajbnecdfaa

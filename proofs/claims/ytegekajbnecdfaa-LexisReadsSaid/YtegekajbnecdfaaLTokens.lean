/- Layer 2: the walk of Tokens. -/
import Derived.Test.YtegekajbnecdfaaLTok4
namespace Go.Proofs.Ytegekajbnecdfaa
open Go.RowKit
theorem tok_info : (Try.prog.info? 67).map (fun i => (i.zero, i.size, i.bytes)) = some (some (.agg #[.int .u8 0, .string ⟨#[]⟩, .int .i64 0, .int .i64 0]), 4, 40) := by kernel_rfl
/-- What Tokens tells, of bytes that are not too many. -/
def TksTold (k : IntKind) (l : List Int) (w : World) (e : Ending) (w' : World) : Prop :=
  ∃ v, e = .returned (.tuple #[v, .int .i64 (scanS l 0 false []).2.1, .int k (scanS l 0 false []).2.2]) ∧ OwnT w' w.heap.size v (scanS l 0 false []).1 ∧ Below w.heap.size w w'
theorem tks_of {k : IntKind} {l : List Int} {w w' : World} {e : Ending} {v : Value} {ts : List Tok} {p c : Int} (h : scanS l 0 false [] = (ts, p, c)) (he : e = .returned (.tuple #[v, .int .i64 p, .int k c])) (ho : OwnT w' w.heap.size v ts) (hb : Below w.heap.size w w') : TksTold k l w e w' := by
  unfold TksTold
  rw [h]
  exact ⟨v, he, ho, hb⟩
set_option maxRecDepth 100000 in
set_option maxHeartbeats 4000000 in
theorem Tokens_any (A : Option Addr) (len cap : Nat) (l : List Int) (w : World) (hl : l.length = len) (hcap : len ≤ cap) (hm : cap ≤ 9223372036854775807) (hb : Byt l) (hs : SliceAt w .u8 A l) (hmax : len ≤ 65536) :
    Calls Try.prog 35 #[.slice A len cap] w (TksTold .u8 l w) := by
  have hne : ∀ b off, A = some ⟨b, off, none⟩ → l ≠ [] → b ≠ w.heap.size := by
    rintro b off rfl hn
    rcases hs with h | ⟨b', off', h, hlt, _⟩
    · exact absurd h hn
    · injection h with h
      injection h with h
      omega
  have h6' : (len : Int) ≤ 65536 := by omega
  have h6'' : ¬ (65536 : Int) < (len : Int) := by omega
  obtain ⟨i0, hi, hz0, hz1, hz2⟩ := info_parts tok_info
  have HL := Lib.hid hl
  have HB := Lib.hid hb
  have HS := Lib.hid hs
  have HNE := Lib.hid hne
  clear hl hb hs hne
  go_enter Try.func35, Try.ntmps35
  go_wp2_with fail
  have CB := fun a wr hs hg ha => Lib.hid (blanks_any w.heap.size len cap a A l wr HL.out hcap hm HB.out hs HNE.out hg ha)
  have CT := fun a wr hs hg ha h1 h2 => Lib.hid (token_any w.heap.size len cap a A l wr HL.out hcap hm HB.out hs HNE.out hg ha h1 h2)
  go_loopg [6] len (fun n v wr => ∃ (k : Nat) (ts : List Tok), n = len - k ∧ k ≤ len ∧ ts.length ≤ k ∧ scanS l 0 false [] = scanS l k false ts ∧ Below w.heap.size w wr ∧ w.heap.size + 1 ≤ wr.heap.size ∧ Scn wr w.heap.size A len cap k ∧ OwnT wr (w.heap.size + 1) v ts)
  case atStart => exact ⟨0, [], by omega, Nat.zero_le _, Nat.le_refl _, rfl, (Below.refl _ _).alloc (Nat.le_refl _) _, by simp, Blk.new _ _ _, OwnT.nil _ _⟩
  case round =>
    obtain ⟨k, ts, rfl, hk, htl, hE, hbel, hsz, hg, ho⟩ := hrel
    have HE := Lib.hid hE
    have HW := Lib.hid hbel
    have HO := Lib.hid ho
    have CBB := CB k wr (HS.out.below_all hbel) hg hk
    clear hE hbel hg ho CB
    go_wp2_with fail
    refine CBB.out.mono ?_
    rintro e w1 ⟨a', ok, rfl, h1, h2, h3, h4, h5, h6, h7⟩
    have hb1 : Below w.heap.size w w1 := HW.out.grown h5 (by omega) (fun k hk => by injection hk with hk; omega)
    have ho1 : OwnT w1 (w.heap.size + 1) u6 ts := HO.out.kept h5 (by
      right
      intro h
      have := World.ownsRow.lt HO.out _ h
      omega)
    have HB1 := Lib.hid hb1
    have HO1 := Lib.hid ho1
    have H3 := Lib.hid h3
    have H4 := Lib.hid h4
    have H7 := Lib.hid h7
    have hsz1 : w.heap.size + 1 ≤ w1.heap.size := by omega
    obtain ⟨kc0, kc1, kf⟩ := h7.cells
    clear h3 h4 h5 h6 h7 CBB hb1 ho1 HO
    cases ok
    · go_wp2_with fail
      go_quiet (fail)
      go_wp2_with fail
      refine bodyPost_ret (v := .tuple #[.slice none 0 0, .int .i64 (a' : Int), .int .u8 3]) (by simp [results, Try.results35, go_sem]) rfl ?_
      exact tks_of (HE.out.trans (H4.out (by trivial) ts)) rfl (OwnT.nil _ _) (below_drewN HB1.out _)
    · by_cases hend : a' = len
      · have e1 : ((a' : Int) == (len : Int)) = true := by rw [hend]; exact beq_self_eq_true _
        have e2 : ((a' == len) = true) := by rw [hend]; exact beq_self_eq_true _
        have hsc : scanS l 0 false [] = (ts ++ [⟨4, ⟨#[]⟩, 0, a'⟩], 0, 0) := by
          rw [HE.out, (H3.out (by trivial)).2 ts, scan_end (by rw [HL.out]; omega), HL.out, hend]
        have HSC := Lib.hid hsc
        have HEND := Lib.hid hend
        clear hsc hend CT
        go_wp2_with (at_builtin; refine wpList_append_own _ rfl _ _ 59 rfl (w.heap.size + 1) 67 i0 _ 4 40 Try.underlying59 hi hz0 hz1 hz2 rfl (by decide) _ _ _ rfl (OwnT.alloc HO1.out _) ⟨w1.heap.size, 0, none⟩ 1 1 (Tok.cells ⟨4, ⟨#[]⟩, 0, a'⟩) rfl rfl ?c1 ?c2 ?c3 ?c4 ?c5 ?_)
        case c1 =>
          intro j u hj
          match j, hj with
          | 0, hj => simp [Tok.cells] at hj; subst hj; simp [Addr.add]
          | 1, hj => simp [Tok.cells] at hj; subst hj; simp [Addr.add]
          | 2, hj => simp [Tok.cells] at hj; subst hj; simp [Addr.add]
          | 3, hj => simp [Tok.cells] at hj; subst hj; simp [Addr.add]
        case c2 => intro u hu; simp [Tok.cells] at hu; rcases hu with rfl | rfl | rfl | rfl <;> rfl
        case c3 => unfold maxLen; omega
        case c4 => omega
        case c5 => first | omega | (simp; omega)
        intro v' w2 hown' hgrow _
        have ho2 := Lib.hid ((OwnT.one hown').mono (Nat.le_succ _))
        have hb2 := Lib.hid ((HB1.out.alloc (by omega) _).grown hgrow (by first | omega | (simp; omega)) (fun k hk => Nat.le_trans (Nat.le_succ _) (World.ownsRow.lt HO1.out k hk).1))
        clear hown' hgrow
        go_wp2_with fail
        refine bodyPost_ret (v := .tuple #[_, .int .i64 0, .int .u8 0]) (by simp [results, Try.results35, go_sem]; rfl) rfl ?_
        exact tks_of HSC.out rfl ho2.out hb2.out
      · have e1 : ((a' : Int) == (len : Int)) = false := by rw [beq_eq_false_iff_ne]; omega
        have e2 : ((a' == len) = false) := by rw [beq_eq_false_iff_ne]; omega
        have hx := (H3.out (by trivial)).1 (by omega)
        have CTT := CT a' w1 (HS.out.below_all HB1.out) H7.out (by omega) hx.1 hx.2
        clear CT hx
        have HLT := Lib.hid (show a' < len by omega)
        go_wp2_with fail
        refine CTT.out.mono ?_
        rintro e w2 ⟨⟨kd, tx, n, at_⟩, c, a2, rfl, q1, q2, q3, q4, q5⟩
        simp only [Tok.val]
        have hb2 : Below w.heap.size w w2 := HB1.out.grown q4 (by omega) (fun k hk => by injection hk with hk; omega)
        have ho2 : OwnT w2 (w.heap.size + 1) u6 ts := HO1.out.kept q4 (by
          right
          intro h
          have := World.ownsRow.lt HO1.out _ h
          omega)
        have hsz2 : w.heap.size + 1 ≤ w2.heap.size := Nat.le_trans hsz1 q4.size
        have HB2 := Lib.hid hb2
        have HO2 := Lib.hid ho2
        have Q2 := Lib.hid q2
        have Q3 := Lib.hid q3
        have Q5 := Lib.hid (q5.alloc (.cells #[.int .u8 kd, .string tx, .int .i64 n, .int .i64 at_] 67))
        obtain ⟨kd0, kd1, _⟩ := q5.cells
        have hgl : w.heap.size < w2.heap.size := by omega
        clear q2 q3 q4 q5 hb2 ho2 kc0 kc1 kf
        by_cases hc : c = 0
        · subst hc
          have Q2' := Lib.hid (Q2.out rfl)
          go_wp2_with (at_builtin; refine wpList_append_own _ rfl _ _ 59 rfl (w.heap.size + 1) 67 i0 _ 4 40 Try.underlying59 hi hz0 hz1 hz2 rfl (by decide) _ _ _ rfl (OwnT.alloc (OwnT.alloc HO2.out _) _) ⟨w2.heap.size + 1, 0, none⟩ 1 1 (Tok.cells ⟨kd, tx, n, at_⟩) rfl rfl ?c1 ?c2 ?c3 ?c4 ?c5 ?_)
          case c1 =>
            intro j u hj
            match j, hj with
            | 0, hj => simp [Tok.cells] at hj; subst hj; simp
            | 1, hj => simp [Tok.cells] at hj; subst hj; simp
            | 2, hj => simp [Tok.cells] at hj; subst hj; simp
            | 3, hj => simp [Tok.cells] at hj; subst hj; simp
          case c2 => intro u hu; simp [Tok.cells] at hu; rcases hu with rfl | rfl | rfl | rfl <;> rfl
          case c3 => unfold maxLen; omega
          case c4 => omega
          case c5 => first | omega | (simp; omega)
          intro v' w3 hown' hgrow _
          have ho3 := Lib.hid (OwnT.one hown')
          have hb3 := Lib.hid (((HB2.out.alloc (by omega) _).alloc (by first | omega | (simp; omega)) _).grown hgrow (by first | omega | (simp; omega)) (fun k hk => Nat.le_trans (Nat.le_succ _) (World.ownsRow.lt HO2.out k hk).1))
          have hs3 := Lib.hid (show w.heap.size + 1 ≤ w3.heap.size by have := hgrow.size; (try simp at this); omega)
          have hq3 : Scn w3 w.heap.size A len cap a2 := Blk.grown (Blk.alloc Q5.out _) hgrow (by
            intro h
            have := World.ownsRow.lt HO2.out _ h.symm
            omega)
          have HQ3 := Lib.hid hq3
          clear hown' hgrow hq3
          go_wp2_with fail
          go_roundg (len - a2)
          case measure => have := HLT.out; have := Q2'.out.1; omega
          case rel => exact ⟨a2, ts ++ [⟨kd, tx, n, at_⟩], rfl, q1, by (have := Q2'.out.1; simp; omega), by rw [HE.out, (H3.out (by trivial)).2 ts, Q2'.out.2 ts], hb3.out, hs3.out, HQ3.out, ho3.out⟩
        · have g0 : (c != 0) = true := bne_iff_ne.2 hc
          have Q3' := Lib.hid (Q3.out hc)
          go_wp2_with fail
          go_quiet (fail)
          go_wp2_with fail
          refine bodyPost_ret (v := .tuple #[.slice none 0 0, .int .i64 (a2 : Int), .int .u8 c]) (by simp [results, Try.results35, go_sem]) rfl ?_
          exact tks_of (HE.out.trans (((H3.out (by trivial)).2 ts).trans (Q3'.out ts))) rfl (OwnT.nil _ _) (below_drewN (HB2.out.alloc (by omega) _) _)
end Go.Proofs.Ytegekajbnecdfaa

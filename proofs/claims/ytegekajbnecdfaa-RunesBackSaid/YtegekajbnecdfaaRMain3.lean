/- Layer 1: the walk of the law RunesPut. -/
import Derived.Test.YtegekajbnecdfaaRPut
import Derived.Test.YtegekajbnecdfaaRBackLaw
namespace Go.Proofs.Ytegekajbnecdfaa
open Go.RowKit
theorem NextT_put {l : List Int} {r : Int} (_hb : Byt l) (h : isB r = true) : NextT (l ++ bytesS r) l.length = .tuple #[.int .i32 r, .int .i64 ((bytesS r).length : Nat), .int .u8 0] := by
  have hn := next_bytes h (rest := []) (by intro x hx; simp at hx)
  rw [List.append_nil] at hn
  have hl := bytes_len r
  unfold NextT
  rw [if_neg (by simp; omega), Int.toNat_natCast, List.drop_left, hn]
  simp only
  rw [if_neg (by omega)]
set_option maxRecDepth 100000 in
set_option maxHeartbeats 4000000 in
theorem runesPut_walk (A : Option Addr) (len cap : Nat) (l : List Int) (r : Int) (w : World) (hl : l.length = len) (hb : Byt l) (hs : SliceAt w .u8 A l) (hr : (Lit.int .i32 r).wf = true) :
    Calls Try.prog 9 #[.slice A len cap, .int .i32 r] w fun e w' => e = .returned (.bool true) ∧ Below w.heap.size w w' := by
  have AL := fun w => Lib.hid (alive01 w)
  obtain ⟨i0, hi, hz0, hz1, hz2⟩ := info_parts u8_info

  by_cases h5 : 5000 < len
  · clear hs hl
    go_enter Try.func9, Try.ntmps9
    go_wp2_with fail
    refine (AL _).out.mono ?_
    rintro e w' ⟨rfl, rfl⟩
    go_wp2_with fail
    go_ret
    exact ⟨rfl, (Below.refl _ _).alloc (Nat.le_refl _) _⟩
  have hr2 : -2147483648 ≤ r ∧ r ≤ 2147483647 := by
    simp only [Lit.wf, IntKind.min, IntKind.max, IntKind.signed, IntKind.bits, Bool.and_eq_true, decide_eq_true_eq, if_true] at hr
    omega
  have HI := fun w => Lib.hid (Is_any r w)
  have HS := Lib.hid hs
  have HL := Lib.hid hl
  have HB := Lib.hid hb
  clear hr
  cases hB : isB r
  · rw [hB] at HI
    have C := fun w => Lib.hid (Put_no A len cap r w hB)
    clear hB hs hl hb
    go_enter Try.func9, Try.ntmps9
    go_wp2_with fail
    refine (AL _).out.mono ?_
    rintro e w' ⟨rfl, rfl⟩
    go_wp2_with fail
    refine (C _).out.mono ?_
    rintro e w' ⟨rfl, rfl⟩
    go_wp2_with fail
    refine (HI _).out.mono ?_
    rintro e w' ⟨rfl, rfl⟩
    go_wp2_with fail
    go_ret
    exact ⟨rfl, (Below.refl _ _).alloc (Nat.le_refl _) _⟩
  · rw [hB] at HI
    have C := fun w hs => Lib.hid (Put_any A len cap l r w hl (by omega) hs hB)
    have CB := fun w => Lib.hid (Bytes_any r w hB)
    have hN := NextT_put hb hB
    have hbl := bytes_len r
    have HNT := Lib.hid hN
    have HByt := Lib.hid (byt_append hb (byt_bytes hB))
    have e1 : (l ++ bytesS r).length = len + (bytesS r).length := by rw [List.length_append, hl]
    have HE1 := Lib.hid e1
    clear hB hs hl hb hN e1
    go_enter Try.func9, Try.ntmps9
    go_wp2_with fail
    refine (AL _).out.mono ?_
    rintro e w' ⟨rfl, rfl⟩
    have H0 : Below w.heap.size w (w.alloc (.cells #[.int .u8 226, .int .u8 130, .int .u8 172] 5)) := (Below.refl _ _).alloc (Nat.le_refl _) _
    generalize w.alloc (.cells #[.int .u8 226, .int .u8 130, .int .u8 172] 5) = w0 at *
    go_wp2_with fail
    refine (C _ (HS.out.below_all H0)).out.mono ?_
    rintro e w1 ⟨v, rfl, hown, hb1⟩
    have H1 := H0.trans (hb1.mono H0.size)
    obtain ⟨A1, cap1, rfl, hc1, hm1, hs1⟩ := hown.slice
    rw [HE1.out] at hc1
    rw [HE1.out]
    obtain ⟨b1, o1, rfl, hlt1, hcl1⟩ := hs1.cells (by rw [HE1.out]; omega)
    have HC1 := Lib.hid hcl1
    clear hs1 hcl1 hown hb1
    go_wp2_with fail
    refine (HI _).out.mono ?_
    rintro e w' ⟨rfl, rfl⟩
    have hsA := (HS.out.below_all H1).alloc (.cells #[] 5)
    have hwn := Own.lit (base := w1.heap.size) w1 5 .u8 [] (Nat.le_refl _) (by unfold maxLen; simp)
    go_wp2_with (at_builtin; refine wpList_append_src _ rfl _ _ 22 rfl w1.heap.size 5 i0 (.int .u8 0) 1 Try.underlying22 hi hz0 hz1 hz2 rfl _ _ _ rfl hwn _ _ _ .u8 l rfl HL.out hsA ?c3 ?c4 ?c5 ?_)
    case c3 => unfold maxLen; simp; omega
    case c4 => simp; omega
    case c5 => simp
    intro v2 w2 hown' hgrow
    have ho2 : Own w2 w1.heap.size 5 .u8 v2 l := by unfold Own; rw [HL.out]; simpa using hown'
    have hb2 : Below w1.heap.size w1 w2 := ((Below.refl _ _).alloc (Nat.le_refl _) _).grown hgrow (by simp) (fun k hk => (World.ownsRow.lt hwn k hk).1)
    clear hown' hgrow hwn hsA
    go_wp2_with fail
    refine (CB _).out.mono ?_
    rintro e w' ⟨rfl, rfl⟩
    have ho3 : Own (w2.alloc (.cells ((bytesS r).map (Value.int .u8)).toArray 5)) w1.heap.size 5 .u8 v2 l := ho2.alloc _
    have hs3 : SliceAt (w2.alloc (.cells ((bytesS r).map (Value.int .u8)).toArray 5)) .u8 (some ⟨w2.heap.size, 0, none⟩) (bytesS r) := .inr ⟨_, _, rfl, by simp, cells_new _ _ _ _⟩
    have hb3 : Below w1.heap.size w1 (w2.alloc (.cells ((bytesS r).map (Value.int .u8)).toArray 5)) := hb2.alloc hb2.size _
    have hbyl : (bytesS r).length = (bytesS r).length := rfl
    clear ho2 hb2
    generalize (w2.alloc (.cells ((bytesS r).map (Value.int .u8)).toArray 5)) = w3 at *
    unfold Own at ho3
    go_wp2_with (at_builtin; refine wpList_append_src _ rfl _ _ 22 rfl w1.heap.size 5 i0 (.int .u8 0) 1 Try.underlying22 hi hz0 hz1 hz2 rfl _ _ _ rfl ho3 _ _ _ .u8 (bytesS r) rfl rfl hs3 ?e3 ?e4 ?e5 ?_)
    case e3 => unfold maxLen; rw [HL.out]; omega
    case e4 => rw [HL.out]; omega
    case e5 => exact hb3.size
    intro v4 w4 hown' hgrow
    have ho4 : Own w4 w1.heap.size 5 .u8 v4 (l ++ bytesS r) := Own.app rfl hown'
    have hb4 : Below w1.heap.size w1 w4 := hb3.grown hgrow hb3.size (fun k hk => (World.ownsRow.lt ho3 k hk).1)
    obtain ⟨A4, cap4, rfl, hc4, hm4, hs4⟩ := ho4.slice
    rw [HE1.out]
    rw [HE1.out] at hc4
    obtain ⟨b4, o4, rfl, hlt4, hcl4⟩ := hs4.cells (by rw [HE1.out]; omega)
    have HC4 := Lib.hid hcl4
    have HC5 := Lib.hid (CellsAt.below HC1.out hb4 hlt1)
    have H4 := H1.trans (hb4.mono H1.size)
    unfold maxLen at hm1
    have hN := fun w hc => Lib.hid (Next_in b1 o1 (len + (bytesS r).length) cap1 len (l ++ bytesS r) w HE1.out (by omega) hc1 (by omega) HByt.out hc)
    have e2 : NextT (l ++ bytesS r) (len : Int) = .tuple #[.int .i32 r, .int .i64 ((bytesS r).length : Nat), .int .u8 0] := by have := HNT.out; rwa [HL.out] at this
    rw [e2] at hN
    have HN := fun w hc => Lib.hid (hN w hc)
    have HSm := fun w hc1 hc2 => Lib.hid (Same_any b1 o1 b4 o4 (len + (bytesS r).length) (len + (bytesS r).length) cap1 cap4 (l ++ bytesS r) (l ++ bytesS r) w HE1.out HE1.out (by omega) hc1 hc2)
    simp only [beq_self_eq_true] at HSm
    clear hown' hgrow ho3 ho4 hs3 hs4 hcl4 hb3 hb4 hN e2 hbyl
    generalize (bytesS r).length = nb at *
    generalize l ++ bytesS r = lb at *
    go_wp2_with fail
    refine (HSm _ HC5.out HC4.out).out.mono ?_
    rintro e w' ⟨rfl, d, rfl⟩
    go_wp2_with fail
    refine (HN _ (HC5.out.drewN d)).out.out.mono ?_
    rintro e w' ⟨rfl, rfl⟩
    have x : IntKind.i64.wrap ((len : Int) + (nb : Int) - (len : Int)) = (nb : Int) := by rw [IntKind.wrap_i64]; omega
    go_wp2_with fail
    go_ret
    exact ⟨retBool (by simp <;> omega), below_drewN H4 d⟩
end Go.Proofs.Ytegekajbnecdfaa

/- Layer 1: the walks of slices.Clone and Put. -/
import Derived.Test.YtegekajbnecdfaaRMain2
import Derived.Deep.RegionHeld3
namespace Go.Proofs.Ytegekajbnecdfaa
open Go.RowKit
theorem u8_info : (Try.prog.info? 5).map (fun i => (i.zero, i.size, i.bytes)) = some (some (.int .u8 0), 1, 1) := by kernel_rfl
set_option maxRecDepth 100000 in
set_option maxHeartbeats 1000000 in
theorem Clone_any (A : Option Addr) (len cap : Nat) (l : List Int) (w : World) (hl : l.length = len) (hlm : len ≤ 1099511627776) (hs : SliceAt w .u8 A l) :
    Calls Try.prog 54 #[.slice A len cap] w fun e w' => ∃ v, e = .returned v ∧ Own w' w.heap.size 5 .u8 v l ∧ Below w.heap.size w w' := by
  obtain ⟨i0, hi, hz0, hz1, hz2⟩ := info_parts u8_info
  have q22 : ∀ (w : World) (a : Option Addr) (n c n' c' : Nat), (binOp .eql 22 (.slice a n c) (.slice none n' c')).run Try.prog w = .ok (.bool a.isNone) w := fun w a n c n' c' => Lib.run_eql_slice_nil w _ _ a n c n' c' Try.underlying22
  have HS := Lib.hid hs
  have HL := Lib.hid hl
  clear hs hl
  cases A with
  | none =>
    have e : l = [] := by
      rcases HS.out with h | ⟨_, _, h, _⟩
      · exact h
      · cases h
    subst e
    go_enter Try.func54, Try.ntmps54
    go_wp2_with fail
    go_ret
    exact ⟨_, rfl, Own.nil _ _ _ _, Below.refl _ _⟩
  | some ad =>
    have hown : Own (w.alloc (.cells #[] 5)) w.heap.size 5 .u8 (.slice (some ⟨w.heap.size, 0, none⟩) 0 0) [] := Own.lit w 5 .u8 [] (Nat.le_refl _) (by unfold maxLen; simp)
    have hs1 := HS.out.alloc (.cells #[] 5)
    unfold Own at hown
    go_enter Try.func54, Try.ntmps54
    go_wp2_with (at_builtin; refine wpList_append_src _ rfl _ _ 22 rfl w.heap.size 5 i0 (.int .u8 0) 1 Try.underlying22 hi hz0 hz1 hz2 rfl _ _ _ rfl hown _ _ _ .u8 l rfl HL.out hs1 ?c3 ?c4 ?c5 ?_)
    case c3 => unfold maxLen; simp; omega
    case c4 => simp; omega
    case c5 => simp
    intro v' w2 hown' hgrow
    have hown2 : Own w2 w.heap.size 5 .u8 v' l := by unfold Own; rw [HL.out]; exact hown'
    have hbel : Below w.heap.size w w2 := ((Below.refl _ _).alloc (Nat.le_refl _) _).grown hgrow (by simp) (fun k hk => (World.ownsRow.lt hown k hk).1)
    have HO2 := Lib.hid hown2
    have HB2 := Lib.hid hbel
    clear hown hown' hgrow hown2 hbel hs1
    go_wp2_with fail
    go_ret
    exact ⟨v', rfl, HO2.out, HB2.out⟩
theorem Put_no (A : Option Addr) (len cap : Nat) (r : Int) (w : World) (h : isB r = false) :
    Calls Try.prog 30 #[.slice A len cap, .int .i32 r] w fun e w' => e = .returned (.tuple #[.slice none 0 0, .bool false]) ∧ w = w' := by
  have H := fun w => Lib.hid (is_any r w)
  rw [h] at H
  clear h
  go_enter Try.func30, Try.ntmps30
  go_wp2_with fail
  refine (H _).out.mono ?_
  rintro e w' ⟨rfl, rfl⟩
  go_wp2_with fail
  go_ret2
  exact ⟨rfl, rfl⟩
/-- What Put leaves. -/
def PutLeft (w : World) (l : List Int) (e : Ending) (w' : World) : Prop := ∃ v, e = .returned (.tuple #[v, .bool true]) ∧ Own w' w.heap.size 5 .u8 v l ∧ Below w.heap.size w w'
set_option maxRecDepth 100000 in
set_option maxHeartbeats 2000000 in
theorem Put_1 (A : Option Addr) (len cap : Nat) (l : List Int) (r : Int) (w : World) (hl : l.length = len) (hlm : len ≤ 1000000000) (hs : SliceAt w .u8 A l) (h0 : 0 ≤ r) (h1 : r < 128) :
    Calls Try.prog 30 #[.slice A len cap, .int .i32 r] w (PutLeft w (l ++ bytesS r)) := by
  obtain ⟨i0, hi, hz0, hz1, hz2⟩ := info_parts u8_info
  have HI := fun w => Lib.hid (is_any r w)
  rw [(isB_iff r).2 (by omega)] at HI
  have HZ := fun w => Lib.hid (size_any r w)
  rw [size_of.1.2 h1] at HZ
  have HC := Lib.hid (Clone_any A len cap l w hl (by omega) hs)
  rw [bytes1 h1]
  clear hs
  have hl' := Nat.le_of_eq hl
  clear hl
  go_enter Try.func30, Try.ntmps30
  go_wp2_with fail
  refine (HI _).out.mono ?_
  rintro e w' ⟨rfl, rfl⟩
  go_wp2_with fail
  refine HC.out.mono ?_
  rintro e w1 ⟨v, rfl, hown, hbel⟩
  unfold Own at hown
  go_wp2_with fail
  refine (HZ _).out.mono ?_
  rintro e w' ⟨rfl, rfl⟩
  go_wp2_with (at_builtin; refine wpList_append_own _ rfl _ _ 22 rfl w.heap.size 5 i0 (.int .u8 0) 1 1 Try.underlying22 hi hz0 hz1 hz2 rfl (by decide) _ _ _ rfl (hown.alloc _) ⟨w1.heap.size, 0, none⟩ 1 1 [.int .u8 r] rfl rfl ?c1 ?c2 ?c3 ?c4 ?c5 ?_)
  case c1 =>
    intro j u hj
    match j, hj with
    | 0, hj => simp at hj; subst hj; simp [Addr.add]
  case c2 => intro u hu; simp at hu; subst hu; rfl
  case c3 => unfold maxLen; omega
  case c4 => omega
  case c5 => have := hbel.size; simp; omega
  intro v' w2 hown' hgrow _
  have hown2 : Own w2 w.heap.size 5 .u8 v' (l ++ [r]) := Own.one hown'
  have hbel2 : Below w.heap.size w w2 := (hbel.alloc hbel.size _).grown hgrow (by have := hbel.size; simp; omega) (fun k hk => (hown.lt k hk).1)
  have HO2 := Lib.hid hown2
  have HB2 := Lib.hid hbel2
  clear hown hown' hgrow hown2 hbel2 hbel HC
  go_wp2_with fail
  go_ret2
  exact ⟨v', rfl, HO2.out, HB2.out⟩
theorem and63w (q : Int) : bits .and .u8 (IntKind.u8.wrap q) 63 = q % 64 := by
  have h1 : 0 ≤ IntKind.u8.wrap q ∧ IntKind.u8.wrap q ≤ 255 := by rw [IntKind.wrap_u8]; omega
  rw [and63 h1.1 h1.2, IntKind.wrap_u8]; omega
set_option maxRecDepth 100000 in
set_option maxHeartbeats 2000000 in
theorem Put_2 (A : Option Addr) (len cap : Nat) (l : List Int) (r : Int) (w : World) (hl : l.length = len) (hlm : len ≤ 1000000000) (hs : SliceAt w .u8 A l) (h0 : 128 ≤ r) (h1 : r < 2048) :
    Calls Try.prog 30 #[.slice A len cap, .int .i32 r] w (PutLeft w (l ++ bytesS r)) := by
  obtain ⟨i0, hi, hz0, hz1, hz2⟩ := info_parts u8_info
  have HI := fun w => Lib.hid (is_any r w)
  rw [(isB_iff r).2 (by omega)] at HI
  have HZ := fun w => Lib.hid (size_any r w)
  rw [size_of.2.1.2 (by omega)] at HZ
  have HC := Lib.hid (Clone_any A len cap l w hl (by omega) hs)
  rw [bytes2 (by omega) h1]
  clear hs
  have hl' := Nat.le_of_eq hl
  clear hl
  go_enter Try.func30, Try.ntmps30
  go_wp2_with fail
  refine (HI _).out.mono ?_
  rintro e w' ⟨rfl, rfl⟩
  go_wp2_with fail
  refine HC.out.mono ?_
  rintro e w1 ⟨v, rfl, hown, hbel⟩
  unfold Own at hown
  go_wp2_with fail
  refine (HZ _).out.mono ?_
  rintro e w' ⟨rfl, rfl⟩
  have x1 : IntKind.i64.wrap 6 = 6 := rfl
  have x2 : IntKind.i64.wrap 1 = 1 := rfl
  have x2' : IntKind.i64.wrap 6 = 6 := rfl
  have x3 : IntKind.u8.wrap 16320 = 192 := rfl
  have x4 : IntKind.u8.wrap (r / 64) = r / 64 := by rw [IntKind.wrap_u8]; omega
  have x5 : bits .or .u8 192 (r / 64) = 192 + r / 64 := bits_join .u8 8 (by decide) wraps_u8 5 192 (r / 64) (by omega) (by omega) (by omega) (by omega) (by omega) (by omega)
  go_wp2_with fail
  go_region_held3 (fun w' => Below w.heap.size w w') (first | exact hbel2 | (with_reducible repeat (first | exact hbel | apply Below.drew | (refine Below.alloc ?_ (by have := hbel.size; simp <;> omega) _))))
    ((refine step_append_lies _ (by rfl) _ _ _ (by rfl) w.heap.size 5 i0 _ 1 1 Try.underlying22 hi hz0 hz1 hz2 rfl (by omega) v l.length (l.map (Value.int .u8)) (by rfl) ((World.ownsRow.alloc hown _).drew) ⟨w1.heap.size, 0, none⟩ 1 1 [.int .u8 (192 + r / 64)] (by rfl) (by rfl) (World.news_of_block (cs := #[.int .u8 (192 + r / 64)]) (t := 5) (fr := (0, 0)) (heap_alloc_new w1 _)) (by simp [Value.oneCell']) (by omega) (by unfold maxLen; omega) (by omega) (by have := hbel.size; simp; omega) (w1.heap.size + 1) (by simp) ?_; intro gg cap2 w2 hown2 hgrow hat hlt; have hbel2 : Below w.heap.size w w2 := Below.grown (Below.drew (hbel.alloc hbel.size _)) hgrow (by have := hbel.size; simp; omega) (fun k hk => (World.ownsRow.lt hown k hk).1)))
  have ho2 : Own w2 w.heap.size 5 .u8 (.slice (some ⟨gg, 0, none⟩) (l.length + 1) cap2) (l ++ [192 + r / 64]) := Own.one hown2
  have HO2 := Lib.hid ho2
  have HB2 := Lib.hid hbel2
  clear ho2 hown2 hown hgrow hat hbel2 hbel HC x1 x2 x2' x3 x4 x5 HI HZ
  have y0 : bits .and .u8 (IntKind.u8.wrap (r)) 63 = r % 64 := and63w _
  have z0 : bits .or .u8 128 (r % 64) = 128 + r % 64 := bits_join .u8 8 (by decide) wraps_u8 6 128 _ (by omega) (by omega) (by omega) (by omega) (by omega) (by omega)
  go_wp2_with fail
  refine wp_loop_rounds 2 ?_
  have hown0 := HO2.out
  have hbel0 := HB2.out
  unfold Own at hown0
  rw [rounds_succ]
  go_wp2_with (at_builtin; refine wpList_append_own _ rfl _ _ 22 rfl w.heap.size 5 i0 (.int .u8 0) 1 1 Try.underlying22 hi hz0 hz1 hz2 rfl (by decide) _ _ _ rfl (World.ownsRow.alloc hown0 _) ⟨w2.heap.size, 0, none⟩ 1 1 [.int .u8 (128 + r % 64)] rfl rfl ?d01 ?d02 ?d03 ?d04 ?d05 ?_)
  case d01 =>
    intro j u hj
    match j, hj with
    | 0, hj => simp at hj; subst hj; simp [Addr.add]
  case d02 => intro u hu; simp at hu; subst hu; rfl
  case d03 => unfold maxLen; simp; omega
  case d04 => simp; omega
  case d05 => have := hbel0.size; simp; omega
  intro v3 w3 hown' hgrow' _
  have ho : Own w3 w.heap.size 5 .u8 v3 ((l ++ [192 + r / 64]) ++ [128 + r % 64]) := by
    unfold Own
    simpa using hown'
  have hb : Below w.heap.size w w3 := (hbel0.alloc hbel0.size _).grown hgrow' (by have := hbel0.size; simp; omega) (fun k hk => (World.ownsRow.lt hown0 k hk).1)
  have HO3 := Lib.hid ho
  have HB3 := Lib.hid hb
  clear hown0 hown' hgrow' ho hb hbel0
  go_wp2_with fail
  rw [rounds_succ]
  go_wp2_with fail
  go_ret2
  refine ⟨v3, rfl, ?_, HB3.out⟩
  have := HO3.out
  simp only [List.append_assoc, List.cons_append, List.nil_append] at this
  exact this
set_option maxRecDepth 100000 in
set_option maxHeartbeats 2000000 in
theorem Put_3 (A : Option Addr) (len cap : Nat) (l : List Int) (r : Int) (w : World) (hl : l.length = len) (hlm : len ≤ 1000000000) (hs : SliceAt w .u8 A l) (h0 : 2048 ≤ r) (h1 : r < 65536) (hg : r < 55296 ∨ 57343 < r) :
    Calls Try.prog 30 #[.slice A len cap, .int .i32 r] w (PutLeft w (l ++ bytesS r)) := by
  obtain ⟨i0, hi, hz0, hz1, hz2⟩ := info_parts u8_info
  have HI := fun w => Lib.hid (is_any r w)
  rw [(isB_iff r).2 (by omega)] at HI
  have HZ := fun w => Lib.hid (size_any r w)
  rw [size_of.2.2.1.2 (by omega)] at HZ
  have HC := Lib.hid (Clone_any A len cap l w hl (by omega) hs)
  rw [bytes3 (by omega) h1]
  clear hs
  have hl' := Nat.le_of_eq hl
  clear hl hg
  go_enter Try.func30, Try.ntmps30
  go_wp2_with fail
  refine (HI _).out.mono ?_
  rintro e w' ⟨rfl, rfl⟩
  go_wp2_with fail
  refine HC.out.mono ?_
  rintro e w1 ⟨v, rfl, hown, hbel⟩
  unfold Own at hown
  go_wp2_with fail
  refine (HZ _).out.mono ?_
  rintro e w' ⟨rfl, rfl⟩
  have x1 : IntKind.i64.wrap 5 = 5 := rfl
  have x2 : IntKind.i64.wrap 2 = 2 := rfl
  have x2' : IntKind.i64.wrap 12 = 12 := rfl
  have x3 : IntKind.u8.wrap 8160 = 224 := rfl
  have x4 : IntKind.u8.wrap (r / 4096) = r / 4096 := by rw [IntKind.wrap_u8]; omega
  have x5 : bits .or .u8 224 (r / 4096) = 224 + r / 4096 := bits_join .u8 8 (by decide) wraps_u8 4 224 (r / 4096) (by omega) (by omega) (by omega) (by omega) (by omega) (by omega)
  go_wp2_with fail
  go_region_held3 (fun w' => Below w.heap.size w w') (first | exact hbel2 | (with_reducible repeat (first | exact hbel | apply Below.drew | (refine Below.alloc ?_ (by have := hbel.size; simp <;> omega) _))))
    ((refine step_append_lies _ (by rfl) _ _ _ (by rfl) w.heap.size 5 i0 _ 1 1 Try.underlying22 hi hz0 hz1 hz2 rfl (by omega) v l.length (l.map (Value.int .u8)) (by rfl) ((World.ownsRow.alloc hown _).drew) ⟨w1.heap.size, 0, none⟩ 1 1 [.int .u8 (224 + r / 4096)] (by rfl) (by rfl) (World.news_of_block (cs := #[.int .u8 (224 + r / 4096)]) (t := 5) (fr := (0, 0)) (heap_alloc_new w1 _)) (by simp [Value.oneCell']) (by omega) (by unfold maxLen; omega) (by omega) (by have := hbel.size; simp; omega) (w1.heap.size + 1) (by simp) ?_; intro gg cap2 w2 hown2 hgrow hat hlt; have hbel2 : Below w.heap.size w w2 := Below.grown (Below.drew (hbel.alloc hbel.size _)) hgrow (by have := hbel.size; simp; omega) (fun k hk => (World.ownsRow.lt hown k hk).1)))
  have ho2 : Own w2 w.heap.size 5 .u8 (.slice (some ⟨gg, 0, none⟩) (l.length + 1) cap2) (l ++ [224 + r / 4096]) := Own.one hown2
  have HO2 := Lib.hid ho2
  have HB2 := Lib.hid hbel2
  clear ho2 hown2 hown hgrow hat hbel2 hbel HC x1 x2 x2' x3 x4 x5 HI HZ
  have y1 : bits .and .u8 (IntKind.u8.wrap (r / 64)) 63 = r / 64 % 64 := and63w _
  have z1 : bits .or .u8 128 (r / 64 % 64) = 128 + r / 64 % 64 := bits_join .u8 8 (by decide) wraps_u8 6 128 _ (by omega) (by omega) (by omega) (by omega) (by omega) (by omega)
  have y0 : bits .and .u8 (IntKind.u8.wrap (r)) 63 = r % 64 := and63w _
  have z0 : bits .or .u8 128 (r % 64) = 128 + r % 64 := bits_join .u8 8 (by decide) wraps_u8 6 128 _ (by omega) (by omega) (by omega) (by omega) (by omega) (by omega)
  go_wp2_with fail
  refine wp_loop_rounds 3 ?_
  have hown0 := HO2.out
  have hbel0 := HB2.out
  unfold Own at hown0
  rw [rounds_succ]
  go_wp2_with (at_builtin; refine wpList_append_own _ rfl _ _ 22 rfl w.heap.size 5 i0 (.int .u8 0) 1 1 Try.underlying22 hi hz0 hz1 hz2 rfl (by decide) _ _ _ rfl (World.ownsRow.alloc hown0 _) ⟨w2.heap.size, 0, none⟩ 1 1 [.int .u8 (128 + r / 64 % 64)] rfl rfl ?d01 ?d02 ?d03 ?d04 ?d05 ?_)
  case d01 =>
    intro j u hj
    match j, hj with
    | 0, hj => simp at hj; subst hj; simp [Addr.add]
  case d02 => intro u hu; simp at hu; subst hu; rfl
  case d03 => unfold maxLen; simp; omega
  case d04 => simp; omega
  case d05 => have := hbel0.size; simp; omega
  intro v3 w3 hown' hgrow' _
  have ho : Own w3 w.heap.size 5 .u8 v3 ((l ++ [224 + r / 4096]) ++ [128 + r / 64 % 64]) := by
    unfold Own
    simpa using hown'
  have hb : Below w.heap.size w w3 := (hbel0.alloc hbel0.size _).grown hgrow' (by have := hbel0.size; simp; omega) (fun k hk => (World.ownsRow.lt hown0 k hk).1)
  have HO3 := Lib.hid ho
  have HB3 := Lib.hid hb
  clear hown0 hown' hgrow' ho hb hbel0
  go_wp2_with fail
  have hown1 := HO3.out
  have hbel1 := HB3.out
  unfold Own at hown1
  rw [rounds_succ]
  go_wp2_with (at_builtin; refine wpList_append_own _ rfl _ _ 22 rfl w.heap.size 5 i0 (.int .u8 0) 1 1 Try.underlying22 hi hz0 hz1 hz2 rfl (by decide) _ _ _ rfl (World.ownsRow.alloc hown1 _) ⟨w3.heap.size, 0, none⟩ 1 1 [.int .u8 (128 + r % 64)] rfl rfl ?d11 ?d12 ?d13 ?d14 ?d15 ?_)
  case d11 =>
    intro j u hj
    match j, hj with
    | 0, hj => simp at hj; subst hj; simp [Addr.add]
  case d12 => intro u hu; simp at hu; subst hu; rfl
  case d13 => unfold maxLen; simp; omega
  case d14 => simp; omega
  case d15 => have := hbel1.size; simp; omega
  intro v4 w4 hown' hgrow' _
  have ho : Own w4 w.heap.size 5 .u8 v4 (((l ++ [224 + r / 4096]) ++ [128 + r / 64 % 64]) ++ [128 + r % 64]) := by
    unfold Own
    simpa using hown'
  have hb : Below w.heap.size w w4 := (hbel1.alloc hbel1.size _).grown hgrow' (by have := hbel1.size; simp; omega) (fun k hk => (World.ownsRow.lt hown1 k hk).1)
  have HO4 := Lib.hid ho
  have HB4 := Lib.hid hb
  clear hown1 hown' hgrow' ho hb hbel1
  go_wp2_with fail
  rw [rounds_succ]
  go_wp2_with fail
  go_ret2
  refine ⟨v4, rfl, ?_, HB4.out⟩
  have := HO4.out
  simp only [List.append_assoc, List.cons_append, List.nil_append] at this
  exact this
set_option maxRecDepth 100000 in
set_option maxHeartbeats 2000000 in
theorem Put_4 (A : Option Addr) (len cap : Nat) (l : List Int) (r : Int) (w : World) (hl : l.length = len) (hlm : len ≤ 1000000000) (hs : SliceAt w .u8 A l) (h0 : 65536 ≤ r) (h1 : r ≤ 1114111) :
    Calls Try.prog 30 #[.slice A len cap, .int .i32 r] w (PutLeft w (l ++ bytesS r)) := by
  obtain ⟨i0, hi, hz0, hz1, hz2⟩ := info_parts u8_info
  have HI := fun w => Lib.hid (is_any r w)
  rw [(isB_iff r).2 (by omega)] at HI
  have HZ := fun w => Lib.hid (size_any r w)
  rw [size_of.2.2.2.2 (by omega)] at HZ
  have HC := Lib.hid (Clone_any A len cap l w hl (by omega) hs)
  rw [bytes4 (by omega)]
  clear hs
  have hl' := Nat.le_of_eq hl
  clear hl
  go_enter Try.func30, Try.ntmps30
  go_wp2_with fail
  refine (HI _).out.mono ?_
  rintro e w' ⟨rfl, rfl⟩
  go_wp2_with fail
  refine HC.out.mono ?_
  rintro e w1 ⟨v, rfl, hown, hbel⟩
  unfold Own at hown
  go_wp2_with fail
  refine (HZ _).out.mono ?_
  rintro e w' ⟨rfl, rfl⟩
  have x1 : IntKind.i64.wrap 4 = 4 := rfl
  have x2 : IntKind.i64.wrap 3 = 3 := rfl
  have x2' : IntKind.i64.wrap 18 = 18 := rfl
  have x3 : IntKind.u8.wrap 4080 = 240 := rfl
  have x4 : IntKind.u8.wrap (r / 262144) = r / 262144 := by rw [IntKind.wrap_u8]; omega
  have x5 : bits .or .u8 240 (r / 262144) = 240 + r / 262144 := bits_join .u8 8 (by decide) wraps_u8 3 240 (r / 262144) (by omega) (by omega) (by omega) (by omega) (by omega) (by omega)
  go_wp2_with fail
  go_region_held3 (fun w' => Below w.heap.size w w') (first | exact hbel2 | (with_reducible repeat (first | exact hbel | apply Below.drew | (refine Below.alloc ?_ (by have := hbel.size; simp <;> omega) _))))
    ((refine step_append_lies _ (by rfl) _ _ _ (by rfl) w.heap.size 5 i0 _ 1 1 Try.underlying22 hi hz0 hz1 hz2 rfl (by omega) v l.length (l.map (Value.int .u8)) (by rfl) ((World.ownsRow.alloc hown _).drew) ⟨w1.heap.size, 0, none⟩ 1 1 [.int .u8 (240 + r / 262144)] (by rfl) (by rfl) (World.news_of_block (cs := #[.int .u8 (240 + r / 262144)]) (t := 5) (fr := (0, 0)) (heap_alloc_new w1 _)) (by simp [Value.oneCell']) (by omega) (by unfold maxLen; omega) (by omega) (by have := hbel.size; simp; omega) (w1.heap.size + 1) (by simp) ?_; intro gg cap2 w2 hown2 hgrow hat hlt; have hbel2 : Below w.heap.size w w2 := Below.grown (Below.drew (hbel.alloc hbel.size _)) hgrow (by have := hbel.size; simp; omega) (fun k hk => (World.ownsRow.lt hown k hk).1)))
  have ho2 : Own w2 w.heap.size 5 .u8 (.slice (some ⟨gg, 0, none⟩) (l.length + 1) cap2) (l ++ [240 + r / 262144]) := Own.one hown2
  have HO2 := Lib.hid ho2
  have HB2 := Lib.hid hbel2
  clear ho2 hown2 hown hgrow hat hbel2 hbel HC x1 x2 x2' x3 x4 x5 HI HZ
  have y2 : bits .and .u8 (IntKind.u8.wrap (r / 4096)) 63 = r / 4096 % 64 := and63w _
  have z2 : bits .or .u8 128 (r / 4096 % 64) = 128 + r / 4096 % 64 := bits_join .u8 8 (by decide) wraps_u8 6 128 _ (by omega) (by omega) (by omega) (by omega) (by omega) (by omega)
  have y1 : bits .and .u8 (IntKind.u8.wrap (r / 64)) 63 = r / 64 % 64 := and63w _
  have z1 : bits .or .u8 128 (r / 64 % 64) = 128 + r / 64 % 64 := bits_join .u8 8 (by decide) wraps_u8 6 128 _ (by omega) (by omega) (by omega) (by omega) (by omega) (by omega)
  have y0 : bits .and .u8 (IntKind.u8.wrap (r)) 63 = r % 64 := and63w _
  have z0 : bits .or .u8 128 (r % 64) = 128 + r % 64 := bits_join .u8 8 (by decide) wraps_u8 6 128 _ (by omega) (by omega) (by omega) (by omega) (by omega) (by omega)
  go_wp2_with fail
  refine wp_loop_rounds 4 ?_
  have hown0 := HO2.out
  have hbel0 := HB2.out
  unfold Own at hown0
  rw [rounds_succ]
  go_wp2_with (at_builtin; refine wpList_append_own _ rfl _ _ 22 rfl w.heap.size 5 i0 (.int .u8 0) 1 1 Try.underlying22 hi hz0 hz1 hz2 rfl (by decide) _ _ _ rfl (World.ownsRow.alloc hown0 _) ⟨w2.heap.size, 0, none⟩ 1 1 [.int .u8 (128 + r / 4096 % 64)] rfl rfl ?d01 ?d02 ?d03 ?d04 ?d05 ?_)
  case d01 =>
    intro j u hj
    match j, hj with
    | 0, hj => simp at hj; subst hj; simp [Addr.add]
  case d02 => intro u hu; simp at hu; subst hu; rfl
  case d03 => unfold maxLen; simp; omega
  case d04 => simp; omega
  case d05 => have := hbel0.size; simp; omega
  intro v3 w3 hown' hgrow' _
  have ho : Own w3 w.heap.size 5 .u8 v3 ((l ++ [240 + r / 262144]) ++ [128 + r / 4096 % 64]) := by
    unfold Own
    simpa using hown'
  have hb : Below w.heap.size w w3 := (hbel0.alloc hbel0.size _).grown hgrow' (by have := hbel0.size; simp; omega) (fun k hk => (World.ownsRow.lt hown0 k hk).1)
  have HO3 := Lib.hid ho
  have HB3 := Lib.hid hb
  clear hown0 hown' hgrow' ho hb hbel0
  go_wp2_with fail
  have hown1 := HO3.out
  have hbel1 := HB3.out
  unfold Own at hown1
  rw [rounds_succ]
  go_wp2_with (at_builtin; refine wpList_append_own _ rfl _ _ 22 rfl w.heap.size 5 i0 (.int .u8 0) 1 1 Try.underlying22 hi hz0 hz1 hz2 rfl (by decide) _ _ _ rfl (World.ownsRow.alloc hown1 _) ⟨w3.heap.size, 0, none⟩ 1 1 [.int .u8 (128 + r / 64 % 64)] rfl rfl ?d11 ?d12 ?d13 ?d14 ?d15 ?_)
  case d11 =>
    intro j u hj
    match j, hj with
    | 0, hj => simp at hj; subst hj; simp [Addr.add]
  case d12 => intro u hu; simp at hu; subst hu; rfl
  case d13 => unfold maxLen; simp; omega
  case d14 => simp; omega
  case d15 => have := hbel1.size; simp; omega
  intro v4 w4 hown' hgrow' _
  have ho : Own w4 w.heap.size 5 .u8 v4 (((l ++ [240 + r / 262144]) ++ [128 + r / 4096 % 64]) ++ [128 + r / 64 % 64]) := by
    unfold Own
    simpa using hown'
  have hb : Below w.heap.size w w4 := (hbel1.alloc hbel1.size _).grown hgrow' (by have := hbel1.size; simp; omega) (fun k hk => (World.ownsRow.lt hown1 k hk).1)
  have HO4 := Lib.hid ho
  have HB4 := Lib.hid hb
  clear hown1 hown' hgrow' ho hb hbel1
  go_wp2_with fail
  have hown2 := HO4.out
  have hbel2 := HB4.out
  unfold Own at hown2
  rw [rounds_succ]
  go_wp2_with (at_builtin; refine wpList_append_own _ rfl _ _ 22 rfl w.heap.size 5 i0 (.int .u8 0) 1 1 Try.underlying22 hi hz0 hz1 hz2 rfl (by decide) _ _ _ rfl (World.ownsRow.alloc hown2 _) ⟨w4.heap.size, 0, none⟩ 1 1 [.int .u8 (128 + r % 64)] rfl rfl ?d21 ?d22 ?d23 ?d24 ?d25 ?_)
  case d21 =>
    intro j u hj
    match j, hj with
    | 0, hj => simp at hj; subst hj; simp [Addr.add]
  case d22 => intro u hu; simp at hu; subst hu; rfl
  case d23 => unfold maxLen; simp; omega
  case d24 => simp; omega
  case d25 => have := hbel2.size; simp; omega
  intro v5 w5 hown' hgrow' _
  have ho : Own w5 w.heap.size 5 .u8 v5 ((((l ++ [240 + r / 262144]) ++ [128 + r / 4096 % 64]) ++ [128 + r / 64 % 64]) ++ [128 + r % 64]) := by
    unfold Own
    simpa using hown'
  have hb : Below w.heap.size w w5 := (hbel2.alloc hbel2.size _).grown hgrow' (by have := hbel2.size; simp; omega) (fun k hk => (World.ownsRow.lt hown2 k hk).1)
  have HO5 := Lib.hid ho
  have HB5 := Lib.hid hb
  clear hown2 hown' hgrow' ho hb hbel2
  go_wp2_with fail
  rw [rounds_succ]
  go_wp2_with fail
  go_ret2
  refine ⟨v5, rfl, ?_, HB5.out⟩
  have := HO5.out
  simp only [List.append_assoc, List.cons_append, List.nil_append] at this
  exact this
theorem Put_any (A : Option Addr) (len cap : Nat) (l : List Int) (r : Int) (w : World) (hl : l.length = len) (hlm : len ≤ 1000000000) (hs : SliceAt w .u8 A l) (h : isB r = true) :
    Calls Try.prog 30 #[.slice A len cap, .int .i32 r] w (PutLeft w (l ++ bytesS r)) := by
  rw [isB_iff] at h
  by_cases a : r < 128
  · exact Put_1 A len cap l r w hl hlm hs h.1 a
  by_cases b : r < 2048
  · exact Put_2 A len cap l r w hl hlm hs (by omega) b
  by_cases c : r < 65536
  · exact Put_3 A len cap l r w hl hlm hs (by omega) c h.2.2
  · exact Put_4 A len cap l r w hl hlm hs (by omega) h.2.1
end Go.Proofs.Ytegekajbnecdfaa

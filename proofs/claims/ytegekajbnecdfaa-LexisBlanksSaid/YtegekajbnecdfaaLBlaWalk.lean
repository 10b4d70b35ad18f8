/- Layer 2: the walk of LexisBlanks. -/
import Derived.Test.YtegekajbnecdfaaLBlaLaw
import Derived.Lib.AppendStr
import Derived.StillTailTactics
namespace Go.Proofs.Ytegekajbnecdfaa
open Go.RowKit
def sepWs : List ByteArray := [⟨#[]⟩, ⟨#[32]⟩, ⟨#[10]⟩, ⟨#[35, 120, 10]⟩, ⟨#[9, 35, 32, 195, 169, 32, 35, 10, 13]⟩]
/-- What is put ahead of a token. -/
def sepOf (ps : List Int) (k : Nat) : List Int := if k < ps.length then numsOf (sepWs.getD (gb ps k % 5).toNat ByteArray.empty) else []
theorem sep_get (n : Nat) (h : n < 5) : numsOf (sepWs.getD n ByteArray.empty) ∈ seps5 := by
  obtain rfl | rfl | rfl | rfl | rfl : n = 0 ∨ n = 1 ∨ n = 2 ∨ n = 3 ∨ n = 4 := by omega
  all_goals decide +kernel
theorem sep_ok (ps : List Int) (k : Nat) : sepOf ps k ∈ seps5 := by
  unfold sepOf
  split
  · exact sep_get _ (by omega)
  · simp [seps5]
theorem sep_len (ps : List Int) (k : Nat) : (sepOf ps k).length ≤ 9 := by
  have := sep_ok ps k
  generalize sepOf ps k = s at *
  simp only [seps5, List.mem_cons, List.not_mem_nil, or_false] at this
  rcases this with rfl | rfl | rfl | rfl | rfl <;> simp
theorem byte_info : (Try.prog.info? 5).map (fun i => (i.zero, i.size, i.bytes)) = some (some (.int .u8 0), 1, 1) := by kernel_rfl
theorem strCells_nums (s : ByteArray) : Go.Lib.strCells s = (numsOf s).map (Value.int .u8) := by
  unfold Go.Lib.strCells numsOf
  rw [List.map_map]
  rfl
theorem weave_take_len {f : Nat → List Int} (hf : ∀ k, (f k).length ≤ 9) (cs : List (Core × List Int)) (k : Nat) : (weave f 0 (cs.take k)).length ≤ 9 * cs.length + (flatC cs).length := by
  have h1 := weave_len hf (cs.take k) 0
  have h2 : (flatC (cs.take k)).length ≤ (flatC cs).length := by
    have e : flatC cs = flatC (cs.take k) ++ flatC (cs.drop k) := by
      unfold flatC
      rw [← List.flatMap_append, List.take_append_drop]
    rw [e, List.length_append]; omega
  have h3 : (cs.take k).length ≤ cs.length := List.length_take_le' _ _
  omega
set_option maxRecDepth 100000 in
set_option maxHeartbeats 4000000 in
theorem LexisBlanks_any (A : Option Addr) (len cap : Nat) (l : List Int) (A2 : Option Addr) (len2 cap2 : Nat) (ps : List Int) (w : World) (hl : l.length = len) (hcap : len ≤ cap) (hm : cap ≤ maxLen) (hb : Byt l) (hs : SliceAt w .u8 A l)
    (hl2 : ps.length = len2) (hb2 : Byt ps) (hs2 : SliceAt w .u8 A2 ps) :
    Calls Try.prog 12 #[.slice A len cap, .slice A2 len2 cap2] w fun e w' => e = .returned (.bool true) ∧ Below w.heap.size w w' := by
  unfold maxLen at hm
  obtain ⟨i0, hi, hz0, hz1, hz2⟩ := info_parts byte_info
  have C0 := fun w => Lib.hid (alive_any w)
  have HS := Lib.hid hs
  have HS2 := Lib.hid hs2
  by_cases hgo : len ≤ 2000 ∧ len2 ≤ 2000
  · obtain ⟨h5, h6⟩ := hgo
    have h5' : ¬ (2000 : Int) < (len : Int) := by omega
    have h6' : ¬ (2000 : Int) < (len2 : Int) := by omega
    have d5 : decide ((2000 : Int) < (len : Int)) = false := decide_eq_false h5'
    have d6 : decide ((2000 : Int) < (len2 : Int)) = false := decide_eq_false h6'
    have hlen := scan_n l.length 0 false [] (by omega) hb (by simp) (by omega)
    have C1 := fun w hs => Lib.hid ((Tokens_any A len cap l w hl hcap hm hb hs (by omega)).mono fun e w' h => tks_at h)
    rw [hl] at hlen
    obtain ⟨s, es⟩ : ∃ s, s = scanS l 0 false [] := ⟨_, rfl⟩
    rw [← es] at C1 hlen
    obtain ⟨ts, p, c⟩ := s
    simp only at C1 hlen
    obtain ⟨hlen, hc0, hc7⟩ := hlen
    have HL := Lib.hid hl
    have HL2 := Lib.hid hl2
    have HB := Lib.hid hb
    have HB2 := Lib.hid hb2
    clear hl hs hb hl2 hs2 hb2
    by_cases hc : c = 0
    · obtain ⟨cs, p1, p2, p3, p4⟩ := blanks_law HB.out es.symm hc
      subst hc
      have P2 := Lib.hid p2
      have P3 := Lib.hid (p3 (sepOf ps) (sep_ok ps))
      have P1 := Lib.hid p1
      obtain ⟨N, eN⟩ : ∃ N, N = ts.length := ⟨_, rfl⟩
      rw [← eN] at C1 hlen p1
      have HN := Lib.hid eN
      have hN1 : 1 ≤ N := by omega
      have hNne : ((N : Int) == 0) = false := by rw [beq_eq_false_iff_ne]; omega
      have hNne2 : (N == 0) = false := by rw [beq_eq_false_iff_ne]; omega
      have P4 := Lib.hid p4
      have PN := Lib.hid p1
      clear p2 p3 p4 es eN p1
      go_enter Try.func12, Try.ntmps12
      go_wp2_with fail
      refine (C0 _).out.mono ?_
      rintro e w1 ⟨rfl, hb1⟩
      have HB1 := Lib.hid hb1
      clear hb1
      go_wp2_with fail
      refine (C1 _ (HS.out.below_all HB1.out)).out.mono ?_
      rintro e w2 ⟨A1, c1, rfl, ht1, hb2⟩
      have HB2' := Lib.hid (HB1.out.trans (hb2.mono HB1.out.size))
      have HT1 := Lib.hid ht1
      clear hb2 ht1
      go_wp2_with fail
      go_loopw [9, 10] (fun v i wr => ∃ k : Nat, k + 1 ≤ N ∧ i = .int .i64 k ∧ Below (w2.heap.size + 1) (w2.alloc (.cells (sepWs.map Value.string).toArray 9)) wr ∧ Own wr (w2.heap.size + 1) 5 .u8 v (weave (sepOf ps) 0 (cs.take k))) (fun _ i _ => N - (intOf i).toNat)
      case atStart => exact ⟨0, hN1, rfl, Below.refl _ _, Own.nil _ _ _ _⟩
      case round =>
        obtain ⟨k, hk, rfl, hbel, ho⟩ := hrel
        have hzr : w2.heap.size + 1 ≤ wr.heap.size := by have := hbel.size; simpa using this
        have HBEL := Lib.hid hbel
        have HO := Lib.hid ho
        have HW2 := Lib.hid (show ∀ wx, Below (w2.heap.size + 1) (w2.alloc (.cells (sepWs.map Value.string).toArray 9)) wx → Below w2.heap.size w2 wx from fun wx h => ((Below.refl _ _).alloc (Nat.le_refl _) _).trans (h.mono (Nat.le_succ _)))
        have HW := Lib.hid (show ∀ wx, Below (w2.heap.size + 1) (w2.alloc (.cells (sepWs.map Value.string).toArray 9)) wx → Below w.heap.size w wx from fun wx h => HB2'.out.trans ((HW2.out wx h).mono HB2'.out.size))
        have HST := Lib.hid (show StrsAt wr w2.heap.size 0 sepWs from (strs_new 9 sepWs (w := w2) rfl).below hbel (Nat.lt_succ_self _))
        clear hbel ho
        by_cases hlt : k + 1 < N
        · have d1 : (k : Int) < (N : Int) - 1 := by omega
          have hkc : k < cs.length := by have := PN.out; omega
          obtain ⟨t, u, A', B', d, q1, q2, q3, q4, q5, q6, q7, q8⟩ := P2.out k hkc
          have hsn := weave_snoc (sepOf ps) cs 0 k d q7
          rw [Nat.zero_add] at hsn
          have HSN := Lib.hid hsn
          have hB : B' ≤ len := by rw [← HL.out]; exact q6
          have hne : ts ≠ [] := by rintro rfl; simp at q1
          obtain ⟨b1, o1, rfl, hb1lt, hcell⟩ := HT1.out.resolve_left hne
          obtain ⟨b0, o0, rfl, hb0lt, hc0'⟩ := HS.out.cells (by rw [HL.out]; omega)
          have HCELL := Lib.hid (show ∀ wx, Below (w2.heap.size + 1) (w2.alloc (.cells (sepWs.map Value.string).toArray 9)) wx → wx.cell? ⟨b1, o1 + k * 4 + 3, none⟩ = some (.int .i64 (A' : Int)) ∧ wx.cell? ⟨b1, o1 + (k + 1) * 4 + 3, none⟩ = some (.int .i64 (B' : Int)) ∧ CellsAt wx .u8 b0 o0 l from fun wx h => by
            have h2 := HW2.out wx h
            refine ⟨(h2.cell (p := ⟨b1, _, none⟩) hb1lt).trans ?_, (h2.cell (p := ⟨b1, _, none⟩) hb1lt).trans ?_, hc0'.below (HW.out wx h) hb0lt⟩
            · rw [(hcell k t q1).2.2.2, q3]
            · rw [(hcell (k + 1) u q2).2.2.2, q4])
          obtain ⟨x3, y3, z3⟩ := HCELL.out wr HBEL.out
          have Q8 := Lib.hid q8
          have Q7 := Lib.hid q7
          have e1 : decide ((B' : Int) < (A' : Int)) = false := decide_eq_false (by omega)
          have e2 : decide (B' < A') = false := decide_eq_false (by omega)
          have e3 : decide ((len : Int) < (B' : Int)) = false := decide_eq_false (by omega)
          have e4 : decide (len < B') = false := decide_eq_false (by omega)
          have e5 : decide ((A' : Int) < 0) = false := decide_eq_false (by omega)
          have d2 : (0 : Int) ≤ (k : Int) := by omega
          have d3 : (k : Int) < (N : Int) := by omega
          have d4 : (k : Int) + 1 < (N : Int) := by omega
          have hw0 : IntKind.i64.wrap ((k : Int) + 1) = (k : Int) + 1 := IntWalk.i64_in _ (by omega)
          have hw1 : 0 ≤ (k : Int) + 1 := by omega
          have hw2 : ((k : Int) + 1).toNat = k + 1 := by omega
          have Z3 := Lib.hid z3
          have hwl := weave_take_len (sep_len ps) cs k
          have hwc : cs.length ≤ 2000 := by have := PN.out; omega
          have hwp := P4.out
          rw [HL.out] at hwp
          clear q1 q2 q3 q4 q7 q8 hcell hne hsn z3
          by_cases hpk : k < len2
          · have d7 : (k : Int) < (len2 : Int) := by omega
            obtain ⟨b2, o2, rfl, hb2lt, hc2'⟩ := HS2.out.cells (by rw [HL2.out]; omega)
            have kp := (hc2'.below (HW.out wr HBEL.out) hb2lt) k (by rw [HL2.out]; exact hpk)
            have hpb := gb_bd HB2.out k
            have hso : sepOf ps k = numsOf (sepWs.getD (gb ps k % 5).toNat ByteArray.empty) := by unfold sepOf; rw [if_pos (by rw [HL2.out]; exact hpk)]
            have HSO := Lib.hid hso
            obtain ⟨c, ec⟩ : ∃ c, c = gb ps k := ⟨_, rfl⟩
            rw [← ec] at kp hpb HSO
            obtain ⟨m, em⟩ : ∃ m : Nat, c % 5 = (m : Int) := ⟨(c % 5).toNat, by omega⟩
            have hm5 : m < 5 := by omega
            have hsx := HST.out m hm5
            have hsl := sep_len ps k
            obtain ⟨x, ex⟩ : ∃ x, x = sepWs.getD m ByteArray.empty := ⟨_, rfl⟩
            rw [Nat.zero_add, ← ex] at hsx
            have hso2 : sepOf ps k = numsOf x := by rw [HSO.out, em, ex]; rfl
            have HSO2 := Lib.hid hso2
            rw [hso2, nums_len] at hsl
            have g1 : (m : Int) < 5 := by omega
            have g2 : (0 : Int) ≤ (m : Int) := by omega
            clear ec ex hso hso2 HSO
            go_wp2_with fail
            go_quiet (fail)
            go_wp2_with (at_builtin; refine Go.Lib.wpList_append_own_string _ rfl _ _ 22 9 rfl (w2.heap.size + 1) 5 i0 Try.underlying22 Try.underlying9 hi hz0 hz1 hz2 _ _ _ rfl (show World.ownsRow (wr.drewN _) _ _ _ _ _ _ from HO.out) x rfl ?c3 ?c4 ?c5 ?_)
            case c3 => unfold maxLen; omega
            case c4 => omega
            case c5 => exact hzr
            intro v' w3 hown' hgrow _
            rw [strCells_nums, ← HSO2.out] at hown'
            have HO3 := Lib.hid (Own.app (l := sepOf ps k) (by rw [HSO2.out, nums_len]) hown')
            have HBEL3 := Lib.hid ((below_drewN HBEL.out _).grown hgrow hzr (fun k hk => (World.ownsRow.lt HO.out k hk).1))
            clear hown' hgrow
            have hz3 : w2.heap.size + 1 ≤ w3.heap.size := by have := HBEL3.out.size; simpa using this
            obtain ⟨x3, y3, z3⟩ := HCELL.out w3 HBEL3.out
            have Z3 := Lib.hid z3
            clear z3
            go_wp2_with fail
            have g3 : (A' : Int) ≤ (B' : Int) := by omega
            have g4 : (B' : Int) ≤ (cap : Int) := by omega
            have g5 : (0 : Int) ≤ (A' : Int) := by omega
            have g6 : ¬ cap = A' := by omega
            have hdl : d.2.length = B' - A' := by rw [Q8.out, List.length_take, List.length_drop, HL.out]; omega
            have hsd : SliceAt w3 .u8 (some ⟨b0, o0 + A', none⟩) d.2 := .inr ⟨b0, o0 + A', rfl, by have := (HW.out _ HBEL3.out).size; omega, by rw [Q8.out]; exact cells_take (cells_drop Z3.out A') _⟩
            have HSD := Lib.hid hsd
            have HDL := Lib.hid hdl
            have hsl := sep_len ps k
            clear hsd hdl
            obtain ⟨P, eP⟩ : ∃ P, P = weave (sepOf ps) 0 (cs.take k) ++ sepOf ps k := ⟨_, rfl⟩
            have EP := Lib.hid eP
            have hpl : P.length ≤ 20009 := by rw [eP, List.length_append]; omega
            rw [← eP] at HO3
            clear eP
            go_still_tail 14, (by kernel_rfl)
            change wpList _ _ _ _ _ (World.drew w3)
            have HOY := Lib.hid (show Own (World.drew w3) (w2.heap.size + 1) 5 .u8 v' (P) from HO3.out)
            have HBY := Lib.hid (show Below (w2.heap.size + 1) (w2.alloc (.cells (sepWs.map Value.string).toArray 9)) (World.drew w3) from HBEL3.out.drew)
            have HSY := Lib.hid (show SliceAt (World.drew w3) .u8 (some ⟨b0, o0 + A', none⟩) d.2 from HSD.out)
            generalize World.drew w3 = wY at *
            have hzy : w2.heap.size + 1 ≤ wY.heap.size := by have := HBY.out.size; simpa using this
            clear HO3 HBEL3 HSD x3 y3 Z3
            go_wp2_with (at_builtin; refine wpList_append_src _ rfl _ _ 22 rfl (w2.heap.size + 1) 5 i0 (.int .u8 0) 1 Try.underlying22 hi hz0 hz1 hz2 rfl _ _ _ rfl HOY.out _ _ _ .u8 d.2 rfl HDL.out HSY.out ?c3 ?c4 ?c5 ?_)
            case c3 => unfold maxLen; omega
            case c4 => omega
            case c5 => exact hzy
            intro v4 w4 hown4 hgrow4
            have HO4 := Lib.hid (Own.app HDL.out hown4)
            have HB4 := Lib.hid (HBY.out.grown hgrow4 hzy (fun k hk => (World.ownsRow.lt HOY.out k hk).1))
            clear hown4 hgrow4
            go_wp2_with fail
            go_roundw
            case rel => exact ⟨k + 1, by omega, by go_num, HB4.out, by rw [HSN.out, ← EP.out]; exact HO4.out⟩
            case measure => simp [intOf]; omega
          · have d7 : ¬ (k : Int) < (len2 : Int) := by omega
            have hso : sepOf ps k = [] := by unfold sepOf; rw [if_neg (by rw [HL2.out]; omega)]
            have HOS := Lib.hid (show Own wr (w2.heap.size + 1) 5 .u8 u9 (weave (sepOf ps) 0 (cs.take k) ++ sepOf ps k) by rw [hso, List.append_nil]; exact HO.out)
            clear hso
            go_wp2_with fail
            go_quiet (fail)
            rename Nat => nq
            have HOT := Lib.hid (show Own (wr.drewN nq) (w2.heap.size + 1) 5 .u8 u9 (weave (sepOf ps) 0 (cs.take k) ++ sepOf ps k) from HOS.out)
            have HBT := Lib.hid (below_drewN HBEL.out nq)
            generalize wr.drewN nq = wt at *
            obtain ⟨x3, y3, z3⟩ := HCELL.out wt HBT.out
            have Z4 := Lib.hid z3
            clear z3
            go_wp2_with fail
            have g3 : (A' : Int) ≤ (B' : Int) := by omega
            have g4 : (B' : Int) ≤ (cap : Int) := by omega
            have g5 : (0 : Int) ≤ (A' : Int) := by omega
            have g6 : ¬ cap = A' := by omega
            have hdl : d.2.length = B' - A' := by rw [Q8.out, List.length_take, List.length_drop, HL.out]; omega
            have hsd : SliceAt wt .u8 (some ⟨b0, o0 + A', none⟩) d.2 := .inr ⟨b0, o0 + A', rfl, by have := (HW.out _ HBT.out).size; omega, by rw [Q8.out]; exact cells_take (cells_drop Z4.out A') _⟩
            have HSD := Lib.hid hsd
            have HDL := Lib.hid hdl
            have hsl := sep_len ps k
            clear hsd hdl
            obtain ⟨P, eP⟩ : ∃ P, P = weave (sepOf ps) 0 (cs.take k) ++ sepOf ps k := ⟨_, rfl⟩
            have EP := Lib.hid eP
            have hpl : P.length ≤ 20009 := by rw [eP, List.length_append]; omega
            rw [← eP] at HOT
            clear eP
            go_still_tail 14, (by kernel_rfl)
            change wpList _ _ _ _ _ (wt.drew)
            have HOY := Lib.hid (show Own (wt.drew) (w2.heap.size + 1) 5 .u8 u9 (P) from HOT.out)
            have HBY := Lib.hid (show Below (w2.heap.size + 1) (w2.alloc (.cells (sepWs.map Value.string).toArray 9)) (wt.drew) from HBT.out.drew)
            have HSY := Lib.hid (show SliceAt (wt.drew) .u8 (some ⟨b0, o0 + A', none⟩) d.2 from HSD.out)
            generalize wt.drew = wY at *
            have hzy : w2.heap.size + 1 ≤ wY.heap.size := by have := HBY.out.size; simpa using this
            clear HOT HBT HSD x3 y3 Z4
            go_wp2_with (at_builtin; refine wpList_append_src _ rfl _ _ 22 rfl (w2.heap.size + 1) 5 i0 (.int .u8 0) 1 Try.underlying22 hi hz0 hz1 hz2 rfl _ _ _ rfl HOY.out _ _ _ .u8 d.2 rfl HDL.out HSY.out ?c3 ?c4 ?c5 ?_)
            case c3 => unfold maxLen; omega
            case c4 => omega
            case c5 => exact hzy
            intro v4 w4 hown4 hgrow4
            have HO4 := Lib.hid (Own.app HDL.out hown4)
            have HB4 := Lib.hid (HBY.out.grown hgrow4 hzy (fun k hk => (World.ownsRow.lt HOY.out k hk).1))
            clear hown4 hgrow4
            go_wp2_with fail
            go_roundw
            case rel => exact ⟨k + 1, by omega, by go_num, HB4.out, by rw [HSN.out, ← EP.out]; exact HO4.out⟩
            case measure => simp [intOf]; omega
        · have hkc : cs.take k = cs := List.take_of_length_le (by have := PN.out; omega)
          have d1 : ¬ (k : Int) < (N : Int) - 1 := by omega
          have hwl := weave_take_len (sep_len ps) cs k
          have hwc : cs.length ≤ 2000 := by have := PN.out; omega
          have hwp := P4.out
          rw [HL.out] at hwp
          have ho2 := HO.out
          rw [hkc] at ho2 hwl
          obtain ⟨hbw, ts', hsc, hln, hco⟩ := P3.out
          obtain ⟨l', el⟩ : ∃ l', l' = weave (sepOf ps) 0 cs := ⟨_, rfl⟩
          rw [← el] at ho2 hbw hsc hwl
          obtain ⟨AC, cc, rfl, hc1, hc2, hsl⟩ := ho2.slice
          have C2 := fun w hs => Lib.hid ((Tokens_any AC l'.length cc l' w rfl hc1 (by unfold maxLen at hc2; omega) hbw hs (by omega)).mono fun e w' h => tks_at h)
          rw [hsc] at C2
          simp only at C2
          have hln2 : ts'.length = N := by rw [hln, ← HN.out]
          rw [hln2] at C2
          have HLN := Lib.hid hln2
          have HCO := Lib.hid hco
          have HSL := Lib.hid hsl
          have HWX := Lib.hid (HW.out wr HBEL.out)
          have HT := Lib.hid (HT1.out.below (HW2.out wr HBEL.out))
          have hzw : w.heap.size ≤ wr.heap.size := HWX.out.size
          clear el hbw hsc hwl hkc ho2 hsl hco hln hln2 hc1 hc2
          generalize l'.length = n' at *
          go_wp2_with fail
          refine (C2 _ HSL.out).out.mono ?_
          rintro e w5 ⟨A3, c3, rfl, ht3, hb3⟩
          have HB5 := Lib.hid (HWX.out.trans (hb3.mono hzw))
          have HT3 := Lib.hid ht3
          have HT5 := Lib.hid (HT.out.below hb3)
          have hNN : ((N : Int) != (N : Int)) = false := by simp
          clear hb3 ht3
          go_wp2_with fail
          obtain ⟨wo, ewo⟩ : ∃ wo : World, wo = wr := ⟨_, rfl⟩
          subst ewo
          go_loopw [14] (fun i wx => ∃ (j q : Nat), j ≤ N ∧ i = .int .i64 j ∧ wx = w5.drewN q) (fun i _ => N - (intOf i).toNat)
          case atStart => exact ⟨0, 0, Nat.zero_le _, rfl, rfl⟩
          case round =>
            obtain ⟨j, q, hj, rfl, rfl⟩ := hrel
            by_cases hjl : j < N
            · obtain ⟨⟨sk, st, sn, sa⟩, hs⟩ : ∃ t, ts[j]? = some t := ⟨_, List.getElem?_eq_getElem (by rw [← HN.out]; exact hjl)⟩
              obtain ⟨⟨tk, tt, tn, ta⟩, ht⟩ : ∃ t, ts'[j]? = some t := ⟨_, List.getElem?_eq_getElem (by rw [HLN.out]; exact hjl)⟩
              have hcc := HCO.out j
              rw [hs, ht] at hcc
              simp only [Option.map_some, Option.some.injEq, Tok.core, Prod.mk.injEq] at hcc
              obtain ⟨rfl, rfl, rfl⟩ := hcc
              have hss : ts ≠ [] := by rintro rfl; simp at hs
              have hts : ts' ≠ [] := by rintro rfl; simp at ht
              obtain ⟨b1, o1, rfl, _, hc1⟩ := HT5.out.resolve_left hss
              obtain ⟨b2, o2, rfl, _, hc2⟩ := HT3.out.resolve_left hts
              obtain ⟨x0, x1, x2, x3⟩ := hc1 j _ hs
              obtain ⟨y0, y1, y2, y3⟩ := hc2 j _ ht
              simp only at x0 x1 x2 x3 y0 y1 y2 y3
              have d3 : (j : Int) < (N : Int) := by omega
              have d4 : (0 : Int) ≤ (j : Int) := by omega
              have e1 : (tk != tk) = false := by simp
              have e2 : (tn != tn) = false := by simp
              have e3 : (tt.toList != tt.toList) = false := by simp
              clear hs ht hss hts hc1 hc2
              go_wp2_with fail
              go_quiet (fail)
              go_wp2_with fail
              exact ⟨⟨j + 1, _, by omega, by go_num, rfl⟩, by simp [intOf]; omega⟩
            · go_wp2_with fail
              go_ret
              exact ⟨rfl, below_drewN HB5.out _⟩
    · have hcn : (c != 0) = true := bne_iff_ne.2 hc
      clear es hc
      go_enter Try.func12, Try.ntmps12
      go_wp2_with fail
      refine (C0 _).out.mono ?_
      rintro e w1 ⟨rfl, hb1⟩
      have HB1 := Lib.hid hb1
      clear hb1
      go_wp2_with fail
      refine (C1 _ (HS.out.below_all HB1.out)).out.mono ?_
      rintro e w2 ⟨A1, c1, rfl, ht1, hb2⟩
      have HB2' := Lib.hid (HB1.out.trans (hb2.mono HB1.out.size))
      clear hb2 ht1
      go_wp2_with fail
      go_ret
      exact ⟨rfl, HB2'.out⟩
  · clear hl hs hb hl2 hs2 hb2
    rcases Nat.lt_or_ge 2000 len with h5 | h5
    · have h5' : (2000 : Int) < (len : Int) := by omega
      have d5 : decide ((2000 : Int) < (len : Int)) = true := decide_eq_true h5'
      clear hgo
      go_enter Try.func12, Try.ntmps12
      go_wp2_with fail
      refine (C0 _).out.mono ?_
      rintro e w1 ⟨rfl, hb1⟩
      have HB1 := Lib.hid hb1
      clear hb1
      go_wp2_with fail
      go_ret
      exact ⟨rfl, HB1.out⟩
    · have h6 : 2000 < len2 := by omega
      have h5' : ¬ (2000 : Int) < (len : Int) := by omega
      have h6' : (2000 : Int) < (len2 : Int) := by omega
      have d5 : decide ((2000 : Int) < (len : Int)) = false := decide_eq_false h5'
      have d6 : decide ((2000 : Int) < (len2 : Int)) = true := decide_eq_true h6'
      clear hgo
      go_enter Try.func12, Try.ntmps12
      go_wp2_with fail
      refine (C0 _).out.mono ?_
      rintro e w1 ⟨rfl, hb1⟩
      have HB1 := Lib.hid hb1
      clear hb1
      go_wp2_with fail
      go_ret
      exact ⟨rfl, HB1.out⟩
end Go.Proofs.Ytegekajbnecdfaa

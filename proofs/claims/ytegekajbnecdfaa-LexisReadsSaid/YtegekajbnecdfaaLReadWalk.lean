/- Layer 2: the walk of LexisReads. -/
import Derived.Test.YtegekajbnecdfaaLRead2
namespace Go.Proofs.Ytegekajbnecdfaa
open Go.RowKit
/-- Texts that lie somewhere. -/
def TxtsAt (w : World) (A : Option Addr) (ss : List ByteArray) : Prop := ss = [] ∨ ∃ b off, A = some ⟨b, off, none⟩ ∧ b < w.heap.size ∧ StrsAt w b off ss
theorem TxtsAt.below {w w' : World} {A : Option Addr} {ss : List ByteArray} (h : TxtsAt w A ss) (hb : Below w.heap.size w w') : TxtsAt w' A ss := by
  rcases h with h | ⟨b, off, rfl, hlt, hc⟩
  · exact .inl h
  · exact .inr ⟨b, off, rfl, Nat.lt_of_lt_of_le hlt hb.size, hc.below hb hlt⟩
theorem own_grown {w w1 w2 : World} {base B : Nat} {v : Value} {ts : List Tok} (hb : Below B w w1) (h : OwnT w1 base v ts) (hg : w1.grownBy w2 v.ownBlock) (hB : B ≤ base) (hB1 : B ≤ w1.heap.size) : Below B w w2 :=
  hb.grown hg hB1 (fun g hk => Nat.le_trans hB (World.ownsRow.lt h g hk).1)
/-- A block of tokens, of whatever kind. -/
def RoomT (w : World) (A : Option Addr) (n : Nat) : Prop := n = 0 ∨ ∃ b cur, A = some ⟨b, 0, none⟩ ∧ Blk w b 67 cur ∧ n * 4 ≤ cur.size
theorem OwnT.room {w : World} {base : Nat} {A : Option Addr} {n cap : Nat} {ts : List Tok} (hn : ts.length = n) (h : OwnT w base (.slice A n cap) ts) : RoomT w A n ∧ (A = none → n = 0 ∧ cap = 0) := by
  rcases h.2 with ⟨h1, h2⟩ | ⟨g, cap', cur, h1, hg, hh, h2, h3, h4, h5⟩
  · injection h1 with h1 h1' h1''
    exact ⟨.inl h1', fun _ => ⟨h1', h1''⟩⟩
  · injection h1 with h1 h1' h1''
    subst h1
    refine ⟨.inr ⟨g, cur, rfl, hh, ?_⟩, fun h => by cases h⟩
    have : cap' * 4 = cur.size := by first | exact h4.symm | exact h4
    omega
theorem tok_three (t : Tok) (s : ByteArray) : ((t.kind == 3) = false ∧ isS t s = false) ∨ ((t.kind == 3) = true ∧ (t.text.toList == s.toList) = false ∧ isS t s = false) ∨ ((t.kind == 3) = true ∧ (t.text.toList == s.toList) = true ∧ isS t s = true) := by
  unfold isS
  cases (t.kind == 3) <;> cases (t.text.toList == s.toList) <;> simp
theorem tok_four (n a : Int) (s : ByteArray) : ((4 : Int) == 3) = false ∧ isS ⟨4, ⟨#[]⟩, n, a⟩ s = false := ⟨by decide, by unfold isS; rfl⟩
set_option maxRecDepth 100000 in
set_option maxHeartbeats 8000000 in
theorem LexisReads_any (A : Option Addr) (n cap : Nat) (ts : List Tok) (A2 : Option Addr) (m cap2 : Nat) (ss : List ByteArray) (w : World) (hn : ts.length = n) (hA : A = none → n = 0 ∧ cap = 0) (ht : ToksAt w A ts) (hm : ss.length = m) (hs : TxtsAt w A2 ss) :
    Calls Try.prog 14 #[.slice A n cap, .slice A2 m cap2] w fun e w' => e = .returned (.bool true) ∧ Below w.heap.size w w' := by
  obtain ⟨i0, hi, hz0, hz1, hz2⟩ := info_parts tok_info
  have C0 := fun w => Lib.hid (alive_any w)
  have HT := Lib.hid ht
  have HS := Lib.hid hs
  by_cases hgo : n ≤ 200 ∧ m ≤ 200
  · obtain ⟨h5, h6⟩ := hgo
    have h5' : ¬ (200 : Int) < (n : Int) := by omega
    have h6' : ¬ (200 : Int) < (m : Int) := by omega
    have d5 : decide ((200 : Int) < (n : Int)) = false := decide_eq_false h5'
    have d6 : decide ((200 : Int) < (m : Int)) = false := decide_eq_false h6'
    have HN := Lib.hid hn
    have HM := Lib.hid hm
    have HA := Lib.hid hA
    have C1 := fun A c w h1 h2 => Lib.hid (NewReader_any n c A ts w hn (by omega) h1 h2)
    clear hn hA ht hm hs
    go_enter Try.func14, Try.ntmps14
    go_wp2_with fail
    refine (C0 _).out.mono ?_
    rintro e w1 ⟨rfl, hb1⟩
    have HB1 := Lib.hid hb1
    have hz1' := hb1.size
    have hsrc := Lib.hid (((HT.out.below hb1).below ((Below.refl w1.heap.size w1).alloc (Nat.le_refl _) (.cells #[] 67))).src (fun h => by rw [HN.out]; exact (HA.out h).1))
    rw [HN.out] at hsrc
    clear hb1
    go_wp2_with (at_builtin; refine wpList_append_srcN _ rfl _ _ 59 rfl w1.heap.size 67 i0 _ 4 40 Try.underlying59 hi hz0 hz1 hz2 rfl (by decide) _ _ _ rfl (OwnT.lit0 w1 (Nat.le_refl _)) _ _ _ (ts.flatMap Tok.cells) rfl hsrc.out ?c3 ?c4 ?c5 ?_)
    case c3 => unfold maxLen; simp; omega
    case c4 => simp; omega
    case c5 => simp
    intro v w2 ho hg
    have ho2 : OwnT w2 w1.heap.size v ts := by
      unfold OwnT
      rw [HN.out]
      simpa using ho
    have hb2 := own_grown (HB1.out.alloc hz1' _) (OwnT.lit0 w1 (Nat.le_refl _)) hg hz1' (by simp; omega)
    obtain ⟨Ag, cg, rfl, htg⟩ := ho2.toks
    have hlen : ts.length = n := HN.out
    rw [hlen]
    obtain ⟨hroom, hnone⟩ := OwnT.room (n := n) hlen (by rw [← hlen]; exact ho2)
    have hbs := OwnT.base (by rw [← hlen]; exact ho2 : OwnT w2 w1.heap.size (.slice Ag n cg) ts)
    have HAG := Lib.hid (show Ag = none ∨ ∃ b, Ag = some ⟨b, 0, none⟩ by
      rcases ho2.2 with ⟨h1, _⟩ | ⟨g, cap', cur, h1, _⟩
      · injection h1 with h1; exact .inl h1
      · injection h1 with h1; exact .inr ⟨g, h1⟩)
    have HRM := Lib.hid hroom
    have HNO := Lib.hid hnone
    have HBS := Lib.hid hbs
    have HTG := Lib.hid htg
    have HB2 := Lib.hid hb2
    have hz2' := hb2.size
    clear ho hg ho2 htg hb2 hsrc hlen hroom hnone hbs
    go_wp2_with fail
    refine (C1 Ag cg w2 HNO.out HTG.out).out.mono ?_
    rintro e w3 ⟨g, Ac, n', cc, rfl, hn', hg1, hrd, htc, hbc, hb3⟩
    obtain rfl : n' = n := hn'.symm.trans HN.out
    have HB3 := Lib.hid (HB2.out.trans (hb3.mono hz2'))
    have HRD := Lib.hid hrd
    have HTC := Lib.hid htc
    have HBC := Lib.hid hbc
    have HRM3 := Lib.hid (show RoomT w3 Ag n' by
      rcases HRM.out with h | ⟨b, cur, rfl, h1, h2⟩
      · exact .inl h
      · exact .inr ⟨b, cur, rfl, h1.below hb3 h1.lt, h2⟩)
    have hz3' := hb3.size
    clear hrd htc hbc hb3 hn'
    go_wp2_with fail
    go_loopw [7] (fun i wr => ∃ k : Nat, k ≤ n' ∧ i = .int .i64 k ∧ (∀ b off, Ag = some ⟨b, off, none⟩ → w3.grownBy wr (some b)) ∧ (Ag = none → wr = w3) ∧ RoomT wr Ag n') (fun i _ => n' - (intOf i).toNat)
    case atStart => exact ⟨0, Nat.zero_le _, rfl, fun b off _ => World.grownBy.refl _ _, fun _ => rfl, HRM3.out⟩
    case round =>
      obtain ⟨k, hk, rfl, hgr, heq, hrm⟩ := hrel
      by_cases hlt : k < n'
      · obtain ⟨b, cur, rfl, hblk, hsz⟩ := hrm.resolve_left (by omega)
        have HGR := Lib.hid (hgr b 0 rfl)
        have HBK := Lib.hid hblk
        have x0 := (Blk.cell hblk (k * 4)).trans (Array.getElem?_eq_getElem (by omega))
        have x1 := (Blk.cell hblk (k * 4 + 1)).trans (Array.getElem?_eq_getElem (by omega))
        have x2 := (Blk.cell hblk (k * 4 + 2)).trans (Array.getElem?_eq_getElem (by omega))
        have x3 := (Blk.cell hblk (k * 4 + 3)).trans (Array.getElem?_eq_getElem (by omega))
        have f0 := Blk.frozen hblk (k * 4)
        have f1 := Blk.frozen hblk (k * 4 + 1)
        have f2 := Blk.frozen hblk (k * 4 + 2)
        have f3 := Blk.frozen hblk (k * 4 + 3)
        generalize cur[k * 4]'(by omega) = y0 at x0
        generalize cur[k * 4 + 1]'(by omega) = y1 at x1
        generalize cur[k * 4 + 2]'(by omega) = y2 at x2
        generalize cur[k * 4 + 3]'(by omega) = y3 at x3
        have d1 : (k : Int) < (n' : Int) := by omega
        have d2 : (0 : Int) ≤ (k : Int) := by omega
        have hblk2 := Lib.hid hblk
        clear hgr heq hblk
        go_wp2_with fail
        refine ⟨⟨k + 1, by omega, by go_num, fun b' off h => ?_, fun h => (by cases h), .inr ⟨b, _, rfl, (((hblk2.out.set_ _ _).set_ _ _).set_ _ _).set_ _ _, by simpa using hsz⟩⟩, by simp [intOf]; omega⟩
        injection h with h
        injection h with h
        subst h
        exact only_setCell (only_setCell (only_setCell (only_setCell HGR.out (.inl rfl) _) (.inl rfl) _) (.inl rfl) _) (.inl rfl) _
      · obtain rfl : k = n' := by omega
        have hfin : Below w.heap.size w wr ∧ Rd wr g Ac k cc 0 ∧ ToksAt wr Ac ts := by
          rcases HAG.out with h | ⟨b, h⟩
          · rw [heq h]
            exact ⟨HB3.out, HRD.out, HTC.out⟩
          · have hg2 := hgr b 0 h
            obtain ⟨q1, q2⟩ := HBS.out b 0 h
            refine ⟨HB3.out.grown hg2 (by omega) (fun j hj => by injection hj with hj; omega), Blk.grown HRD.out hg2 (fun e => by injection e with e; omega), HTC.out.only hg2 fun b' off h1 h2 => ?_⟩
            have := (HBC.out b' off h1 h2).1
            omega
        obtain ⟨hb4, hrd4, htc4⟩ := hfin
        clear hgr heq hrm hlt
        go_wp2_with fail
        obtain ⟨wo, ewo⟩ : ∃ wo : World, wo = wr := ⟨_, rfl⟩
        subst ewo
        go_loopw [8, 9, 10, 11] (fun va vi v10 v11 wr => ∃ i a : Nat, i ≤ m ∧ a ≤ k ∧ vi = .int .i64 i ∧ va = .int .i64 a ∧ Below w.heap.size w wr ∧ Rd wr g Ac k cc a ∧ ToksAt wr Ac ts) (fun _ vi _ _ _ => m - (intOf vi).toNat)
        case atStart => exact ⟨0, 0, Nat.zero_le _, Nat.zero_le _, rfl, rfl, hb4, hrd4, htc4⟩
        case round =>
          obtain ⟨i, a, him, hak, rfl, rfl, hb5, hrd5, htc5⟩ := hrel
          have HB5 := Lib.hid hb5
          have HRD5 := Lib.hid hrd5
          have HTC5 := Lib.hid htc5
          have HTL := Lib.hid (HT.out.below hb5)
          have HSL := Lib.hid (HS.out.below hb5)
          clear hb5 hrd5 htc5 hb4 hrd4 htc4
          by_cases hlt : i < m
          · obtain ⟨b2, o2, rfl, hb2lt, hst⟩ := HSL.out.resolve_left (by rintro rfl; have := HM.out; simp at this; omega)
            have st0 := hst i (by rw [HM.out]; exact hlt)
            generalize ss.getD i ByteArray.empty = s at st0
            have d1 : (i : Int) < (m : Int) := by omega
            have d2 : (0 : Int) ≤ (i : Int) := by omega
            have HST := Lib.hid st0
            rcases Nat.lt_or_ge a k with hak2 | hak2
            · obtain ⟨⟨tk, tt, tn, ta⟩, hs⟩ : ∃ t, ts[a]? = some t := ⟨_, List.getElem?_eq_getElem (by rw [HN.out]; exact hak2)⟩
              have hp : peekS ts a = ⟨tk, tt, tn, ta⟩ := by unfold peekS; rw [hs]
              obtain ⟨b1, o1, rfl, hb1lt, hc1⟩ := HTL.out.resolve_left (by rintro rfl; simp at hs)
              obtain ⟨x0, x1, x2, x3⟩ := hc1 a _ hs
              simp only at x0 x1 x2 x3
              have d3 : (a : Int) < (k : Int) := by omega
              have d4 : (0 : Int) ≤ (a : Int) := by omega
              have HP := Lib.hid hp
              clear hs hp hc1
              go_wp2_with fail
              have hN0 : Below wr.heap.size wr (wr.alloc (.cells #[.int .u8 tk, .string tt, .int .i64 tn, .int .i64 ta] 67)) := (Below.refl _ _).alloc (Nat.le_refl _) _
              have HWN := Lib.hid (HB5.out.alloc HB5.out.size (.cells #[.int .u8 tk, .string tt, .int .i64 tn, .int .i64 ta] 67))
              have HRN := Lib.hid (HRD5.out.below hN0 HRD5.out.lt)
              have HTN := Lib.hid (HTC5.out.below hN0)
              have HSN := Lib.hid ((hN0.cell (p := ⟨b2, o2 + i, none⟩) hb2lt).trans HST.out)
              have HNW := Lib.hid (Blk.new wr 67 #[.int .u8 tk, .string tt, .int .i64 tn, .int .i64 ta])
              have hgw : g < wr.heap.size := HRD5.out.lt
              have hb2w : b2 < (wr.alloc (.cells #[.int .u8 tk, .string tt, .int .i64 tn, .int .i64 ta] 67)).heap.size := Nat.lt_of_lt_of_le hb2lt hN0.size
              have hgw2 : wr.heap.size < (wr.alloc (.cells #[.int .u8 tk, .string tt, .int .i64 tn, .int .i64 ta] 67)).heap.size := by simp
              generalize wr.alloc (.cells #[.int .u8 tk, .string tt, .int .i64 tn, .int .i64 ta] 67) = wN at *
              clear hN0 HRD5 HTC5 HST HTL HSL st0
              have hgN : g < wN.heap.size := by omega
              have HSQ := Lib.hid (show ∀ w', Below wN.heap.size wN w' → (w'.cell? ⟨wr.heap.size, 0, none⟩ = some (.int .u8 tk) ∧ w'.cell? ⟨wr.heap.size, 1, none⟩ = some (.string tt) ∧ w'.cell? ⟨wr.heap.size, 2, none⟩ = some (.int .i64 tn) ∧ w'.cell? ⟨wr.heap.size, 3, none⟩ = some (.int .i64 ta) ∧ w'.cell? ⟨b2, o2 + i, none⟩ = some (.string s) ∧ Below wN.heap.size wN w') from fun w' hb => by
                obtain ⟨y0, y1, y2, y3, _⟩ := blk4 (HNW.out.below hb hgw2)
                exact ⟨y0, y1, y2, y3, (hb.cell (p := ⟨b2, o2 + i, none⟩) hb2w).trans HSN.out, hb⟩)
              have CP := fun w' (hb : Below wN.heap.size wN w') => Lib.hid (Peek_any g k cc a Ac ts w' HN.out (by omega) hak (HRN.out.below hb hgN) (HTN.out.below hb))
              have CI := fun w' (hb : Below wN.heap.size wN w') => Lib.hid (Is_of (.pointer (some ⟨g, 0, none⟩)) (peekS ts a) s w' (fun w1 hb1 => Peek_any g k cc a Ac ts w1 HN.out (by omega) hak (HRN.out.below (hb.trans (hb1.mono hb.size)) hgN) (HTN.out.below (hb.trans (hb1.mono hb.size)))))
              have CT := fun w' (hb : Below wN.heap.size wN w') => Lib.hid (Take_any g k cc a Ac ts w' HN.out (by omega) hak (HRN.out.below hb hgN) (HTN.out.below hb))
              have CS := fun w' (hb : Below wN.heap.size wN w') => Lib.hid (Skip_any g k cc a Ac ts s w' HN.out (by omega) hak (HRN.out.below hb hgN) (HTN.out.below hb))
              rw [HP.out] at CP CI CT CS
              obtain ⟨y0, y1, y2, y3, _⟩ := blk4 HNW.out
              have y4 := HSN.out
              rcases tok_three ⟨tk, tt, tn, ta⟩ s with ⟨q1, q3⟩ | ⟨q1, q2, q3⟩ | ⟨q1, q2, q3⟩
              all_goals
                unfold SkipLeft at CS
                rw [q3] at CI CS
                go_wp2_with fail
                go_quiet (fail)
                rename Nat => nq
                have hBq := below_drewN (Below.refl wN.heap.size wN) nq
                have HBQ := Lib.hid hBq
                obtain ⟨y0, y1, y2, y3, y4, _⟩ := HSQ.out _ hBq
                generalize wN.drewN nq = wq at *
                clear hBq
                go_wp2_with fail
                unfold TakeLeft at CT
                simp only [Tok.val] at CP CT
                go_region_held3 (fun w' => w'.cell? ⟨wr.heap.size, 0, none⟩ = some (.int .u8 tk) ∧ w'.cell? ⟨wr.heap.size, 1, none⟩ = some (.string tt) ∧ w'.cell? ⟨wr.heap.size, 2, none⟩ = some (.int .i64 tn) ∧ w'.cell? ⟨wr.heap.size, 3, none⟩ = some (.int .i64 ta) ∧ w'.cell? ⟨b2, o2 + i, none⟩ = some (.string s) ∧ Below wN.heap.size wN w') ((refine HSQ.out _ ?_; first | exact HBZ2.out | exact HBZ2.out.drew | exact HBZ.out | exact HBZ.out.drew | exact HBQ.out | exact HBQ.out.drew)) ((first | (go_at_call 41; refine (CP _ HBQ.out.drew).out.mono ?_; rintro e wz ⟨rfl, hbz⟩; have HBZ := Lib.hid (HBQ.out.drew.trans (hbz.mono HBQ.out.drew.size)); clear hbz) | (go_at_call 42; refine (CI _ (by first | exact HBZ.out | exact HBZ.out.drew)).out.mono ?_; rintro e wz2 ⟨rfl, hbz⟩; have HBZ2 := Lib.hid (HBZ.out.trans (hbz.mono HBZ.out.size)); clear hbz)))
                clear y0 y1 y2 y3 y4 CP CI
                obtain ⟨y0, y1, y2, y3, y4, _⟩ := HSQ.out _ HBZ2.out
                have HSK := Lib.hid (show ∀ w', wN.grownBy w' (some g) → (w'.cell? ⟨wr.heap.size, 0, none⟩ = some (.int .u8 tk) ∧ w'.cell? ⟨wr.heap.size, 1, none⟩ = some (.string tt) ∧ w'.cell? ⟨wr.heap.size, 2, none⟩ = some (.int .i64 tn) ∧ w'.cell? ⟨wr.heap.size, 3, none⟩ = some (.int .i64 ta) ∧ wN.grownBy w' (some g)) from fun w' hb => by
                  obtain ⟨y0, y1, y2, y3, _⟩ := blk4 (HNW.out.grown hb (fun e => by injection e with e; omega))
                  exact ⟨y0, y1, y2, y3, hb⟩)
                rcases Nat.mod_two_eq_zero_or_one i with hpar | hpar
                · have p1 : (i : Int) % 2 = 0 := by omega
                  go_wp2_with fail
                  refine (CS _ HBZ2.out).out.mono ?_
                  rintro e ws ⟨rfl, hgs, hrs⟩
                  have HGS := Lib.hid (only_trans (only_below HBZ2.out) hgs)
                  have HRS := Lib.hid hrs
                  clear hgs hrs
                  go_wp2_with fail
                  have hfB : Below w.heap.size w ws := HWN.out.grown HGS.out (by have := HWN.out.size; omega) (fun j hj => by injection hj with hj; omega)
                  have hfT : ToksAt ws Ac ts := HTN.out.only HGS.out (fun b off h1 h2 => by have := (HBC.out b off h1 h2).2; omega)
                  first
                    | exact ⟨⟨i + 1, a, by omega, by omega, by go_num, rfl, hfB, by simpa using HRS.out, hfT⟩, by simp [intOf]; omega⟩
                    | exact ⟨⟨i + 1, a + 1, by omega, by omega, by go_num, by go_num, hfB, by (have h := HRS.out; rw [if_pos (by trivial), show min (a + 1) k = a + 1 by omega] at h; exact h), hfT⟩, by simp [intOf]; omega⟩
                · have p1 : (i : Int) % 2 = 1 := by omega
                  go_wp2_with fail
                  go_region_held3 (fun w' => w'.cell? ⟨wr.heap.size, 0, none⟩ = some (.int .u8 tk) ∧ w'.cell? ⟨wr.heap.size, 1, none⟩ = some (.string tt) ∧ w'.cell? ⟨wr.heap.size, 2, none⟩ = some (.int .i64 tn) ∧ w'.cell? ⟨wr.heap.size, 3, none⟩ = some (.int .i64 ta) ∧ wN.grownBy w' (some g)) ((refine HSK.out _ ?_; first | exact HGT.out | exact only_drew HGT.out | exact only_below HBZ2.out | exact only_drew (only_below HBZ2.out))) ((go_at_call 43; refine (CT _ HBZ2.out.drew).out.mono ?_; rintro e wt ⟨rfl, hgt, hrt⟩; have HGT := Lib.hid (only_trans (only_below HBZ2.out.drew) hgt); have HRT := Lib.hid hrt; clear hgt hrt))
                  go_wp2_with fail
                  have hfB : Below w.heap.size w wt := HWN.out.grown HGT.out (by have := HWN.out.size; omega) (fun j hj => by injection hj with hj; omega)
                  have hfT : ToksAt wt Ac ts := HTN.out.only HGT.out (fun b off h1 h2 => by have := (HBC.out b off h1 h2).2; omega)
                  have h := HRT.out
                  first
                    | (rw [show min (a + 1) k = a + 1 by omega] at h
                       exact ⟨⟨i + 1, a + 1, by omega, by omega, by go_num, by go_num, hfB, h, hfT⟩, by simp [intOf]; omega⟩)
                    | (rw [show min (a + 1) k = a by omega] at h
                       exact ⟨⟨i + 1, a, by omega, by omega, by go_num, rfl, hfB, h, hfT⟩, by simp [intOf]; omega⟩)
            · obtain rfl : a = k := by omega
              rcases Nat.eq_zero_or_pos a with h0 | h0
              · obtain rfl : ts = [] := List.eq_nil_of_length_eq_zero (by rw [HN.out]; exact h0)
                have hp : peekS [] a = ⟨4, ⟨#[]⟩, 0, 0⟩ := rfl
                have d3 : ¬ (a : Int) < (a : Int) := by omega
                have d4 : ¬ (0 : Int) < (a : Int) := by omega
                have d7 : decide ((0 : Int) < (a : Int)) = false := decide_eq_false d4
                have HP := Lib.hid hp
                have d8 : decide (0 < a) = false := decide_eq_false (by omega)
                clear hp h0 d4
                go_wp2_with fail
                have hN0 : Below wr.heap.size wr (wr.alloc (.cells #[.int .u8 4, .string ⟨#[]⟩, .int .i64 0, .int .i64 0] 67)) := (Below.refl _ _).alloc (Nat.le_refl _) _
                have HWN := Lib.hid (HB5.out.alloc HB5.out.size (.cells #[.int .u8 4, .string ⟨#[]⟩, .int .i64 0, .int .i64 0] 67))
                have HRN := Lib.hid (HRD5.out.below hN0 HRD5.out.lt)
                have HTN := Lib.hid (HTC5.out.below hN0)
                have HSN := Lib.hid ((hN0.cell (p := ⟨b2, o2 + i, none⟩) hb2lt).trans HST.out)
                have HNW := Lib.hid (Blk.new wr 67 #[.int .u8 4, .string ⟨#[]⟩, .int .i64 0, .int .i64 0])
                have hgw : g < wr.heap.size := HRD5.out.lt
                have hb2w : b2 < (wr.alloc (.cells #[.int .u8 4, .string ⟨#[]⟩, .int .i64 0, .int .i64 0] 67)).heap.size := Nat.lt_of_lt_of_le hb2lt hN0.size
                have hgw2 : wr.heap.size < (wr.alloc (.cells #[.int .u8 4, .string ⟨#[]⟩, .int .i64 0, .int .i64 0] 67)).heap.size := by simp
                generalize wr.alloc (.cells #[.int .u8 4, .string ⟨#[]⟩, .int .i64 0, .int .i64 0] 67) = wN at *
                clear hN0 HRD5 HTC5 HST HTL HSL st0
                have hgN : g < wN.heap.size := by omega
                have HSQ := Lib.hid (show ∀ w', Below wN.heap.size wN w' → (w'.cell? ⟨wr.heap.size, 0, none⟩ = some (.int .u8 4) ∧ w'.cell? ⟨wr.heap.size, 1, none⟩ = some (.string ⟨#[]⟩) ∧ w'.cell? ⟨wr.heap.size, 2, none⟩ = some (.int .i64 0) ∧ w'.cell? ⟨wr.heap.size, 3, none⟩ = some (.int .i64 0) ∧ w'.cell? ⟨b2, o2 + i, none⟩ = some (.string s) ∧ Below wN.heap.size wN w') from fun w' hb => by
                  obtain ⟨y0, y1, y2, y3, _⟩ := blk4 (HNW.out.below hb hgw2)
                  exact ⟨y0, y1, y2, y3, (hb.cell (p := ⟨b2, o2 + i, none⟩) hb2w).trans HSN.out, hb⟩)
                have CP := fun w' (hb : Below wN.heap.size wN w') => Lib.hid (Peek_any g a cc a Ac [] w' HN.out (by omega) hak (HRN.out.below hb hgN) (HTN.out.below hb))
                have CI := fun w' (hb : Below wN.heap.size wN w') => Lib.hid (Is_of (.pointer (some ⟨g, 0, none⟩)) (peekS [] a) s w' (fun w1 hb1 => Peek_any g a cc a Ac [] w1 HN.out (by omega) hak (HRN.out.below (hb.trans (hb1.mono hb.size)) hgN) (HTN.out.below (hb.trans (hb1.mono hb.size)))))
                have CT := fun w' (hb : Below wN.heap.size wN w') => Lib.hid (Take_any g a cc a Ac [] w' HN.out (by omega) hak (HRN.out.below hb hgN) (HTN.out.below hb))
                have CS := fun w' (hb : Below wN.heap.size wN w') => Lib.hid (Skip_any g a cc a Ac [] s w' HN.out (by omega) hak (HRN.out.below hb hgN) (HTN.out.below hb))
                rw [HP.out] at CP CI CT CS
                obtain ⟨y0, y1, y2, y3, _⟩ := blk4 HNW.out
                have y4 := HSN.out
                rcases tok_four 0 0 s with ⟨q1, q3⟩
                all_goals
                  unfold SkipLeft at CS
                  rw [q3] at CI CS
                  go_wp2_with fail
                  go_quiet (fail)
                  rename Nat => nq
                  have hBq := below_drewN (Below.refl wN.heap.size wN) nq
                  have HBQ := Lib.hid hBq
                  obtain ⟨y0, y1, y2, y3, y4, _⟩ := HSQ.out _ hBq
                  generalize wN.drewN nq = wq at *
                  clear hBq
                  go_wp2_with fail
                  unfold TakeLeft at CT
                  simp only [Tok.val] at CP CT
                  go_region_held3 (fun w' => w'.cell? ⟨wr.heap.size, 0, none⟩ = some (.int .u8 4) ∧ w'.cell? ⟨wr.heap.size, 1, none⟩ = some (.string ⟨#[]⟩) ∧ w'.cell? ⟨wr.heap.size, 2, none⟩ = some (.int .i64 0) ∧ w'.cell? ⟨wr.heap.size, 3, none⟩ = some (.int .i64 0) ∧ w'.cell? ⟨b2, o2 + i, none⟩ = some (.string s) ∧ Below wN.heap.size wN w') ((refine HSQ.out _ ?_; first | exact HBZ2.out | exact HBZ2.out.drew | exact HBZ.out | exact HBZ.out.drew | exact HBQ.out | exact HBQ.out.drew)) ((first | (go_at_call 41; refine (CP _ HBQ.out.drew).out.mono ?_; rintro e wz ⟨rfl, hbz⟩; have HBZ := Lib.hid (HBQ.out.drew.trans (hbz.mono HBQ.out.drew.size)); clear hbz) | (go_at_call 42; refine (CI _ (by first | exact HBZ.out | exact HBZ.out.drew)).out.mono ?_; rintro e wz2 ⟨rfl, hbz⟩; have HBZ2 := Lib.hid (HBZ.out.trans (hbz.mono HBZ.out.size)); clear hbz)))
                  clear y0 y1 y2 y3 y4 CP CI
                  obtain ⟨y0, y1, y2, y3, y4, _⟩ := HSQ.out _ HBZ2.out
                  have HSK := Lib.hid (show ∀ w', wN.grownBy w' (some g) → (w'.cell? ⟨wr.heap.size, 0, none⟩ = some (.int .u8 4) ∧ w'.cell? ⟨wr.heap.size, 1, none⟩ = some (.string ⟨#[]⟩) ∧ w'.cell? ⟨wr.heap.size, 2, none⟩ = some (.int .i64 0) ∧ w'.cell? ⟨wr.heap.size, 3, none⟩ = some (.int .i64 0) ∧ wN.grownBy w' (some g)) from fun w' hb => by
                    obtain ⟨y0, y1, y2, y3, _⟩ := blk4 (HNW.out.grown hb (fun e => by injection e with e; omega))
                    exact ⟨y0, y1, y2, y3, hb⟩)
                  rcases Nat.mod_two_eq_zero_or_one i with hpar | hpar
                  · have p1 : (i : Int) % 2 = 0 := by omega
                    go_wp2_with fail
                    refine (CS _ HBZ2.out).out.mono ?_
                    rintro e ws ⟨rfl, hgs, hrs⟩
                    have HGS := Lib.hid (only_trans (only_below HBZ2.out) hgs)
                    have HRS := Lib.hid hrs
                    clear hgs hrs
                    go_wp2_with fail
                    have hfB : Below w.heap.size w ws := HWN.out.grown HGS.out (by have := HWN.out.size; omega) (fun j hj => by injection hj with hj; omega)
                    have hfT : ToksAt ws Ac [] := HTN.out.only HGS.out (fun b off h1 h2 => by have := (HBC.out b off h1 h2).2; omega)
                    first
                      | exact ⟨⟨i + 1, a, by omega, by omega, by go_num, rfl, hfB, by simpa using HRS.out, hfT⟩, by simp [intOf]; omega⟩
                      | exact ⟨⟨i + 1, a + 1, by omega, by omega, by go_num, by go_num, hfB, by (have h := HRS.out; rw [if_pos (by trivial), show min (a + 1) a = a + 1 by omega] at h; exact h), hfT⟩, by simp [intOf]; omega⟩
                  · have p1 : (i : Int) % 2 = 1 := by omega
                    go_wp2_with fail
                    go_region_held3 (fun w' => w'.cell? ⟨wr.heap.size, 0, none⟩ = some (.int .u8 4) ∧ w'.cell? ⟨wr.heap.size, 1, none⟩ = some (.string ⟨#[]⟩) ∧ w'.cell? ⟨wr.heap.size, 2, none⟩ = some (.int .i64 0) ∧ w'.cell? ⟨wr.heap.size, 3, none⟩ = some (.int .i64 0) ∧ wN.grownBy w' (some g)) ((refine HSK.out _ ?_; first | exact HGT.out | exact only_drew HGT.out | exact only_below HBZ2.out | exact only_drew (only_below HBZ2.out))) ((go_at_call 43; refine (CT _ HBZ2.out.drew).out.mono ?_; rintro e wt ⟨rfl, hgt, hrt⟩; have HGT := Lib.hid (only_trans (only_below HBZ2.out.drew) hgt); have HRT := Lib.hid hrt; clear hgt hrt))
                    go_wp2_with fail
                    have hfB : Below w.heap.size w wt := HWN.out.grown HGT.out (by have := HWN.out.size; omega) (fun j hj => by injection hj with hj; omega)
                    have hfT : ToksAt wt Ac [] := HTN.out.only HGT.out (fun b off h1 h2 => by have := (HBC.out b off h1 h2).2; omega)
                    have h := HRT.out
                    first
                      | (rw [show min (a + 1) a = a + 1 by omega] at h
                         exact ⟨⟨i + 1, a + 1, by omega, by omega, by go_num, by go_num, hfB, h, hfT⟩, by simp [intOf]; omega⟩)
                      | (rw [show min (a + 1) a = a by omega] at h
                         exact ⟨⟨i + 1, a, by omega, by omega, by go_num, rfl, hfB, h, hfT⟩, by simp [intOf]; omega⟩)
              · obtain ⟨⟨tk, tt, tn, ta⟩, hs⟩ : ∃ t, ts[a - 1]? = some t := ⟨_, List.getElem?_eq_getElem (by rw [HN.out]; omega)⟩
                have hp : peekS ts a = ⟨4, ⟨#[]⟩, 0, ta⟩ := by
                  unfold peekS
                  rw [List.getElem?_eq_none (by rw [HN.out]; exact Nat.le_refl _), List.getLast?_eq_getElem?, HN.out, hs]
                obtain ⟨b1, o1, rfl, hb1lt, hc1⟩ := HTL.out.resolve_left (by rintro rfl; simp at hs)
                obtain ⟨_, _, _, x3⟩ := hc1 (a - 1) _ hs
                simp only at x3
                have d3 : ¬ (a : Int) < (a : Int) := by omega
                have d4 : (0 : Int) ≤ (a : Int) := by omega
                have d5 : (0 : Int) < (a : Int) := by omega
                have d6 : (1 : Int) ≤ (a : Int) := by omega
                have hw0 : IntKind.i64.wrap ((a : Int) - 1) = (a : Int) - 1 := IntWalk.i64_in _ (by omega)
                have hw2 : ((a : Int) - 1).toNat = a - 1 := by omega
                have HP := Lib.hid hp
                clear hs hp hc1
                go_wp2_with fail
                have hN0 : Below wr.heap.size wr (wr.alloc (.cells #[.int .u8 4, .string ⟨#[]⟩, .int .i64 0, .int .i64 ta] 67)) := (Below.refl _ _).alloc (Nat.le_refl _) _
                have HWN := Lib.hid (HB5.out.alloc HB5.out.size (.cells #[.int .u8 4, .string ⟨#[]⟩, .int .i64 0, .int .i64 ta] 67))
                have HRN := Lib.hid (HRD5.out.below hN0 HRD5.out.lt)
                have HTN := Lib.hid (HTC5.out.below hN0)
                have HSN := Lib.hid ((hN0.cell (p := ⟨b2, o2 + i, none⟩) hb2lt).trans HST.out)
                have HNW := Lib.hid (Blk.new wr 67 #[.int .u8 4, .string ⟨#[]⟩, .int .i64 0, .int .i64 ta])
                have hgw : g < wr.heap.size := HRD5.out.lt
                have hb2w : b2 < (wr.alloc (.cells #[.int .u8 4, .string ⟨#[]⟩, .int .i64 0, .int .i64 ta] 67)).heap.size := Nat.lt_of_lt_of_le hb2lt hN0.size
                have hgw2 : wr.heap.size < (wr.alloc (.cells #[.int .u8 4, .string ⟨#[]⟩, .int .i64 0, .int .i64 ta] 67)).heap.size := by simp
                generalize wr.alloc (.cells #[.int .u8 4, .string ⟨#[]⟩, .int .i64 0, .int .i64 ta] 67) = wN at *
                clear hN0 HRD5 HTC5 HST HTL HSL st0
                have hgN : g < wN.heap.size := by omega
                have HSQ := Lib.hid (show ∀ w', Below wN.heap.size wN w' → (w'.cell? ⟨wr.heap.size, 0, none⟩ = some (.int .u8 4) ∧ w'.cell? ⟨wr.heap.size, 1, none⟩ = some (.string ⟨#[]⟩) ∧ w'.cell? ⟨wr.heap.size, 2, none⟩ = some (.int .i64 0) ∧ w'.cell? ⟨wr.heap.size, 3, none⟩ = some (.int .i64 ta) ∧ w'.cell? ⟨b2, o2 + i, none⟩ = some (.string s) ∧ Below wN.heap.size wN w') from fun w' hb => by
                  obtain ⟨y0, y1, y2, y3, _⟩ := blk4 (HNW.out.below hb hgw2)
                  exact ⟨y0, y1, y2, y3, (hb.cell (p := ⟨b2, o2 + i, none⟩) hb2w).trans HSN.out, hb⟩)
                have CP := fun w' (hb : Below wN.heap.size wN w') => Lib.hid (Peek_any g a cc a Ac ts w' HN.out (by omega) hak (HRN.out.below hb hgN) (HTN.out.below hb))
                have CI := fun w' (hb : Below wN.heap.size wN w') => Lib.hid (Is_of (.pointer (some ⟨g, 0, none⟩)) (peekS ts a) s w' (fun w1 hb1 => Peek_any g a cc a Ac ts w1 HN.out (by omega) hak (HRN.out.below (hb.trans (hb1.mono hb.size)) hgN) (HTN.out.below (hb.trans (hb1.mono hb.size)))))
                have CT := fun w' (hb : Below wN.heap.size wN w') => Lib.hid (Take_any g a cc a Ac ts w' HN.out (by omega) hak (HRN.out.below hb hgN) (HTN.out.below hb))
                have CS := fun w' (hb : Below wN.heap.size wN w') => Lib.hid (Skip_any g a cc a Ac ts s w' HN.out (by omega) hak (HRN.out.below hb hgN) (HTN.out.below hb))
                rw [HP.out] at CP CI CT CS
                obtain ⟨y0, y1, y2, y3, _⟩ := blk4 HNW.out
                have y4 := HSN.out
                rcases tok_four 0 ta s with ⟨q1, q3⟩
                all_goals
                  unfold SkipLeft at CS
                  rw [q3] at CI CS
                  go_wp2_with fail
                  go_quiet (fail)
                  rename Nat => nq
                  have hBq := below_drewN (Below.refl wN.heap.size wN) nq
                  have HBQ := Lib.hid hBq
                  obtain ⟨y0, y1, y2, y3, y4, _⟩ := HSQ.out _ hBq
                  generalize wN.drewN nq = wq at *
                  clear hBq
                  go_wp2_with fail
                  unfold TakeLeft at CT
                  simp only [Tok.val] at CP CT
                  go_region_held3 (fun w' => w'.cell? ⟨wr.heap.size, 0, none⟩ = some (.int .u8 4) ∧ w'.cell? ⟨wr.heap.size, 1, none⟩ = some (.string ⟨#[]⟩) ∧ w'.cell? ⟨wr.heap.size, 2, none⟩ = some (.int .i64 0) ∧ w'.cell? ⟨wr.heap.size, 3, none⟩ = some (.int .i64 ta) ∧ w'.cell? ⟨b2, o2 + i, none⟩ = some (.string s) ∧ Below wN.heap.size wN w') ((refine HSQ.out _ ?_; first | exact HBZ2.out | exact HBZ2.out.drew | exact HBZ.out | exact HBZ.out.drew | exact HBQ.out | exact HBQ.out.drew)) ((first | (go_at_call 41; refine (CP _ HBQ.out.drew).out.mono ?_; rintro e wz ⟨rfl, hbz⟩; have HBZ := Lib.hid (HBQ.out.drew.trans (hbz.mono HBQ.out.drew.size)); clear hbz) | (go_at_call 42; refine (CI _ (by first | exact HBZ.out | exact HBZ.out.drew)).out.mono ?_; rintro e wz2 ⟨rfl, hbz⟩; have HBZ2 := Lib.hid (HBZ.out.trans (hbz.mono HBZ.out.size)); clear hbz)))
                  clear y0 y1 y2 y3 y4 CP CI
                  obtain ⟨y0, y1, y2, y3, y4, _⟩ := HSQ.out _ HBZ2.out
                  have HSK := Lib.hid (show ∀ w', wN.grownBy w' (some g) → (w'.cell? ⟨wr.heap.size, 0, none⟩ = some (.int .u8 4) ∧ w'.cell? ⟨wr.heap.size, 1, none⟩ = some (.string ⟨#[]⟩) ∧ w'.cell? ⟨wr.heap.size, 2, none⟩ = some (.int .i64 0) ∧ w'.cell? ⟨wr.heap.size, 3, none⟩ = some (.int .i64 ta) ∧ wN.grownBy w' (some g)) from fun w' hb => by
                    obtain ⟨y0, y1, y2, y3, _⟩ := blk4 (HNW.out.grown hb (fun e => by injection e with e; omega))
                    exact ⟨y0, y1, y2, y3, hb⟩)
                  rcases Nat.mod_two_eq_zero_or_one i with hpar | hpar
                  · have p1 : (i : Int) % 2 = 0 := by omega
                    go_wp2_with fail
                    refine (CS _ HBZ2.out).out.mono ?_
                    rintro e ws ⟨rfl, hgs, hrs⟩
                    have HGS := Lib.hid (only_trans (only_below HBZ2.out) hgs)
                    have HRS := Lib.hid hrs
                    clear hgs hrs
                    go_wp2_with fail
                    have hfB : Below w.heap.size w ws := HWN.out.grown HGS.out (by have := HWN.out.size; omega) (fun j hj => by injection hj with hj; omega)
                    have hfT : ToksAt ws Ac ts := HTN.out.only HGS.out (fun b off h1 h2 => by have := (HBC.out b off h1 h2).2; omega)
                    first
                      | exact ⟨⟨i + 1, a, by omega, by omega, by go_num, rfl, hfB, by simpa using HRS.out, hfT⟩, by simp [intOf]; omega⟩
                      | exact ⟨⟨i + 1, a + 1, by omega, by omega, by go_num, by go_num, hfB, by (have h := HRS.out; rw [if_pos (by trivial), show min (a + 1) a = a + 1 by omega] at h; exact h), hfT⟩, by simp [intOf]; omega⟩
                  · have p1 : (i : Int) % 2 = 1 := by omega
                    go_wp2_with fail
                    go_region_held3 (fun w' => w'.cell? ⟨wr.heap.size, 0, none⟩ = some (.int .u8 4) ∧ w'.cell? ⟨wr.heap.size, 1, none⟩ = some (.string ⟨#[]⟩) ∧ w'.cell? ⟨wr.heap.size, 2, none⟩ = some (.int .i64 0) ∧ w'.cell? ⟨wr.heap.size, 3, none⟩ = some (.int .i64 ta) ∧ wN.grownBy w' (some g)) ((refine HSK.out _ ?_; first | exact HGT.out | exact only_drew HGT.out | exact only_below HBZ2.out | exact only_drew (only_below HBZ2.out))) ((go_at_call 43; refine (CT _ HBZ2.out.drew).out.mono ?_; rintro e wt ⟨rfl, hgt, hrt⟩; have HGT := Lib.hid (only_trans (only_below HBZ2.out.drew) hgt); have HRT := Lib.hid hrt; clear hgt hrt))
                    go_wp2_with fail
                    have hfB : Below w.heap.size w wt := HWN.out.grown HGT.out (by have := HWN.out.size; omega) (fun j hj => by injection hj with hj; omega)
                    have hfT : ToksAt wt Ac ts := HTN.out.only HGT.out (fun b off h1 h2 => by have := (HBC.out b off h1 h2).2; omega)
                    have h := HRT.out
                    first
                      | (rw [show min (a + 1) a = a + 1 by omega] at h
                         exact ⟨⟨i + 1, a + 1, by omega, by omega, by go_num, by go_num, hfB, h, hfT⟩, by simp [intOf]; omega⟩)
                      | (rw [show min (a + 1) a = a by omega] at h
                         exact ⟨⟨i + 1, a, by omega, by omega, by go_num, rfl, hfB, h, hfT⟩, by simp [intOf]; omega⟩)
          · have N0 := fun w => Lib.hid (Peek_nil w)
            have N1 := fun w => Lib.hid (Take_nil w)
            have N2 := fun w => Lib.hid (Is_of (.pointer none) noneTok ⟨#[120]⟩ w (fun w1 _ => Peek_nil w1))
            have N3 := fun w => Lib.hid (Skip_nil ⟨#[120]⟩ w rfl)
            rw [show isS noneTok ⟨#[120]⟩ = false from rfl] at N2
            simp only [noneTok, Tok.val] at N0 N1
            go_wp2_with fail
            refine (N0 _).out.mono ?_
            rintro e v1 ⟨rfl, hb⟩
            have HV1 := Lib.hid (HB5.out.trans (hb.mono HB5.out.size))
            clear hb
            go_wp2_with fail
            refine (N1 _).out.mono ?_
            rintro e v2 ⟨rfl, hb⟩
            have HV2 := Lib.hid (HV1.out.trans (hb.mono HV1.out.size))
            clear hb
            go_wp2_with fail
            refine (N2 _).out.mono ?_
            rintro e v3 ⟨rfl, hb⟩
            have HV3 := Lib.hid (HV2.out.trans (hb.mono HV2.out.size))
            clear hb
            go_wp2_with fail
            refine (N3 _).out.mono ?_
            rintro e v4 ⟨rfl, hb⟩
            have HV4 := Lib.hid (HV3.out.trans (hb.mono HV3.out.size))
            clear hb
            go_wp2_with fail
            go_ret
            exact ⟨rfl, HV4.out⟩
  · clear hn hA ht hm hs
    rcases Nat.lt_or_ge 200 n with h5 | h5
    · have h5' : (200 : Int) < (n : Int) := by omega
      have d5 : decide ((200 : Int) < (n : Int)) = true := decide_eq_true h5'
      clear hgo
      go_enter Try.func14, Try.ntmps14
      go_wp2_with fail
      refine (C0 _).out.mono ?_
      rintro e w1 ⟨rfl, hb1⟩
      have HB1 := Lib.hid hb1
      clear hb1
      go_wp2_with fail
      go_ret
      exact ⟨rfl, HB1.out⟩
    · have h6 : 200 < m := by omega
      have h5' : ¬ (200 : Int) < (n : Int) := by omega
      have h6' : (200 : Int) < (m : Int) := by omega
      have d5 : decide ((200 : Int) < (n : Int)) = false := decide_eq_false h5'
      have d6 : decide ((200 : Int) < (m : Int)) = true := decide_eq_true h6'
      clear hgo
      go_enter Try.func14, Try.ntmps14
      go_wp2_with fail
      refine (C0 _).out.mono ?_
      rintro e w1 ⟨rfl, hb1⟩
      have HB1 := Lib.hid hb1
      clear hb1
      go_wp2_with fail
      go_ret
      exact ⟨rfl, HB1.out⟩
end Go.Proofs.Ytegekajbnecdfaa

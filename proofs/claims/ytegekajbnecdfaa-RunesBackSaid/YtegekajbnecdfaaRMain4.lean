/- Layer 1: the walk of the law RunesBack. -/
import Derived.Test.YtegekajbnecdfaaRMain3
namespace Go.Proofs.Ytegekajbnecdfaa
open Go.RowKit
theorem i32_info : (Try.prog.info? 21).map (fun i => (i.zero, i.size, i.bytes)) = some (some (.int .i32 0), 1, 4) := by kernel_rfl
theorem encS_lt (K : List Int) (j : Nat) : (encS (K.take (j + 1))).length ≤ (encS K).length := by
  have := encS_append (K.take (j + 1)) (K.drop (j + 1))
  rw [List.take_append_drop] at this
  rw [this, List.length_append]; omega
theorem NextT_of {l : List Int} {a : Nat} (h : a < l.length) (h0 : nx l a ≠ 0) : NextT l a = .tuple #[.int .i32 (rn l a), .int .i64 (nx l a : Nat), .int .u8 0] := by
  unfold NextT
  rw [if_neg (by omega), Int.toNat_natCast, next_eq]
  simp only
  rw [if_neg (by omega)]
set_option maxRecDepth 100000 in
set_option maxHeartbeats 4000000 in
theorem runesBack_walk (A : Option Addr) (len cap : Nat) (l : List Int) (w : World) (hl : l.length = len) (hs : SliceAt w .i32 A l) :
    Calls Try.prog 10 #[.slice A len cap] w fun e w' => e = .returned (.bool true) ∧ Below w.heap.size w w' := by
  have AL := fun w => Lib.hid (alive01 w)
  obtain ⟨i0, hi, hz0, hz1, hz2⟩ := info_parts i32_info
  by_cases h5 : 500 < len
  · clear hs hl
    go_enter Try.func10, Try.ntmps10
    go_wp2_with fail
    refine (AL _).out.mono ?_
    rintro e w' ⟨rfl, rfl⟩
    go_wp2_with fail
    go_ret
    exact ⟨rfl, (Below.refl _ _).alloc (Nat.le_refl _) _⟩
  have HS := Lib.hid hs
  have HL := Lib.hid hl
  clear hs hl
  go_enter Try.func10, Try.ntmps10
  go_wp2_with fail
  refine (AL _).out.mono ?_
  rintro e w' ⟨rfl, rfl⟩
  have H0 : Below w.heap.size w (w.alloc (.cells #[.int .u8 226, .int .u8 130, .int .u8 172] 5)) := (Below.refl _ _).alloc (Nat.le_refl _) _
  generalize w.alloc (.cells #[.int .u8 226, .int .u8 130, .int .u8 172] 5) = w0 at *
  go_wp2_with fail
  go_loopw [3, 4, 5] (fun vb vk i wr => ∃ k : Nat, k ≤ len ∧ i = .int .i64 k ∧ Below w.heap.size w wr ∧ Own wr w.heap.size 5 .u8 vb (encS (keptS l k)) ∧ Own wr w.heap.size 21 .i32 vk (keptS l k)) (fun _ _ i _ => len - (intOf i).toNat)
  case atStart => exact ⟨0, Nat.zero_le _, rfl, H0, Own.nil _ _ _ _, Own.nil _ _ _ _⟩
  case round =>
    obtain ⟨k, hk, rfl, hbel, hB, hown⟩ := hrel
    by_cases hlt : k < len
    · obtain ⟨b, off, rfl, hlb, hc⟩ := (HS.out.below_all hbel).cells (by rw [HL.out]; omega)
      have kc := hc k (by rw [HL.out]; exact hlt)
      obtain ⟨A1, cap1, rfl, h1, h2, hs1⟩ := hB.slice
      have hkl := kept_len l k
      have hel := encS_len (keptS l k)
      have hks := kept_succ (l := l) (i := k) (by rw [HL.out]; exact hlt)
      cases hI : isB (gb l k)
      · rw [hI, if_neg (by simp)] at hks
        have C := Lib.hid (Put_no A1 (encS (keptS l k)).length cap1 (gb l k) wr hI)
        have hrel' : Own wr w.heap.size 5 .u8 (.slice A1 (encS (keptS l k)).length cap1) (encS (keptS l (k + 1))) ∧ Own wr w.heap.size 21 .i32 u4 (keptS l (k + 1)) := by
          rw [hks]
          exact ⟨hB, hown⟩
        have HR := Lib.hid hrel'
        clear hrel' hown hB hs1 hks hI hc h1
        generalize (encS (keptS l k)).length = n at *
        generalize gb l k = r at *
        go_wp2_with fail
        refine C.out.mono ?_
        rintro e w' ⟨rfl, rfl⟩
        go_wp2_with fail
        go_roundw
        case rel => exact ⟨k + 1, by omega, by go_num, hbel, HR.out.1, HR.out.2⟩
        case measure => simp [intOf]; omega
      · rw [hI, if_pos rfl] at hks
        have C := Lib.hid (Put_any A1 (encS (keptS l k)).length cap1 (encS (keptS l k)) (gb l k) wr rfl (by omega) hs1 hI)
        have HK := Lib.hid hks
        have HO := Lib.hid hown
        clear hown hB hs1 hks hI hc h1
        generalize hn : (encS (keptS l k)).length = n at *
        generalize hr : gb l k = r at *
        clear hn hr
        go_wp2_with fail
        refine C.out.mono ?_
        rintro e w1 ⟨v, rfl, hown1, hb1⟩
        have hbel1 := hbel.trans (hb1.mono hbel.size)
        have hB1 := hown1.mono hbel.size
        have hown := HO.out.below hb1
        have kc1 : w1.cell? ⟨b, off + k, none⟩ = some (.int .i32 r) := (hb1.cell (p := ⟨b, off + k, none⟩) hlb).trans kc
        have HB1 := Lib.hid hB1
        clear hown1 hb1 hB1
        unfold Own at hown
        go_wp2_with (at_builtin; refine wpList_append_own _ rfl _ _ 57 rfl w.heap.size 21 i0 (.int .i32 0) 1 4 Try.underlying57 hi hz0 hz1 hz2 rfl (by decide) _ _ _ rfl (World.ownsRow.alloc hown _) ⟨w1.heap.size, 0, none⟩ 1 1 [.int .i32 r] rfl rfl ?c1 ?c2 ?c3 ?c4 ?c5 ?_)
        case c1 =>
          intro j u hj
          match j, hj with
          | 0, hj => simp at hj; subst hj; simp [Addr.add]
        case c2 => intro u hu; simp at hu; subst hu; rfl
        case c3 => unfold maxLen; omega
        case c4 => omega
        case c5 => have := hbel1.size; simp; omega
        intro v' w2 hown' hgrow _
        have ho2 : Own w2 w.heap.size 21 .i32 v' (keptS l k ++ [r]) := Own.one hown'
        have hb2 : Below w.heap.size w w2 := (hbel1.alloc hbel1.size _).grown hgrow (by have := hbel1.size; simp; omega) (fun k hk => (World.ownsRow.lt hown k hk).1)
        have hBB : Own w2 w.heap.size 5 .u8 v (encS (keptS l k) ++ bytesS r) := (HB1.out.alloc _).kept hgrow (HB1.out.ne (show Own w1 w.heap.size 21 .i32 u4 (keptS l k) from hown) (by decide))
        have HO2 := Lib.hid ho2
        have HBB := Lib.hid hBB
        clear ho2 hown hown' hgrow hBB
        go_wp2_with fail
        go_roundw
        case rel => exact ⟨k + 1, by omega, by go_num, hb2, by rw [HK.out, encS_snoc]; exact HBB.out, by rw [HK.out]; exact HO2.out⟩
        case measure => simp [intOf]; omega
    · obtain rfl : k = len := by omega
      have hok := kept_ok l k
      have hE := enc_all (keptS l k) hok
      have hel := encS_len (keptS l k)
      have hkl := kept_len l k
      have hB8 := byt_enc hok
      have hne := fun j (hj : j < (keptS l k).length) => next_enc hok hj
      have hlt1 := encS_lt (keptS l k)
      have hct : countTold (encS (keptS l k)) = .tuple #[.int .i64 (keptS l k).length, .int .u8 0] := by unfold countTold; rw [if_pos hE.1, hE.2]
      obtain ⟨A1, cap1, rfl, h1, h2, hs1⟩ := hB.slice
      obtain ⟨A2, cap2, rfl, g1, g2, hs2⟩ := hown.slice
      unfold maxLen at h2
      generalize keptS l k = K at *
      obtain ⟨m, hm⟩ : ∃ m, m = K.length := ⟨_, rfl⟩
      obtain ⟨n, hn⟩ : ∃ n, n = (encS K).length := ⟨_, rfl⟩
      have CC := Lib.hid (Count_any A1 n cap1 (encS K) wr hn.symm (by omega) (by omega) hB8 hs1)
      rw [hct] at CC
      have CK := fun w' hs => Lib.hid (Check_any A1 n cap1 (encS K) w' hn.symm (by omega) (by omega) hB8 hs)
      rw [hE.1] at CK
      rw [← hn] at h1 hel hlt1 ⊢
      rw [← hm] at hel hkl hne CC ⊢
      have HB8 := Lib.hid hB8
      have HNE := fun j hj => Lib.hid (hne j hj)
      have HLT := fun j => Lib.hid (hlt1 j)
      have HN := Lib.hid hn
      have HM := Lib.hid hm
      have HS1 := Lib.hid hs1
      have HS2 := Lib.hid hs2
      clear hE hB8 hne hlt1 hct hn hm hs1 hs2 hok hB hown
      go_wp2_with fail
      refine CC.out.mono ?_
      rintro e w' ⟨rfl, rfl⟩
      go_wp2_with fail
      obtain ⟨wo, rfl⟩ : ∃ wo : World, wo = wr := ⟨_, rfl⟩
      go_loop [10, 11] (fun x i => ∃ j : Nat, j ≤ m ∧ i = .int .i64 j ∧ x = .int .i64 (encS (K.take j)).length) (fun _ i => m - (intOf i).toNat)
      case atStart => exact ⟨0, Nat.zero_le _, rfl, by simp [encS]⟩
      case round =>
        clear CC
        obtain ⟨j, hj, rfl, rfl⟩ := hrel
        by_cases hlt : j < m
        · obtain ⟨e1, e2, e3⟩ := (HNE j hlt).out
          have hbl := bytes_len (gb K j)
          have hle := (HLT j).out
          obtain ⟨b1, o1, rfl, hb1, hc1⟩ := HS1.out.cells (by rw [← HN.out]; omega)
          obtain ⟨b2, o2, rfl, hb2, hc2⟩ := HS2.out.cells (by rw [← HM.out]; omega)
          have kj := hc2 j (by rw [← HM.out]; exact hlt)
          have NN := Next_in b1 o1 n cap1 (encS (K.take j)).length (encS K) wo HN.out.symm (by omega) h1 (by omega) HB8.out hc1
          rw [NextT_of (by rw [← HN.out]; omega) (by rw [e2]; omega), e1, e2] at NN
          have HNN := Lib.hid NN
          have H3 := Lib.hid e3
          clear NN e1 e2 hc1 hc2 HS1 CK
          generalize (encS (K.take j)).length = a at *
          generalize (bytesS (gb K j)).length = d at *
          generalize gb K j = r at *
          rw [e3] at hle
          clear e3
          go_wp2_with fail
          refine HNN.out.mono ?_
          rintro e w' ⟨rfl, rfl⟩
          go_wp2_with fail
          go_round
          case rel => exact ⟨j + 1, by omega, by go_num, by rw [H3.out]; go_num⟩
          case measure => simp [intOf]; omega
        · obtain rfl : j = m := by omega
          have ea : (encS (K.take j)).length = n := by rw [HM.out, List.take_length, HN.out]
          rw [ea]
          clear ea
          go_wp2_with fail
          refine (CK _ HS1.out).out.mono ?_
          rintro e w' ⟨rfl, rfl⟩
          go_wp2_with fail
          go_ret
          exact ⟨rfl, hbel⟩
end Go.Proofs.Ytegekajbnecdfaa

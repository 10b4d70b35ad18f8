/- Part 2 of the proof: RNext. Conditions: none. -/
import Derived.Test.YtahpnackkmbmgaaGreatM1
set_option linter.all false
set_option linter.unusedVariables false
set_option linter.unusedSimpArgs false
section
namespace Go.Proofs.YtahpnackkmbmgaaGreat
open Go.RowKit
def nxTold (r:Int × Int):Value:=.tuple #[.int .i32 r.1,.int .i64 r.2]
theorem and31 {c:Int} (h:0 ≤ c) (h':c ≤ 255):bits .and .i32 c 31 = c % 32:=bits_mask .i32 31 (by decide) wraps_i32 5 (by decide) c h (by omega)
theorem and15 {c:Int} (h:0 ≤ c) (h':c ≤ 255):bits .and .i32 c 15 = c % 16:=bits_mask .i32 31 (by decide) wraps_i32 4 (by decide) c h (by omega)
theorem and63 {c:Int} (h:0 ≤ c) (h':c ≤ 255):bits .and .u8 c 63 = c % 64:=bits_mask .u8 8 (by decide) wraps_u8 6 (by decide) c h (by omega)
theorem and7 {c:Int} (h:0 ≤ c) (h':c ≤ 255):bits .and .i32 c 7 = c % 8:=bits_mask .i32 31 (by decide) wraps_i32 3 (by decide) c h (by omega)
theorem next_z (b off len cap:Nat) (w:World) (hcap:len ≤ cap) (hm:len ≤ 9223372036854775807) (c0:Int) (b0:0 ≤ c0 ∧ c0 ≤ 255) (k0:w.cell? ⟨b,off,none⟩ = some (.int .u8 c0)) (h0:1 ≤ len) (HN:Hid (lenZ c0 = 0)) :
  Calls Tryz.prog 105 #[.slice (some ⟨b,off,none⟩) len cap] w fun e w'=>e = .returned (nxTold (0,0)) ∧ w = w':=by
 go_enter Tryz.func105,Tryz.ntmps105
 go_wp2_with fail
 refine (length_any _ _ b0.1 b0.2).mono ?_
 rintro e w' ⟨rfl,rfl⟩
 rw [HN.out]
 go_wp2_with fail
 go_ret2
 exact ⟨rfl,rfl⟩
set_option maxHeartbeats 1000000 in
theorem next_1ok (b off len cap:Nat) (w:World) (hcap:len ≤ cap) (hm:len ≤ 9223372036854775807) (c0:Int) (b0:0 ≤ c0 ∧ c0 ≤ 255) (k0:w.cell? ⟨b,off,none⟩ = some (.int .u8 c0)) (h0:1 ≤ len) (HN:Hid (lenZ c0 = 1)) (hB:isB (c0) = true) (hS:(sizeZ (c0) != 1) = false) :
  Calls Tryz.prog 105 #[.slice (some ⟨b,off,none⟩) len cap] w fun e w'=>e = .returned (nxTold (c0,1)) ∧ w = w':=by
 by_cases hcc:cap = 1
 ·subst hcc
  go_enter Tryz.func105,Tryz.ntmps105
  go_wp2_with fail
  refine (length_any _ _ b0.1 b0.2).mono ?_
  rintro e w' ⟨rfl,rfl⟩
  rw [HN.out]
  go_wp2_with fail
  refine wp_loop_rounds 1 ?_
  rw [rounds_succ]
  go_wp2_with fail
  refine (is_any _ _).mono ?_
  rintro e w' ⟨rfl,rfl⟩
  go_wp2_with fail
  refine (size_any _ _).mono ?_
  rintro e w' ⟨rfl,rfl⟩
  go_wp2_with fail
  go_ret2
  exact ⟨rfl,rfl⟩
 ·go_enter Tryz.func105,Tryz.ntmps105
  go_wp2_with fail
  refine (length_any _ _ b0.1 b0.2).mono ?_
  rintro e w' ⟨rfl,rfl⟩
  rw [HN.out]
  go_wp2_with fail
  refine wp_loop_rounds 1 ?_
  rw [rounds_succ]
  go_wp2_with fail
  refine (is_any _ _).mono ?_
  rintro e w' ⟨rfl,rfl⟩
  go_wp2_with fail
  refine (size_any _ _).mono ?_
  rintro e w' ⟨rfl,rfl⟩
  go_wp2_with fail
  go_ret2
  exact ⟨rfl,rfl⟩
theorem next_short2 (b off len cap:Nat) (w:World) (hcap:len ≤ cap) (hm:len ≤ 9223372036854775807) (c0:Int) (b0:0 ≤ c0 ∧ c0 ≤ 255) (k0:w.cell? ⟨b,off,none⟩ = some (.int .u8 c0)) (h0:1 ≤ len) (hs:len < 2) (HN:Hid (lenZ c0 = 2)) :
  Calls Tryz.prog 105 #[.slice (some ⟨b,off,none⟩) len cap] w fun e w'=>e = .returned (nxTold (0,0)) ∧ w = w':=by
 go_enter Tryz.func105,Tryz.ntmps105
 go_wp2_with fail
 refine (length_any _ _ b0.1 b0.2).mono ?_
 rintro e w' ⟨rfl,rfl⟩
 rw [HN.out]
 go_wp2_with fail
 go_ret2
 exact ⟨rfl,rfl⟩
set_option maxHeartbeats 1000000 in
theorem next_2bad1 (b off len cap:Nat) (w:World) (hcap:len ≤ cap) (hm:len ≤ 9223372036854775807) (c0:Int) (b0:0 ≤ c0 ∧ c0 ≤ 255) (k0:w.cell? ⟨b,off,none⟩ = some (.int .u8 c0)) (h0:2 ≤ len) (HN:Hid (lenZ c0 = 2)) (c1:Int) (k1:w.cell? ⟨b,off + 1,none⟩ = some (.int .u8 c1)) (b1:0 ≤ c1 ∧ c1 ≤ 255) (g1:(c1 / 64 != 2) = true) :
  Calls Tryz.prog 105 #[.slice (some ⟨b,off,none⟩) len cap] w fun e w'=>e = .returned (nxTold (0,0)) ∧ w = w':=by
 obtain ⟨r0,q0⟩:∃ r,bits .and .i32 c0 31 = r:=⟨_,rfl⟩
 have r0b:0 ≤ r0 ∧ r0 ≤ 31:=by rw [← q0,and31 b0.1 b0.2];omega
 go_enter Tryz.func105,Tryz.ntmps105
 go_wp2_with fail
 refine (length_any _ _ b0.1 b0.2).mono ?_
 rintro e w' ⟨rfl,rfl⟩
 rw [HN.out]
 go_wp2_with fail
 refine wp_loop_rounds 1 ?_
 rw [rounds_succ]
 go_wp2_with fail
 go_ret2
 exact ⟨rfl,rfl⟩
set_option maxHeartbeats 1000000 in
theorem next_2isno (b off len cap:Nat) (w:World) (hcap:len ≤ cap) (hm:len ≤ 9223372036854775807) (c0:Int) (b0:0 ≤ c0 ∧ c0 ≤ 255) (k0:w.cell? ⟨b,off,none⟩ = some (.int .u8 c0)) (h0:2 ≤ len) (HN:Hid (lenZ c0 = 2)) (c1:Int) (k1:w.cell? ⟨b,off + 1,none⟩ = some (.int .u8 c1)) (b1:0 ≤ c1 ∧ c1 ≤ 255) (g1:(c1 / 64 != 2) = false) (hB:isB ((c0 % 32) * 64 + c1 % 64) = false) :
  Calls Tryz.prog 105 #[.slice (some ⟨b,off,none⟩) len cap] w fun e w'=>e = .returned (nxTold (0,0)) ∧ w = w':=by
 obtain ⟨r0,q0⟩:∃ r,bits .and .i32 c0 31 = r:=⟨_,rfl⟩
 have r0b:0 ≤ r0 ∧ r0 ≤ 31:=by rw [← q0,and31 b0.1 b0.2];omega
 obtain ⟨d1,p1⟩:∃ r,bits .and .u8 c1 63 = r:=⟨_,rfl⟩
 have d1b:0 ≤ d1 ∧ d1 ≤ 63:=by rw [← p1,and63 b1.1 b1.2];omega
 have ER:(c0 % 32) * 64 + c1 % 64 = (r0 * 64 + d1):=by rw [← q0,and31 b0.1 b0.2,← p1,and63 b1.1 b1.2]
 rw [ER] at hB
 clear ER
 go_enter Tryz.func105,Tryz.ntmps105
 go_wp2_with fail
 refine (length_any _ _ b0.1 b0.2).mono ?_
 rintro e w' ⟨rfl,rfl⟩
 rw [HN.out]
 go_wp2_with fail
 refine wp_loop_rounds 2 ?_
 rw [rounds_succ]
 go_wp2_with fail
 rw [rounds_succ]
 go_wp2_with fail
 refine (is_any _ _).mono ?_
 rintro e w' ⟨rfl,rfl⟩
 go_wp2_with fail
 go_ret2
 exact ⟨rfl,rfl⟩
set_option maxHeartbeats 1000000 in
theorem next_2szno (b off len cap:Nat) (w:World) (hcap:len ≤ cap) (hm:len ≤ 9223372036854775807) (c0:Int) (b0:0 ≤ c0 ∧ c0 ≤ 255) (k0:w.cell? ⟨b,off,none⟩ = some (.int .u8 c0)) (h0:2 ≤ len) (HN:Hid (lenZ c0 = 2)) (c1:Int) (k1:w.cell? ⟨b,off + 1,none⟩ = some (.int .u8 c1)) (b1:0 ≤ c1 ∧ c1 ≤ 255) (g1:(c1 / 64 != 2) = false) (hB:isB ((c0 % 32) * 64 + c1 % 64) = true) (hS:(sizeZ ((c0 % 32) * 64 + c1 % 64) != 2) = true) :
  Calls Tryz.prog 105 #[.slice (some ⟨b,off,none⟩) len cap] w fun e w'=>e = .returned (nxTold (0,0)) ∧ w = w':=by
 obtain ⟨r0,q0⟩:∃ r,bits .and .i32 c0 31 = r:=⟨_,rfl⟩
 have r0b:0 ≤ r0 ∧ r0 ≤ 31:=by rw [← q0,and31 b0.1 b0.2];omega
 obtain ⟨d1,p1⟩:∃ r,bits .and .u8 c1 63 = r:=⟨_,rfl⟩
 have d1b:0 ≤ d1 ∧ d1 ≤ 63:=by rw [← p1,and63 b1.1 b1.2];omega
 have ER:(c0 % 32) * 64 + c1 % 64 = (r0 * 64 + d1):=by rw [← q0,and31 b0.1 b0.2,← p1,and63 b1.1 b1.2]
 rw [ER] at hB
 rw [ER] at hS
 clear ER
 go_enter Tryz.func105,Tryz.ntmps105
 go_wp2_with fail
 refine (length_any _ _ b0.1 b0.2).mono ?_
 rintro e w' ⟨rfl,rfl⟩
 rw [HN.out]
 go_wp2_with fail
 refine wp_loop_rounds 2 ?_
 rw [rounds_succ]
 go_wp2_with fail
 rw [rounds_succ]
 go_wp2_with fail
 refine (is_any _ _).mono ?_
 rintro e w' ⟨rfl,rfl⟩
 go_wp2_with fail
 refine (size_any _ _).mono ?_
 rintro e w' ⟨rfl,rfl⟩
 go_wp2_with fail
 go_ret2
 exact ⟨rfl,rfl⟩
set_option maxHeartbeats 1000000 in
theorem next_2ok (b off len cap:Nat) (w:World) (hcap:len ≤ cap) (hm:len ≤ 9223372036854775807) (c0:Int) (b0:0 ≤ c0 ∧ c0 ≤ 255) (k0:w.cell? ⟨b,off,none⟩ = some (.int .u8 c0)) (h0:2 ≤ len) (HN:Hid (lenZ c0 = 2)) (c1:Int) (k1:w.cell? ⟨b,off + 1,none⟩ = some (.int .u8 c1)) (b1:0 ≤ c1 ∧ c1 ≤ 255) (g1:(c1 / 64 != 2) = false) (hB:isB ((c0 % 32) * 64 + c1 % 64) = true) (hS:(sizeZ ((c0 % 32) * 64 + c1 % 64) != 2) = false) :
  Calls Tryz.prog 105 #[.slice (some ⟨b,off,none⟩) len cap] w fun e w'=>e = .returned (nxTold ((c0 % 32) * 64 + c1 % 64,2)) ∧ w = w':=by
 obtain ⟨r0,q0⟩:∃ r,bits .and .i32 c0 31 = r:=⟨_,rfl⟩
 have r0b:0 ≤ r0 ∧ r0 ≤ 31:=by rw [← q0,and31 b0.1 b0.2];omega
 obtain ⟨d1,p1⟩:∃ r,bits .and .u8 c1 63 = r:=⟨_,rfl⟩
 have d1b:0 ≤ d1 ∧ d1 ≤ 63:=by rw [← p1,and63 b1.1 b1.2];omega
 have ER:(c0 % 32) * 64 + c1 % 64 = (r0 * 64 + d1):=by rw [← q0,and31 b0.1 b0.2,← p1,and63 b1.1 b1.2]
 rw [ER] at hB
 rw [ER] at hS
 rw [ER]
 clear ER
 go_enter Tryz.func105,Tryz.ntmps105
 go_wp2_with fail
 refine (length_any _ _ b0.1 b0.2).mono ?_
 rintro e w' ⟨rfl,rfl⟩
 rw [HN.out]
 go_wp2_with fail
 refine wp_loop_rounds 2 ?_
 rw [rounds_succ]
 go_wp2_with fail
 rw [rounds_succ]
 go_wp2_with fail
 refine (is_any _ _).mono ?_
 rintro e w' ⟨rfl,rfl⟩
 go_wp2_with fail
 refine (size_any _ _).mono ?_
 rintro e w' ⟨rfl,rfl⟩
 go_wp2_with fail
 go_ret2
 exact ⟨rfl,rfl⟩
theorem next_short3 (b off len cap:Nat) (w:World) (hcap:len ≤ cap) (hm:len ≤ 9223372036854775807) (c0:Int) (b0:0 ≤ c0 ∧ c0 ≤ 255) (k0:w.cell? ⟨b,off,none⟩ = some (.int .u8 c0)) (h0:1 ≤ len) (hs:len < 3) (HN:Hid (lenZ c0 = 3)) :
  Calls Tryz.prog 105 #[.slice (some ⟨b,off,none⟩) len cap] w fun e w'=>e = .returned (nxTold (0,0)) ∧ w = w':=by
 go_enter Tryz.func105,Tryz.ntmps105
 go_wp2_with fail
 refine (length_any _ _ b0.1 b0.2).mono ?_
 rintro e w' ⟨rfl,rfl⟩
 rw [HN.out]
 go_wp2_with fail
 go_ret2
 exact ⟨rfl,rfl⟩
set_option maxHeartbeats 1000000 in
theorem next_3bad1 (b off len cap:Nat) (w:World) (hcap:len ≤ cap) (hm:len ≤ 9223372036854775807) (c0:Int) (b0:0 ≤ c0 ∧ c0 ≤ 255) (k0:w.cell? ⟨b,off,none⟩ = some (.int .u8 c0)) (h0:3 ≤ len) (HN:Hid (lenZ c0 = 3)) (c1:Int) (k1:w.cell? ⟨b,off + 1,none⟩ = some (.int .u8 c1)) (b1:0 ≤ c1 ∧ c1 ≤ 255) (g1:(c1 / 64 != 2) = true) :
  Calls Tryz.prog 105 #[.slice (some ⟨b,off,none⟩) len cap] w fun e w'=>e = .returned (nxTold (0,0)) ∧ w = w':=by
 obtain ⟨r0,q0⟩:∃ r,bits .and .i32 c0 15 = r:=⟨_,rfl⟩
 have r0b:0 ≤ r0 ∧ r0 ≤ 15:=by rw [← q0,and15 b0.1 b0.2];omega
 go_enter Tryz.func105,Tryz.ntmps105
 go_wp2_with fail
 refine (length_any _ _ b0.1 b0.2).mono ?_
 rintro e w' ⟨rfl,rfl⟩
 rw [HN.out]
 go_wp2_with fail
 refine wp_loop_rounds 1 ?_
 rw [rounds_succ]
 go_wp2_with fail
 go_ret2
 exact ⟨rfl,rfl⟩
set_option maxHeartbeats 1000000 in
theorem next_3bad2 (b off len cap:Nat) (w:World) (hcap:len ≤ cap) (hm:len ≤ 9223372036854775807) (c0:Int) (b0:0 ≤ c0 ∧ c0 ≤ 255) (k0:w.cell? ⟨b,off,none⟩ = some (.int .u8 c0)) (h0:3 ≤ len) (HN:Hid (lenZ c0 = 3)) (c1:Int) (k1:w.cell? ⟨b,off + 1,none⟩ = some (.int .u8 c1)) (b1:0 ≤ c1 ∧ c1 ≤ 255) (g1:(c1 / 64 != 2) = false) (c2:Int) (k2:w.cell? ⟨b,off + 2,none⟩ = some (.int .u8 c2)) (b2:0 ≤ c2 ∧ c2 ≤ 255) (g2:(c2 / 64 != 2) = true) :
  Calls Tryz.prog 105 #[.slice (some ⟨b,off,none⟩) len cap] w fun e w'=>e = .returned (nxTold (0,0)) ∧ w = w':=by
 obtain ⟨r0,q0⟩:∃ r,bits .and .i32 c0 15 = r:=⟨_,rfl⟩
 have r0b:0 ≤ r0 ∧ r0 ≤ 15:=by rw [← q0,and15 b0.1 b0.2];omega
 obtain ⟨d1,p1⟩:∃ r,bits .and .u8 c1 63 = r:=⟨_,rfl⟩
 have d1b:0 ≤ d1 ∧ d1 ≤ 63:=by rw [← p1,and63 b1.1 b1.2];omega
 go_enter Tryz.func105,Tryz.ntmps105
 go_wp2_with fail
 refine (length_any _ _ b0.1 b0.2).mono ?_
 rintro e w' ⟨rfl,rfl⟩
 rw [HN.out]
 go_wp2_with fail
 refine wp_loop_rounds 2 ?_
 rw [rounds_succ]
 go_wp2_with fail
 rw [rounds_succ]
 go_wp2_with fail
 go_ret2
 exact ⟨rfl,rfl⟩
set_option maxHeartbeats 1000000 in
theorem next_3isno (b off len cap:Nat) (w:World) (hcap:len ≤ cap) (hm:len ≤ 9223372036854775807) (c0:Int) (b0:0 ≤ c0 ∧ c0 ≤ 255) (k0:w.cell? ⟨b,off,none⟩ = some (.int .u8 c0)) (h0:3 ≤ len) (HN:Hid (lenZ c0 = 3)) (c1:Int) (k1:w.cell? ⟨b,off + 1,none⟩ = some (.int .u8 c1)) (b1:0 ≤ c1 ∧ c1 ≤ 255) (g1:(c1 / 64 != 2) = false) (c2:Int) (k2:w.cell? ⟨b,off + 2,none⟩ = some (.int .u8 c2)) (b2:0 ≤ c2 ∧ c2 ≤ 255) (g2:(c2 / 64 != 2) = false) (hB:isB (((c0 % 16) * 64 + c1 % 64) * 64 + c2 % 64) = false) :
  Calls Tryz.prog 105 #[.slice (some ⟨b,off,none⟩) len cap] w fun e w'=>e = .returned (nxTold (0,0)) ∧ w = w':=by
 obtain ⟨r0,q0⟩:∃ r,bits .and .i32 c0 15 = r:=⟨_,rfl⟩
 have r0b:0 ≤ r0 ∧ r0 ≤ 15:=by rw [← q0,and15 b0.1 b0.2];omega
 obtain ⟨d1,p1⟩:∃ r,bits .and .u8 c1 63 = r:=⟨_,rfl⟩
 have d1b:0 ≤ d1 ∧ d1 ≤ 63:=by rw [← p1,and63 b1.1 b1.2];omega
 obtain ⟨d2,p2⟩:∃ r,bits .and .u8 c2 63 = r:=⟨_,rfl⟩
 have d2b:0 ≤ d2 ∧ d2 ≤ 63:=by rw [← p2,and63 b2.1 b2.2];omega
 have ER:((c0 % 16) * 64 + c1 % 64) * 64 + c2 % 64 = ((r0 * 64 + d1) * 64 + d2):=by rw [← q0,and15 b0.1 b0.2,← p1,and63 b1.1 b1.2,← p2,and63 b2.1 b2.2]
 rw [ER] at hB
 clear ER
 go_enter Tryz.func105,Tryz.ntmps105
 go_wp2_with fail
 refine (length_any _ _ b0.1 b0.2).mono ?_
 rintro e w' ⟨rfl,rfl⟩
 rw [HN.out]
 go_wp2_with fail
 refine wp_loop_rounds 3 ?_
 rw [rounds_succ]
 go_wp2_with fail
 rw [rounds_succ]
 go_wp2_with fail
 rw [rounds_succ]
 go_wp2_with fail
 refine (is_any _ _).mono ?_
 rintro e w' ⟨rfl,rfl⟩
 go_wp2_with fail
 go_ret2
 exact ⟨rfl,rfl⟩
set_option maxHeartbeats 1000000 in
theorem next_3szno (b off len cap:Nat) (w:World) (hcap:len ≤ cap) (hm:len ≤ 9223372036854775807) (c0:Int) (b0:0 ≤ c0 ∧ c0 ≤ 255) (k0:w.cell? ⟨b,off,none⟩ = some (.int .u8 c0)) (h0:3 ≤ len) (HN:Hid (lenZ c0 = 3)) (c1:Int) (k1:w.cell? ⟨b,off + 1,none⟩ = some (.int .u8 c1)) (b1:0 ≤ c1 ∧ c1 ≤ 255) (g1:(c1 / 64 != 2) = false) (c2:Int) (k2:w.cell? ⟨b,off + 2,none⟩ = some (.int .u8 c2)) (b2:0 ≤ c2 ∧ c2 ≤ 255) (g2:(c2 / 64 != 2) = false) (hB:isB (((c0 % 16) * 64 + c1 % 64) * 64 + c2 % 64) = true) (hS:(sizeZ (((c0 % 16) * 64 + c1 % 64) * 64 + c2 % 64) != 3) = true) :
  Calls Tryz.prog 105 #[.slice (some ⟨b,off,none⟩) len cap] w fun e w'=>e = .returned (nxTold (0,0)) ∧ w = w':=by
 obtain ⟨r0,q0⟩:∃ r,bits .and .i32 c0 15 = r:=⟨_,rfl⟩
 have r0b:0 ≤ r0 ∧ r0 ≤ 15:=by rw [← q0,and15 b0.1 b0.2];omega
 obtain ⟨d1,p1⟩:∃ r,bits .and .u8 c1 63 = r:=⟨_,rfl⟩
 have d1b:0 ≤ d1 ∧ d1 ≤ 63:=by rw [← p1,and63 b1.1 b1.2];omega
 obtain ⟨d2,p2⟩:∃ r,bits .and .u8 c2 63 = r:=⟨_,rfl⟩
 have d2b:0 ≤ d2 ∧ d2 ≤ 63:=by rw [← p2,and63 b2.1 b2.2];omega
 have ER:((c0 % 16) * 64 + c1 % 64) * 64 + c2 % 64 = ((r0 * 64 + d1) * 64 + d2):=by rw [← q0,and15 b0.1 b0.2,← p1,and63 b1.1 b1.2,← p2,and63 b2.1 b2.2]
 rw [ER] at hB
 rw [ER] at hS
 clear ER
 go_enter Tryz.func105,Tryz.ntmps105
 go_wp2_with fail
 refine (length_any _ _ b0.1 b0.2).mono ?_
 rintro e w' ⟨rfl,rfl⟩
 rw [HN.out]
 go_wp2_with fail
 refine wp_loop_rounds 3 ?_
 rw [rounds_succ]
 go_wp2_with fail
 rw [rounds_succ]
 go_wp2_with fail
 rw [rounds_succ]
 go_wp2_with fail
 refine (is_any _ _).mono ?_
 rintro e w' ⟨rfl,rfl⟩
 go_wp2_with fail
 refine (size_any _ _).mono ?_
 rintro e w' ⟨rfl,rfl⟩
 go_wp2_with fail
 go_ret2
 exact ⟨rfl,rfl⟩
set_option maxHeartbeats 1000000 in
theorem next_3ok (b off len cap:Nat) (w:World) (hcap:len ≤ cap) (hm:len ≤ 9223372036854775807) (c0:Int) (b0:0 ≤ c0 ∧ c0 ≤ 255) (k0:w.cell? ⟨b,off,none⟩ = some (.int .u8 c0)) (h0:3 ≤ len) (HN:Hid (lenZ c0 = 3)) (c1:Int) (k1:w.cell? ⟨b,off + 1,none⟩ = some (.int .u8 c1)) (b1:0 ≤ c1 ∧ c1 ≤ 255) (g1:(c1 / 64 != 2) = false) (c2:Int) (k2:w.cell? ⟨b,off + 2,none⟩ = some (.int .u8 c2)) (b2:0 ≤ c2 ∧ c2 ≤ 255) (g2:(c2 / 64 != 2) = false) (hB:isB (((c0 % 16) * 64 + c1 % 64) * 64 + c2 % 64) = true) (hS:(sizeZ (((c0 % 16) * 64 + c1 % 64) * 64 + c2 % 64) != 3) = false) :
  Calls Tryz.prog 105 #[.slice (some ⟨b,off,none⟩) len cap] w fun e w'=>e = .returned (nxTold (((c0 % 16) * 64 + c1 % 64) * 64 + c2 % 64,3)) ∧ w = w':=by
 obtain ⟨r0,q0⟩:∃ r,bits .and .i32 c0 15 = r:=⟨_,rfl⟩
 have r0b:0 ≤ r0 ∧ r0 ≤ 15:=by rw [← q0,and15 b0.1 b0.2];omega
 obtain ⟨d1,p1⟩:∃ r,bits .and .u8 c1 63 = r:=⟨_,rfl⟩
 have d1b:0 ≤ d1 ∧ d1 ≤ 63:=by rw [← p1,and63 b1.1 b1.2];omega
 obtain ⟨d2,p2⟩:∃ r,bits .and .u8 c2 63 = r:=⟨_,rfl⟩
 have d2b:0 ≤ d2 ∧ d2 ≤ 63:=by rw [← p2,and63 b2.1 b2.2];omega
 have ER:((c0 % 16) * 64 + c1 % 64) * 64 + c2 % 64 = ((r0 * 64 + d1) * 64 + d2):=by rw [← q0,and15 b0.1 b0.2,← p1,and63 b1.1 b1.2,← p2,and63 b2.1 b2.2]
 rw [ER] at hB
 rw [ER] at hS
 rw [ER]
 clear ER
 go_enter Tryz.func105,Tryz.ntmps105
 go_wp2_with fail
 refine (length_any _ _ b0.1 b0.2).mono ?_
 rintro e w' ⟨rfl,rfl⟩
 rw [HN.out]
 go_wp2_with fail
 refine wp_loop_rounds 3 ?_
 rw [rounds_succ]
 go_wp2_with fail
 rw [rounds_succ]
 go_wp2_with fail
 rw [rounds_succ]
 go_wp2_with fail
 refine (is_any _ _).mono ?_
 rintro e w' ⟨rfl,rfl⟩
 go_wp2_with fail
 refine (size_any _ _).mono ?_
 rintro e w' ⟨rfl,rfl⟩
 go_wp2_with fail
 go_ret2
 exact ⟨rfl,rfl⟩
theorem next_short4 (b off len cap:Nat) (w:World) (hcap:len ≤ cap) (hm:len ≤ 9223372036854775807) (c0:Int) (b0:0 ≤ c0 ∧ c0 ≤ 255) (k0:w.cell? ⟨b,off,none⟩ = some (.int .u8 c0)) (h0:1 ≤ len) (hs:len < 4) (HN:Hid (lenZ c0 = 4)) :
  Calls Tryz.prog 105 #[.slice (some ⟨b,off,none⟩) len cap] w fun e w'=>e = .returned (nxTold (0,0)) ∧ w = w':=by
 go_enter Tryz.func105,Tryz.ntmps105
 go_wp2_with fail
 refine (length_any _ _ b0.1 b0.2).mono ?_
 rintro e w' ⟨rfl,rfl⟩
 rw [HN.out]
 go_wp2_with fail
 go_ret2
 exact ⟨rfl,rfl⟩
set_option maxHeartbeats 1000000 in
theorem next_4bad1 (b off len cap:Nat) (w:World) (hcap:len ≤ cap) (hm:len ≤ 9223372036854775807) (c0:Int) (b0:0 ≤ c0 ∧ c0 ≤ 255) (k0:w.cell? ⟨b,off,none⟩ = some (.int .u8 c0)) (h0:4 ≤ len) (HN:Hid (lenZ c0 = 4)) (c1:Int) (k1:w.cell? ⟨b,off + 1,none⟩ = some (.int .u8 c1)) (b1:0 ≤ c1 ∧ c1 ≤ 255) (g1:(c1 / 64 != 2) = true) :
  Calls Tryz.prog 105 #[.slice (some ⟨b,off,none⟩) len cap] w fun e w'=>e = .returned (nxTold (0,0)) ∧ w = w':=by
 obtain ⟨r0,q0⟩:∃ r,bits .and .i32 c0 7 = r:=⟨_,rfl⟩
 have r0b:0 ≤ r0 ∧ r0 ≤ 7:=by rw [← q0,and7 b0.1 b0.2];omega
 go_enter Tryz.func105,Tryz.ntmps105
 go_wp2_with fail
 refine (length_any _ _ b0.1 b0.2).mono ?_
 rintro e w' ⟨rfl,rfl⟩
 rw [HN.out]
 go_wp2_with fail
 refine wp_loop_rounds 1 ?_
 rw [rounds_succ]
 go_wp2_with fail
 go_ret2
 exact ⟨rfl,rfl⟩
set_option maxHeartbeats 1000000 in
theorem next_4bad2 (b off len cap:Nat) (w:World) (hcap:len ≤ cap) (hm:len ≤ 9223372036854775807) (c0:Int) (b0:0 ≤ c0 ∧ c0 ≤ 255) (k0:w.cell? ⟨b,off,none⟩ = some (.int .u8 c0)) (h0:4 ≤ len) (HN:Hid (lenZ c0 = 4)) (c1:Int) (k1:w.cell? ⟨b,off + 1,none⟩ = some (.int .u8 c1)) (b1:0 ≤ c1 ∧ c1 ≤ 255) (g1:(c1 / 64 != 2) = false) (c2:Int) (k2:w.cell? ⟨b,off + 2,none⟩ = some (.int .u8 c2)) (b2:0 ≤ c2 ∧ c2 ≤ 255) (g2:(c2 / 64 != 2) = true) :
  Calls Tryz.prog 105 #[.slice (some ⟨b,off,none⟩) len cap] w fun e w'=>e = .returned (nxTold (0,0)) ∧ w = w':=by
 obtain ⟨r0,q0⟩:∃ r,bits .and .i32 c0 7 = r:=⟨_,rfl⟩
 have r0b:0 ≤ r0 ∧ r0 ≤ 7:=by rw [← q0,and7 b0.1 b0.2];omega
 obtain ⟨d1,p1⟩:∃ r,bits .and .u8 c1 63 = r:=⟨_,rfl⟩
 have d1b:0 ≤ d1 ∧ d1 ≤ 63:=by rw [← p1,and63 b1.1 b1.2];omega
 go_enter Tryz.func105,Tryz.ntmps105
 go_wp2_with fail
 refine (length_any _ _ b0.1 b0.2).mono ?_
 rintro e w' ⟨rfl,rfl⟩
 rw [HN.out]
 go_wp2_with fail
 refine wp_loop_rounds 2 ?_
 rw [rounds_succ]
 go_wp2_with fail
 rw [rounds_succ]
 go_wp2_with fail
 go_ret2
 exact ⟨rfl,rfl⟩
set_option maxHeartbeats 1000000 in
theorem next_4bad3 (b off len cap:Nat) (w:World) (hcap:len ≤ cap) (hm:len ≤ 9223372036854775807) (c0:Int) (b0:0 ≤ c0 ∧ c0 ≤ 255) (k0:w.cell? ⟨b,off,none⟩ = some (.int .u8 c0)) (h0:4 ≤ len) (HN:Hid (lenZ c0 = 4)) (c1:Int) (k1:w.cell? ⟨b,off + 1,none⟩ = some (.int .u8 c1)) (b1:0 ≤ c1 ∧ c1 ≤ 255) (g1:(c1 / 64 != 2) = false) (c2:Int) (k2:w.cell? ⟨b,off + 2,none⟩ = some (.int .u8 c2)) (b2:0 ≤ c2 ∧ c2 ≤ 255) (g2:(c2 / 64 != 2) = false) (c3:Int) (k3:w.cell? ⟨b,off + 3,none⟩ = some (.int .u8 c3)) (b3:0 ≤ c3 ∧ c3 ≤ 255) (g3:(c3 / 64 != 2) = true) :
  Calls Tryz.prog 105 #[.slice (some ⟨b,off,none⟩) len cap] w fun e w'=>e = .returned (nxTold (0,0)) ∧ w = w':=by
 obtain ⟨r0,q0⟩:∃ r,bits .and .i32 c0 7 = r:=⟨_,rfl⟩
 have r0b:0 ≤ r0 ∧ r0 ≤ 7:=by rw [← q0,and7 b0.1 b0.2];omega
 obtain ⟨d1,p1⟩:∃ r,bits .and .u8 c1 63 = r:=⟨_,rfl⟩
 have d1b:0 ≤ d1 ∧ d1 ≤ 63:=by rw [← p1,and63 b1.1 b1.2];omega
 obtain ⟨d2,p2⟩:∃ r,bits .and .u8 c2 63 = r:=⟨_,rfl⟩
 have d2b:0 ≤ d2 ∧ d2 ≤ 63:=by rw [← p2,and63 b2.1 b2.2];omega
 go_enter Tryz.func105,Tryz.ntmps105
 go_wp2_with fail
 refine (length_any _ _ b0.1 b0.2).mono ?_
 rintro e w' ⟨rfl,rfl⟩
 rw [HN.out]
 go_wp2_with fail
 refine wp_loop_rounds 3 ?_
 rw [rounds_succ]
 go_wp2_with fail
 rw [rounds_succ]
 go_wp2_with fail
 rw [rounds_succ]
 go_wp2_with fail
 go_ret2
 exact ⟨rfl,rfl⟩
set_option maxHeartbeats 1000000 in
theorem next_4isno (b off len cap:Nat) (w:World) (hcap:len ≤ cap) (hm:len ≤ 9223372036854775807) (c0:Int) (b0:0 ≤ c0 ∧ c0 ≤ 255) (k0:w.cell? ⟨b,off,none⟩ = some (.int .u8 c0)) (h0:4 ≤ len) (HN:Hid (lenZ c0 = 4)) (c1:Int) (k1:w.cell? ⟨b,off + 1,none⟩ = some (.int .u8 c1)) (b1:0 ≤ c1 ∧ c1 ≤ 255) (g1:(c1 / 64 != 2) = false) (c2:Int) (k2:w.cell? ⟨b,off + 2,none⟩ = some (.int .u8 c2)) (b2:0 ≤ c2 ∧ c2 ≤ 255) (g2:(c2 / 64 != 2) = false) (c3:Int) (k3:w.cell? ⟨b,off + 3,none⟩ = some (.int .u8 c3)) (b3:0 ≤ c3 ∧ c3 ≤ 255) (g3:(c3 / 64 != 2) = false) (hB:isB ((((c0 % 8) * 64 + c1 % 64) * 64 + c2 % 64) * 64 + c3 % 64) = false) :
  Calls Tryz.prog 105 #[.slice (some ⟨b,off,none⟩) len cap] w fun e w'=>e = .returned (nxTold (0,0)) ∧ w = w':=by
 obtain ⟨r0,q0⟩:∃ r,bits .and .i32 c0 7 = r:=⟨_,rfl⟩
 have r0b:0 ≤ r0 ∧ r0 ≤ 7:=by rw [← q0,and7 b0.1 b0.2];omega
 obtain ⟨d1,p1⟩:∃ r,bits .and .u8 c1 63 = r:=⟨_,rfl⟩
 have d1b:0 ≤ d1 ∧ d1 ≤ 63:=by rw [← p1,and63 b1.1 b1.2];omega
 obtain ⟨d2,p2⟩:∃ r,bits .and .u8 c2 63 = r:=⟨_,rfl⟩
 have d2b:0 ≤ d2 ∧ d2 ≤ 63:=by rw [← p2,and63 b2.1 b2.2];omega
 obtain ⟨d3,p3⟩:∃ r,bits .and .u8 c3 63 = r:=⟨_,rfl⟩
 have d3b:0 ≤ d3 ∧ d3 ≤ 63:=by rw [← p3,and63 b3.1 b3.2];omega
 have ER:(((c0 % 8) * 64 + c1 % 64) * 64 + c2 % 64) * 64 + c3 % 64 = (((r0 * 64 + d1) * 64 + d2) * 64 + d3):=by rw [← q0,and7 b0.1 b0.2,← p1,and63 b1.1 b1.2,← p2,and63 b2.1 b2.2,← p3,and63 b3.1 b3.2]
 rw [ER] at hB
 clear ER
 go_enter Tryz.func105,Tryz.ntmps105
 go_wp2_with fail
 refine (length_any _ _ b0.1 b0.2).mono ?_
 rintro e w' ⟨rfl,rfl⟩
 rw [HN.out]
 go_wp2_with fail
 refine wp_loop_rounds 4 ?_
 rw [rounds_succ]
 go_wp2_with fail
 rw [rounds_succ]
 go_wp2_with fail
 rw [rounds_succ]
 go_wp2_with fail
 rw [rounds_succ]
 go_wp2_with fail
 refine (is_any _ _).mono ?_
 rintro e w' ⟨rfl,rfl⟩
 go_wp2_with fail
 go_ret2
 exact ⟨rfl,rfl⟩
set_option maxHeartbeats 1000000 in
theorem next_4szno (b off len cap:Nat) (w:World) (hcap:len ≤ cap) (hm:len ≤ 9223372036854775807) (c0:Int) (b0:0 ≤ c0 ∧ c0 ≤ 255) (k0:w.cell? ⟨b,off,none⟩ = some (.int .u8 c0)) (h0:4 ≤ len) (HN:Hid (lenZ c0 = 4)) (c1:Int) (k1:w.cell? ⟨b,off + 1,none⟩ = some (.int .u8 c1)) (b1:0 ≤ c1 ∧ c1 ≤ 255) (g1:(c1 / 64 != 2) = false) (c2:Int) (k2:w.cell? ⟨b,off + 2,none⟩ = some (.int .u8 c2)) (b2:0 ≤ c2 ∧ c2 ≤ 255) (g2:(c2 / 64 != 2) = false) (c3:Int) (k3:w.cell? ⟨b,off + 3,none⟩ = some (.int .u8 c3)) (b3:0 ≤ c3 ∧ c3 ≤ 255) (g3:(c3 / 64 != 2) = false) (hB:isB ((((c0 % 8) * 64 + c1 % 64) * 64 + c2 % 64) * 64 + c3 % 64) = true) (hS:(sizeZ ((((c0 % 8) * 64 + c1 % 64) * 64 + c2 % 64) * 64 + c3 % 64) != 4) = true) :
  Calls Tryz.prog 105 #[.slice (some ⟨b,off,none⟩) len cap] w fun e w'=>e = .returned (nxTold (0,0)) ∧ w = w':=by
 obtain ⟨r0,q0⟩:∃ r,bits .and .i32 c0 7 = r:=⟨_,rfl⟩
 have r0b:0 ≤ r0 ∧ r0 ≤ 7:=by rw [← q0,and7 b0.1 b0.2];omega
 obtain ⟨d1,p1⟩:∃ r,bits .and .u8 c1 63 = r:=⟨_,rfl⟩
 have d1b:0 ≤ d1 ∧ d1 ≤ 63:=by rw [← p1,and63 b1.1 b1.2];omega
 obtain ⟨d2,p2⟩:∃ r,bits .and .u8 c2 63 = r:=⟨_,rfl⟩
 have d2b:0 ≤ d2 ∧ d2 ≤ 63:=by rw [← p2,and63 b2.1 b2.2];omega
 obtain ⟨d3,p3⟩:∃ r,bits .and .u8 c3 63 = r:=⟨_,rfl⟩
 have d3b:0 ≤ d3 ∧ d3 ≤ 63:=by rw [← p3,and63 b3.1 b3.2];omega
 have ER:(((c0 % 8) * 64 + c1 % 64) * 64 + c2 % 64) * 64 + c3 % 64 = (((r0 * 64 + d1) * 64 + d2) * 64 + d3):=by rw [← q0,and7 b0.1 b0.2,← p1,and63 b1.1 b1.2,← p2,and63 b2.1 b2.2,← p3,and63 b3.1 b3.2]
 rw [ER] at hB
 rw [ER] at hS
 clear ER
 go_enter Tryz.func105,Tryz.ntmps105
 go_wp2_with fail
 refine (length_any _ _ b0.1 b0.2).mono ?_
 rintro e w' ⟨rfl,rfl⟩
 rw [HN.out]
 go_wp2_with fail
 refine wp_loop_rounds 4 ?_
 rw [rounds_succ]
 go_wp2_with fail
 rw [rounds_succ]
 go_wp2_with fail
 rw [rounds_succ]
 go_wp2_with fail
 rw [rounds_succ]
 go_wp2_with fail
 refine (is_any _ _).mono ?_
 rintro e w' ⟨rfl,rfl⟩
 go_wp2_with fail
 refine (size_any _ _).mono ?_
 rintro e w' ⟨rfl,rfl⟩
 go_wp2_with fail
 go_ret2
 exact ⟨rfl,rfl⟩
set_option maxHeartbeats 1000000 in
theorem next_4ok (b off len cap:Nat) (w:World) (hcap:len ≤ cap) (hm:len ≤ 9223372036854775807) (c0:Int) (b0:0 ≤ c0 ∧ c0 ≤ 255) (k0:w.cell? ⟨b,off,none⟩ = some (.int .u8 c0)) (h0:4 ≤ len) (HN:Hid (lenZ c0 = 4)) (c1:Int) (k1:w.cell? ⟨b,off + 1,none⟩ = some (.int .u8 c1)) (b1:0 ≤ c1 ∧ c1 ≤ 255) (g1:(c1 / 64 != 2) = false) (c2:Int) (k2:w.cell? ⟨b,off + 2,none⟩ = some (.int .u8 c2)) (b2:0 ≤ c2 ∧ c2 ≤ 255) (g2:(c2 / 64 != 2) = false) (c3:Int) (k3:w.cell? ⟨b,off + 3,none⟩ = some (.int .u8 c3)) (b3:0 ≤ c3 ∧ c3 ≤ 255) (g3:(c3 / 64 != 2) = false) (hB:isB ((((c0 % 8) * 64 + c1 % 64) * 64 + c2 % 64) * 64 + c3 % 64) = true) (hS:(sizeZ ((((c0 % 8) * 64 + c1 % 64) * 64 + c2 % 64) * 64 + c3 % 64) != 4) = false) :
  Calls Tryz.prog 105 #[.slice (some ⟨b,off,none⟩) len cap] w fun e w'=>e = .returned (nxTold ((((c0 % 8) * 64 + c1 % 64) * 64 + c2 % 64) * 64 + c3 % 64,4)) ∧ w = w':=by
 obtain ⟨r0,q0⟩:∃ r,bits .and .i32 c0 7 = r:=⟨_,rfl⟩
 have r0b:0 ≤ r0 ∧ r0 ≤ 7:=by rw [← q0,and7 b0.1 b0.2];omega
 obtain ⟨d1,p1⟩:∃ r,bits .and .u8 c1 63 = r:=⟨_,rfl⟩
 have d1b:0 ≤ d1 ∧ d1 ≤ 63:=by rw [← p1,and63 b1.1 b1.2];omega
 obtain ⟨d2,p2⟩:∃ r,bits .and .u8 c2 63 = r:=⟨_,rfl⟩
 have d2b:0 ≤ d2 ∧ d2 ≤ 63:=by rw [← p2,and63 b2.1 b2.2];omega
 obtain ⟨d3,p3⟩:∃ r,bits .and .u8 c3 63 = r:=⟨_,rfl⟩
 have d3b:0 ≤ d3 ∧ d3 ≤ 63:=by rw [← p3,and63 b3.1 b3.2];omega
 have ER:(((c0 % 8) * 64 + c1 % 64) * 64 + c2 % 64) * 64 + c3 % 64 = (((r0 * 64 + d1) * 64 + d2) * 64 + d3):=by rw [← q0,and7 b0.1 b0.2,← p1,and63 b1.1 b1.2,← p2,and63 b2.1 b2.2,← p3,and63 b3.1 b3.2]
 rw [ER] at hB
 rw [ER] at hS
 rw [ER]
 clear ER
 go_enter Tryz.func105,Tryz.ntmps105
 go_wp2_with fail
 refine (length_any _ _ b0.1 b0.2).mono ?_
 rintro e w' ⟨rfl,rfl⟩
 rw [HN.out]
 go_wp2_with fail
 refine wp_loop_rounds 4 ?_
 rw [rounds_succ]
 go_wp2_with fail
 rw [rounds_succ]
 go_wp2_with fail
 rw [rounds_succ]
 go_wp2_with fail
 rw [rounds_succ]
 go_wp2_with fail
 refine (is_any _ _).mono ?_
 rintro e w' ⟨rfl,rfl⟩
 go_wp2_with fail
 refine (size_any _ _).mono ?_
 rintro e w' ⟨rfl,rfl⟩
 go_wp2_with fail
 go_ret2
 exact ⟨rfl,rfl⟩
end Go.Proofs.YtahpnackkmbmgaaGreat
end

/- Part 3 of the proof: RNextAll, RRef. Conditions: none. -/
import Derived.Test.YtahpnackkmbmgaaGreatM2
set_option linter.all false
set_option linter.unusedVariables false
set_option linter.unusedSimpArgs false
section
namespace Go.Proofs.YtahpnackkmbmgaaGreat
open Go.RowKit
theorem lenZ_cases (c:Int):lenZ c = 0 ∨ lenZ c = (1:Nat) ∨ lenZ c = (2:Nat) ∨ lenZ c = (3:Nat) ∨ lenZ c = (4:Nat):=by
 unfold lenZ
 repeat' split
 all_goals simp
theorem codeR1 (l:List Int):codeR l 1 = gb l 0:=by simp [codeR,accS,firstZ]
theorem codeR2 (l:List Int):codeR l 2 = (gb l 0 % 32) * 64 + gb l 1 % 64:=by simp [codeR,accS,firstZ]
theorem codeR3 (l:List Int):codeR l 3 = ((gb l 0 % 16) * 64 + gb l 1 % 64) * 64 + gb l 2 % 64:=by simp [codeR,accS,firstZ]
theorem codeR4 (l:List Int):codeR l 4 = (((gb l 0 % 8) * 64 + gb l 1 % 64) * 64 + gb l 2 % 64) * 64 + gb l 3 % 64:=by simp [codeR,accS,firstZ]
theorem cont_ok {c:Int} (h:decide (c / 64 = 2) = true):(c / 64 != 2) = false:=by simpa using h
theorem cont_no {c:Int} (h:decide (c / 64 = 2) = false):(c / 64 != 2) = true:=by simpa using h
theorem small_code {l:List Int} (hb:Byt l) (h:lenZ (gb l 0) = (1:Nat)):isB (gb l 0) = true ∧ sizeZ (gb l 0) = 1:=by
 have b0:=gb_bd hb 0
 have hc:gb l 0 < 128:=by
  unfold lenZ at h
  by_cases a:gb l 0 < 128
  ·exact a
  rw [if_neg a] at h
  repeat' split at h
  all_goals omega
 exact ⟨by rw [isB_iff];omega,by unfold sizeZ;rw [if_pos hc]⟩
theorem next_any (b off len cap:Nat) (l:List Int) (w:World) (hl:l.length = len) (h0:1 ≤ len) (hcap:len ≤ cap) (hm:len ≤ 9223372036854775807) (hb:Byt l) (hc:CellsAt w .u8 b off l) :
  Calls Tryz.prog 105 #[.slice (some ⟨b,off,none⟩) len cap] w fun e w'=>e = .returned (nxTold (nextS l)) ∧ w = w':=by
 subst hl
 have b0:=gb_bd hb 0
 have b1:=gb_bd hb 1
 have b2:=gb_bd hb 2
 have b3:=gb_bd hb 3
 have k0:w.cell? ⟨b,off,none⟩ = some (.int .u8 (gb l 0)):=hc 0 (by omega)
 rcases lenZ_cases (gb l 0) with hn | hn | hn | hn | hn
 ·rw [next_zero hn]
  exact next_z b off _ cap w hcap hm _ b0 k0 h0 hn
 ·have hs:=small_code hb hn
  have e:=next_case hn (by omega)
  rw [if_pos ⟨h0,rfl,by rw [codeR1];exact hs.1,by rw [codeR1];exact hs.2⟩,codeR1] at e
  rw [e]
  exact next_1ok b off _ cap w hcap hm _ b0 k0 h0 hn hs.1 (by rw [hs.2];rfl)
 ·have e:=next_case hn (by omega)
  have hn':Hid (lenZ (gb l 0) = 2):=hn
  by_cases hs:l.length < 2
  ·rw [if_neg (fun h=>by omega)] at e
   rw [e]
   exact next_short2 b off _ cap w hcap hm _ b0 k0 h0 hs hn'
  have hs':2 ≤ l.length:=by omega
  have k1:w.cell? ⟨b,off + 1,none⟩ = some (.int .u8 (gb l 1)):=hc 1 (by omega)
  cases g1:decide (gb l 1 / 64 = 2)
  ·rw [if_neg (fun h=>by have h2:=h.2.1;simp only [contS,g1,Bool.and_false] at h2;cases h2)] at e
   rw [e]
   exact next_2bad1 b off _ cap w hcap hm _ b0 k0 hs' hn' _ k1 b1 (cont_no g1)
  have hcs:contS l 1 = true:=by simp only [contS,g1,Bool.and_self]
  rw [codeR2] at e
  cases hB:isB ((gb l 0 % 32) * 64 + gb l 1 % 64)
  ·rw [hB] at e
   rw [if_neg (fun h=>by cases h.2.2.1)] at e
   rw [e]
   exact next_2isno b off _ cap w hcap hm _ b0 k0 hs' hn' _ k1 b1 (cont_ok g1) hB
  by_cases hS:sizeZ ((gb l 0 % 32) * 64 + gb l 1 % 64) = 2
  ·rw [if_pos ⟨hs',hcs,hB,hS⟩] at e
   rw [e]
   exact next_2ok b off _ cap w hcap hm _ b0 k0 hs' hn' _ k1 b1 (cont_ok g1) hB (by rw [hS];rfl)
  ·rw [if_neg (fun h=>hS h.2.2.2)] at e
   rw [e]
   exact next_2szno b off _ cap w hcap hm _ b0 k0 hs' hn' _ k1 b1 (cont_ok g1) hB (bne_iff_ne.2 hS)
 ·have e:=next_case hn (by omega)
  have hn':Hid (lenZ (gb l 0) = 3):=hn
  by_cases hs:l.length < 3
  ·rw [if_neg (fun h=>by omega)] at e
   rw [e]
   exact next_short3 b off _ cap w hcap hm _ b0 k0 h0 hs hn'
  have hs':3 ≤ l.length:=by omega
  have k1:w.cell? ⟨b,off + 1,none⟩ = some (.int .u8 (gb l 1)):=hc 1 (by omega)
  cases g1:decide (gb l 1 / 64 = 2)
  ·rw [if_neg (fun h=>by have h2:=h.2.1;simp only [contS,g1,Bool.and_false,Bool.false_and] at h2;cases h2)] at e
   rw [e]
   exact next_3bad1 b off _ cap w hcap hm _ b0 k0 hs' hn' _ k1 b1 (cont_no g1)
  have k2:w.cell? ⟨b,off + 2,none⟩ = some (.int .u8 (gb l 2)):=hc 2 (by omega)
  cases g2:decide (gb l 2 / 64 = 2)
  ·rw [if_neg (fun h=>by have h2:=h.2.1;simp only [contS,g2,Bool.and_false] at h2;cases h2)] at e
   rw [e]
   exact next_3bad2 b off _ cap w hcap hm _ b0 k0 hs' hn' _ k1 b1 (cont_ok g1) _ k2 b2 (cont_no g2)
  have hcs:contS l 2 = true:=by simp only [contS,g1,g2,Bool.and_self]
  rw [codeR3] at e
  cases hB:isB (((gb l 0 % 16) * 64 + gb l 1 % 64) * 64 + gb l 2 % 64)
  ·rw [hB] at e
   rw [if_neg (fun h=>by cases h.2.2.1)] at e
   rw [e]
   exact next_3isno b off _ cap w hcap hm _ b0 k0 hs' hn' _ k1 b1 (cont_ok g1) _ k2 b2 (cont_ok g2) hB
  by_cases hS:sizeZ (((gb l 0 % 16) * 64 + gb l 1 % 64) * 64 + gb l 2 % 64) = 3
  ·rw [if_pos ⟨hs',hcs,hB,hS⟩] at e
   rw [e]
   exact next_3ok b off _ cap w hcap hm _ b0 k0 hs' hn' _ k1 b1 (cont_ok g1) _ k2 b2 (cont_ok g2) hB (by rw [hS];rfl)
  ·rw [if_neg (fun h=>hS h.2.2.2)] at e
   rw [e]
   exact next_3szno b off _ cap w hcap hm _ b0 k0 hs' hn' _ k1 b1 (cont_ok g1) _ k2 b2 (cont_ok g2) hB (bne_iff_ne.2 hS)
 ·have e:=next_case hn (by omega)
  have hn':Hid (lenZ (gb l 0) = 4):=hn
  by_cases hs:l.length < 4
  ·rw [if_neg (fun h=>by omega)] at e
   rw [e]
   exact next_short4 b off _ cap w hcap hm _ b0 k0 h0 hs hn'
  have hs':4 ≤ l.length:=by omega
  have k1:w.cell? ⟨b,off + 1,none⟩ = some (.int .u8 (gb l 1)):=hc 1 (by omega)
  cases g1:decide (gb l 1 / 64 = 2)
  ·rw [if_neg (fun h=>by have h2:=h.2.1;simp only [contS,g1,Bool.and_false,Bool.false_and] at h2;cases h2)] at e
   rw [e]
   exact next_4bad1 b off _ cap w hcap hm _ b0 k0 hs' hn' _ k1 b1 (cont_no g1)
  have k2:w.cell? ⟨b,off + 2,none⟩ = some (.int .u8 (gb l 2)):=hc 2 (by omega)
  cases g2:decide (gb l 2 / 64 = 2)
  ·rw [if_neg (fun h=>by have h2:=h.2.1;simp only [contS,g2,Bool.and_false,Bool.false_and] at h2;cases h2)] at e
   rw [e]
   exact next_4bad2 b off _ cap w hcap hm _ b0 k0 hs' hn' _ k1 b1 (cont_ok g1) _ k2 b2 (cont_no g2)
  have k3:w.cell? ⟨b,off + 3,none⟩ = some (.int .u8 (gb l 3)):=hc 3 (by omega)
  cases g3:decide (gb l 3 / 64 = 2)
  ·rw [if_neg (fun h=>by have h2:=h.2.1;simp only [contS,g3,Bool.and_false] at h2;cases h2)] at e
   rw [e]
   exact next_4bad3 b off _ cap w hcap hm _ b0 k0 hs' hn' _ k1 b1 (cont_ok g1) _ k2 b2 (cont_ok g2) _ k3 b3 (cont_no g3)
  have hcs:contS l 3 = true:=by simp only [contS,g1,g2,g3,Bool.and_self]
  rw [codeR4] at e
  cases hB:isB ((((gb l 0 % 8) * 64 + gb l 1 % 64) * 64 + gb l 2 % 64) * 64 + gb l 3 % 64)
  ·rw [hB] at e
   rw [if_neg (fun h=>by cases h.2.2.1)] at e
   rw [e]
   exact next_4isno b off _ cap w hcap hm _ b0 k0 hs' hn' _ k1 b1 (cont_ok g1) _ k2 b2 (cont_ok g2) _ k3 b3 (cont_ok g3) hB
  by_cases hS:sizeZ ((((gb l 0 % 8) * 64 + gb l 1 % 64) * 64 + gb l 2 % 64) * 64 + gb l 3 % 64) = 4
  ·rw [if_pos ⟨hs',hcs,hB,hS⟩] at e
   rw [e]
   exact next_4ok b off _ cap w hcap hm _ b0 k0 hs' hn' _ k1 b1 (cont_ok g1) _ k2 b2 (cont_ok g2) _ k3 b3 (cont_ok g3) hB (by rw [hS];rfl)
  ·rw [if_neg (fun h=>hS h.2.2.2)] at e
   rw [e]
   exact next_4szno b off _ cap w hcap hm _ b0 k0 hs' hn' _ k1 b1 (cont_ok g1) _ k2 b2 (cont_ok g2) _ k3 b3 (cont_ok g3) hB (bne_iff_ne.2 hS)
def NextT (l:List Int) (at_:Int):Value :=
 if at_ < 0 ∨ (l.length:Int) ≤ at_ then .tuple #[.int .i32 0,.int .i64 0,.int .u8 1]
 else if (nextS (l.drop at_.toNat)).2 = 0 then .tuple #[.int .i32 0,.int .i64 0,.int .u8 3]
 else .tuple #[.int .i32 (nextS (l.drop at_.toNat)).1,.int .i64 (nextS (l.drop at_.toNat)).2,.int .u8 0]
theorem Next_in (b off len cap a:Nat) (l:List Int) (w:World) (hl:l.length = len) (h0:a < len) (hcap:len ≤ cap) (hm:len ≤ 9223372036854775807) (hb:Byt l) (hc:CellsAt w .u8 b off l) :
  Calls Tryz.prog 77 #[.slice (some ⟨b,off,none⟩) len cap,.int .i64 (a:Int)] w fun e w'=>e = .returned (NextT l a) ∧ w = w':=by
 have C:=fun w' (h:w = w')=>Lib.hid (next_any b (off + a) (len - a) (cap - a) (l.drop a) w' (by rw [List.length_drop,hl]) (by omega) (by omega) (by omega) (byt_drop hb a) (by rw [← h];exact cells_drop hc a))
 unfold NextT
 rw [if_neg (by omega),Int.toNat_natCast]
 have hk:=next_none (l:=l.drop a)
 unfold nxTold at C
 generalize nextS (l.drop a) = r at *
 obtain ⟨r,n⟩:=r
 simp only [Prod.mk.injEq] at hk C
 simp only
 clear hl hb hc
 by_cases hn:n = 0
 ·rw [if_pos hn]
  have g:(n == 0) = true:=by rw [hn];rfl
  clear hn hk
  go_enter Tryz.func77,Tryz.ntmps77
  go_wp2_with fail
  refine (C _ rfl).out.mono ?_
  rintro e w' ⟨rfl,rfl⟩
  go_wp2_with fail
  go_ret3
  exact ⟨rfl,rfl⟩
 ·rw [if_neg hn]
  have g:(n == 0) = false:=beq_eq_false_iff_ne.2 hn
  clear hn hk
  go_enter Tryz.func77,Tryz.ntmps77
  go_wp2_with fail
  refine (C _ rfl).out.mono ?_
  rintro e w' ⟨rfl,rfl⟩
  go_wp2_with fail
  go_ret3
  exact ⟨rfl,rfl⟩
theorem Is_any (r:Int) (w:World):Calls Tryz.prog 83 #[.int .i64 r] w fun e w'=>e = .returned (.bool (isB r)) ∧ w = w':=by
 cases hb:isB r
 ·have H:¬ (0 ≤ r ∧ r ≤ 1114111 ∧ (r < 55296 ∨ 57343 < r)):=by rw [← isB_iff,hb];decide
  clear hb
  by_cases h0:r < 0
  ·clear H
   go_enter Tryz.func83,Tryz.ntmps83
   go_wp2_with fail
   go_ret
   exact ⟨retBool (by simp <;> omega),rfl⟩
  ·have h00:0 ≤ r:=by omega
   by_cases h1:r < 55296
   ·omega
   ·by_cases h2:57343 < r
    ·have h3:¬ r ≤ 1114111:=by omega
     clear H h0
     go_enter Tryz.func83,Tryz.ntmps83
     go_wp2_with fail
     go_ret
     exact ⟨retBool (by simp <;> omega),rfl⟩
    ·clear H h0
     go_enter Tryz.func83,Tryz.ntmps83
     go_wp2_with fail
     go_ret
     exact ⟨retBool (by simp <;> omega),rfl⟩
 ·rw [isB_iff] at hb
  obtain ⟨h0,h1,h2⟩:=hb
  by_cases h3:r < 55296
  ·clear h2
   go_enter Tryz.func83,Tryz.ntmps83
   go_wp2_with fail
   go_ret
   exact ⟨retBool (by simp <;> omega),rfl⟩
  ·have h4:57343 < r:=by omega
   clear h2
   go_enter Tryz.func83,Tryz.ntmps83
   go_wp2_with fail
   go_ret
   exact ⟨retBool (by simp <;> omega),rfl⟩
theorem Bytes_1 (r:Int) (w:World) (h0:0 ≤ r) (h:r < 128) :
  Calls Tryz.prog 84 #[.int .i64 r] w fun e w'=>e = .returned (.slice (some ⟨w.heap.size,0,none⟩) (bytesS r).length (bytesS r).length) ∧ w' = w.alloc (.cells ((bytesS r).map (Value.int .u8)).toArray 5):=by
 rw [bytes1 h]
 go_enter Tryz.func84,Tryz.ntmps84
 go_wp2_with fail
 go_ret
 exact ⟨rfl,rfl⟩
theorem Bytes_2 (r:Int) (w:World) (h0:128 ≤ r) (h:r < 2048) :
  Calls Tryz.prog 84 #[.int .i64 r] w fun e w'=>e = .returned (.slice (some ⟨w.heap.size,0,none⟩) (bytesS r).length (bytesS r).length) ∧ w' = w.alloc (.cells ((bytesS r).map (Value.int .u8)).toArray 5):=by
 rw [bytes2 (r:=r) (by omega) h]
 go_enter Tryz.func84,Tryz.ntmps84
 go_wp2_with fail
 go_ret
 exact ⟨rfl,rfl⟩
theorem Bytes_3 (r:Int) (w:World) (h0:2048 ≤ r) (h:r < 65536) :
  Calls Tryz.prog 84 #[.int .i64 r] w fun e w'=>e = .returned (.slice (some ⟨w.heap.size,0,none⟩) (bytesS r).length (bytesS r).length) ∧ w' = w.alloc (.cells ((bytesS r).map (Value.int .u8)).toArray 5):=by
 rw [bytes3 (r:=r) (by omega) h]
 go_enter Tryz.func84,Tryz.ntmps84
 go_wp2_with fail
 go_ret
 exact ⟨rfl,rfl⟩
theorem Bytes_4 (r:Int) (w:World) (h0:65536 ≤ r) (h:r ≤ 1114111) :
  Calls Tryz.prog 84 #[.int .i64 r] w fun e w'=>e = .returned (.slice (some ⟨w.heap.size,0,none⟩) (bytesS r).length (bytesS r).length) ∧ w' = w.alloc (.cells ((bytesS r).map (Value.int .u8)).toArray 5):=by
 rw [bytes4 (r:=r) (by omega)]
 go_enter Tryz.func84,Tryz.ntmps84
 go_wp2_with fail
 go_ret
 exact ⟨rfl,rfl⟩
theorem Bytes_any (r:Int) (w:World) (h:isB r = true) :
  Calls Tryz.prog 84 #[.int .i64 r] w fun e w'=>e = .returned (.slice (some ⟨w.heap.size,0,none⟩) (bytesS r).length (bytesS r).length) ∧ w' = w.alloc (.cells ((bytesS r).map (Value.int .u8)).toArray 5):=by
 rw [isB_iff] at h
 by_cases a:r < 128
 ·exact Bytes_1 r w h.1 a
 by_cases b:r < 2048
 ·exact Bytes_2 r w (by omega) b
 by_cases c:r < 65536
 ·exact Bytes_3 r w (by omega) c
 ·exact Bytes_4 r w (by omega) h.2.1
theorem Same_ne (A B:Option Addr) (n m ca cb:Nat) (w:World) (h:n ≠ m) :
  Calls Tryz.prog 13 #[.slice A n ca,.slice B m cb] w fun e w'=>e = .returned (.bool false) ∧ ∃ d,w' = w.drewN d:=by
 have g:(((n:Nat):Int) != (m:Int)) = true:=by rw [bne_iff_ne];omega
 have g2:((n:Nat) != m) = true:=by rw [bne_iff_ne];exact h
 go_enter Tryz.func13,Tryz.ntmps13
 go_wp2_with fail
 go_ret
 exact ⟨rfl,0,rfl⟩
set_option maxHeartbeats 1000000 in
theorem Same_eq (b1 o1 b2 o2 n ca cb:Nat) (l1 l2:List Int) (w:World) (h1:l1.length = n) (h2:l2.length = n) (hm:n ≤ 9223372036854775807) (c1:CellsAt w .u8 b1 o1 l1) (c2:CellsAt w .u8 b2 o2 l2) :
  Calls Tryz.prog 13 #[.slice (some ⟨b1,o1,none⟩) n ca,.slice (some ⟨b2,o2,none⟩) n cb] w fun e w'=>e = .returned (.bool (l1 == l2)) ∧ ∃ d,w' = w.drewN d:=by
 have H1:=Lib.hid h1
 have H2:=Lib.hid h2
 have C1:=Lib.hid c1
 have C2:=Lib.hid c2
 clear h1 h2 c1 c2
 go_enter Tryz.func13,Tryz.ntmps13
 go_wp2_with fail
 go_loopw [5] (fun i wr=>∃ k d:Nat,k ≤ n ∧ i = .int .i64 k ∧ wr = w.drewN d ∧ l1.take k = l2.take k) (fun i _=>n - (intOf i).toNat)
 case atStart=>exact ⟨0,0,Nat.zero_le _,rfl,rfl,rfl⟩
 case round =>
  obtain ⟨k,d,hk,rfl,rfl,hE⟩:=hrel
  have HE:=Lib.hid hE
  clear hE
  by_cases hlt:k < n
  ·have k1:w.cell? ⟨b1,o1 + k,none⟩ = some (.int .u8 (gb l1 k)):=C1.out k (by rw [H1.out];exact hlt)
   have k2:w.cell? ⟨b2,o2 + k,none⟩ = some (.int .u8 (gb l2 k)):=C2.out k (by rw [H2.out];exact hlt)
   have t1:=Lib.hid (take_gb (l:=l1) (k:=k) (by rw [H1.out];exact hlt))
   have t2:=Lib.hid (take_gb (l:=l2) (k:=k) (by rw [H2.out];exact hlt))
   have e1:=Lib.hid (gb_get (l:=l1) (i:=k) (by rw [H1.out];exact hlt))
   have e2:=Lib.hid (gb_get (l:=l2) (i:=k) (by rw [H2.out];exact hlt))
   by_cases hc:gb l1 k = gb l2 k
   ·rw [← hc] at k2 t2
    clear hc e1 e2
    generalize gb l1 k = c at *
    go_wp2_with fail
    go_quiet (fail)
    go_wp2_with fail
    go_roundw
    case rel=>exact ⟨k + 1,d + nq,by omega,by go_num,by simp,by rw [t1.out,t2.out,HE.out]⟩
    case measure=>simp [intOf];omega
   ·have hf:(l1 == l2) = false:=by
     rw [beq_eq_false_iff_ne]
     rintro rfl
     exact hc rfl
    have hg:(gb l1 k != gb l2 k) = true:=bne_iff_ne.2 hc
    have HF:=Lib.hid hf
    clear hc e1 e2 t1 t2 hf
    generalize gb l1 k = c at *
    generalize gb l2 k = c' at *
    go_wp2_with fail
    go_quiet (fail)
    go_wp2_with fail
    go_ret
    exact ⟨retBool HF.out.symm,d + nq,by simp⟩
  ·have hf:(l1 == l2) = true:=by
    rw [beq_iff_eq]
    have:=HE.out
    rwa [List.take_of_length_le (by rw [H1.out];omega),List.take_of_length_le (by rw [H2.out];omega)] at this
   have HF:=Lib.hid hf
   clear hf
   go_wp2_with fail
   go_ret
   exact ⟨retBool HF.out.symm,d,rfl⟩
theorem Same_any (b1 o1 b2 o2 n m ca cb:Nat) (l1 l2:List Int) (w:World) (h1:l1.length = n) (h2:l2.length = m) (hm:n ≤ 9223372036854775807) (c1:CellsAt w .u8 b1 o1 l1) (c2:CellsAt w .u8 b2 o2 l2) :
  Calls Tryz.prog 13 #[.slice (some ⟨b1,o1,none⟩) n ca,.slice (some ⟨b2,o2,none⟩) m cb] w fun e w'=>e = .returned (.bool (l1 == l2)) ∧ ∃ d,w' = w.drewN d:=by
 by_cases h:n = m
 ·subst h
  exact Same_eq b1 o1 b2 o2 n ca cb l1 l2 w h1 h2 hm c1 c2
 ·have e:(l1 == l2) = false:=by
   rw [beq_eq_false_iff_ne]
   rintro rfl
   exact h (h1.symm.trans h2)
  rw [e]
  exact Same_ne _ _ n m ca cb w h
end Go.Proofs.YtahpnackkmbmgaaGreat
end

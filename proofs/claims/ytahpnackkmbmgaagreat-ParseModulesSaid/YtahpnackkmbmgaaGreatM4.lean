/- Part 4 of the proof: RAt. Conditions: none. -/
import Derived.Test.YtahpnackkmbmgaaGreatM3
import Derived.Deep.RegionHeld3
set_option linter.all false
set_option linter.unusedVariables false
set_option linter.unusedSimpArgs false
section
namespace Go.Proofs.YtahpnackkmbmgaaGreat
open Go.RowKit
theorem bytes_small (R:Int):(bytesS R).length ≤ 9223372036854775807:=by
 have:=bytesS_len R
 have h2:sizeZ R ≤ 4:=by unfold sizeZ;repeat' split <;> omega
 omega
theorem lost_snoc {l:List Int} {k:Nat} (h:∀ n,1 ≤ n → n < k → n ≤ l.length → trialB l n = false) (hk:trialB l k = false):∀ n,1 ≤ n → n < k + 1 → n ≤ l.length → trialB l n = false:=fun n h1 h2 h3=>by
 by_cases e:n = k
 ·rw [e];exact hk
 ·exact h n h1 (by omega) h3
theorem trial_isno {l:List Int} {k:Nat} {R:Int} (hR:refR l k = R) (h:isB R = false):trialB l k = false:=by unfold trialB;rw [hR,h];rfl
theorem trial_bad {l:List Int} {k:Nat} {R:Int} (hR:refR l k = R) (h:(bytesS R == l.take k) = false):trialB l k = false:=by unfold trialB;rw [hR,h,Bool.and_false]
theorem trial_good {l:List Int} {k:Nat} {R:Int} (hR:refR l k = R) (hI:isB R = true) (h:(bytesS R == l.take k) = true):trialB l k = true:=by unfold trialB;rw [hR,hI,h];rfl
theorem Is_no (r:Int) (w:World) (n:Nat) (h:isB r = false):Calls Tryz.prog 83 #[.int .i64 r] (w.drewN n) fun e w''=>e = .returned (.bool false) ∧ ∃ m,w'' = w.drewN m:=by
 have:=Is_any r (w.drewN n)
 rw [h] at this
 exact this.mono fun _ _ hh=>⟨hh.1,n,hh.2.symm⟩
def atTold (r:Int × Int):Value:=.tuple #[.int .i64 r.1,.int .i64 r.2]
set_option maxRecDepth 100000 in
set_option maxHeartbeats 16000000 in
theorem At_any (b off len cap a:Nat) (l:List Int) (w:World) (hl:l.length = len) (h0:a < len) (hcap:len ≤ cap) (hlm:len ≤ 4611686018427387904) (hm:len ≤ 9223372036854775807) (hb:Byt l) (hw:b < w.heap.size) (hc:CellsAt w .u8 b off l) :
  Calls Tryz.prog 50 #[.slice (some ⟨b,off,none⟩) len cap,.int .i64 (a:Int)] w fun e w'=>e = .returned (atTold (nextS (l.drop a))) ∧ Below w.heap.size w w':=by
 have HL:=Lib.hid hl
 have HB:=Lib.hid hb
 have HC:=Lib.hid hc
 clear hl hb hc
 go_enter Tryz.func50,Tryz.ntmps50
 go_wp2_with fail
 go_loopw [6] (fun i wr=>∃ k:Nat,1 ≤ k ∧ k ≤ 5 ∧ i = .int .i64 k ∧ Below w.heap.size w wr ∧ ∀ n,1 ≤ n → n < k → n ≤ (l.drop a).length → trialB (l.drop a) n = false) (fun i _=>5 - (intOf i).toNat)
 case atStart=>exact ⟨1,by omega,by omega,rfl,Below.refl _ _,fun n h1 h2=>by omega⟩
 case round =>
  obtain ⟨k,hk1,hk5,rfl,hbel,hE⟩:=hrel
  have hwr:b < wr.heap.size:=Nat.lt_of_lt_of_le hw hbel.size
  have HE:=Lib.hid hE
  clear hE
  by_cases hlen:a + k ≤ len
  ·obtain rfl | rfl | rfl | rfl | rfl:k = 1 ∨ k = 2 ∨ k = 3 ∨ k = 4 ∨ k = 5:=by omega
   ·have k0:wr.cell? ⟨b,off + a,none⟩ = some (.int .u8 (gb l (a))):=(hbel.cell (p:=⟨b,off + a,none⟩) hw).trans (HC.out (a) (by rw [HL.out];omega))
    have b0:=gb_bd HB.out (a)
    obtain ⟨c0,e0⟩:∃ c,c = gb l (a):=⟨_,rfl⟩
    rw [← e0] at k0 b0
    have eR:refR (l.drop a) 1 = c0:=by simp [refR,refS,offZ,gb_drop,← e0]
    have eL:((l.drop a).take 1).length = 1:=by rw [List.length_take,List.length_drop,HL.out];omega
    have hC:∀ W,Below wr.heap.size wr W → CellsAt W .u8 b (off + a) ((l.drop a).take 1):=fun W hW=>cells_take (cells_drop ((CellsAt.below HC.out hbel hw).below hW hwr) a) 1
    have HR:=Lib.hid eR
    have HLn:=Lib.hid eL
    have HCC:=Lib.hid hC
    clear eR eL hC
    have HE0:=Lib.hid e0
    clear e0
    cases hI:isB (c0)
    ·have HI:=Lib.hid hI
     go_wp2_with fail
     refine wp_loop_rounds 1 ?_
     rw [rounds_succ]
     go_wp2_with fail
     clear hI
     go_quiet ((go_at_call 83;exact Is_no _ _ _ HI.out))
     go_wp2_with fail
     go_roundw
     case rel=>exact ⟨2,by omega,by omega,rfl,(by with_reducible (repeat (first | exact hbel | apply below_drewN | apply Below.drew | (refine Below.alloc ?_ (by have:=hbel.size;simp <;> omega) _)))),lost_snoc HE.out (trial_isno HR.out HI.out)⟩
     case measure=>simp [intOf]
    ·cases hS:bytesS (c0) == (l.drop a).take 1
     ·go_wp2_with fail
      refine wp_loop_rounds 1 ?_
      rw [rounds_succ]
      go_wp2_with fail
      have sw:IntKind.i64.wrap ((a:Int) + 1) = (a:Int) + 1:=IntWalk.i64_in _ (by omega)
      have st:((a:Int) + 1).toNat = a + 1:=by omega
      have s0:(0:Int) ≤ (a:Int) + 1:=by omega
      have s1:(0:Int) ≤ (a:Int):=by omega
      have s2:(a:Int) ≤ (a:Int) + 1:=by omega
      have s3:(a:Int) + 1 ≤ (cap:Int):=by omega
      have hca:¬ cap = a:=by omega
      have HM:=Lib.hid (bytes_small c0)
      have HI:=Lib.hid hI
      have HS:=Lib.hid hS
      clear hlen hm hlm hcap h0 hk1 hk5
      go_region_held3 (fun w'=>w'.cell? ⟨b,off + a,none⟩ = some (.int .u8 c0)) (go_keep)
       (first | (go_at_call 83;refine (Is_any _ _).mono ?_;rintro e w' ⟨rfl,rfl⟩) | (go_at_call 84;refine (Bytes_any _ _ HI.out).mono ?_;rintro e w' ⟨rfl,rfl⟩) | (go_at_call 13;refine (Same_any _ _ _ _ _ _ _ _ (bytesS c0) ((l.drop a).take 1) _ rfl HLn.out HM.out (by (with_reducible repeat apply CellsAt.drew);exact cells_new_at _ _ _ _ (by simp)) (HCC.out _ (by with_reducible (repeat (first | exact Below.refl _ _ | apply Below.drew | (refine Below.alloc ?_ (by simp <;> omega) _)))))).mono ?_;rintro e w' ⟨rfl,d,rfl⟩))
      go_wp2_with fail
      go_roundw
      case rel=>exact ⟨2,by omega,by omega,rfl,(by with_reducible (repeat (first | exact hbel | apply below_drewN | apply Below.drew | (refine Below.alloc ?_ (by have:=hbel.size;simp <;> omega) _)))),lost_snoc HE.out (trial_bad HR.out HS.out)⟩
      case measure=>simp [intOf]
     ·go_wp2_with fail
      refine wp_loop_rounds 1 ?_
      rw [rounds_succ]
      go_wp2_with fail
      have sw:IntKind.i64.wrap ((a:Int) + 1) = (a:Int) + 1:=IntWalk.i64_in _ (by omega)
      have st:((a:Int) + 1).toNat = a + 1:=by omega
      have s0:(0:Int) ≤ (a:Int) + 1:=by omega
      have s1:(0:Int) ≤ (a:Int):=by omega
      have s2:(a:Int) ≤ (a:Int) + 1:=by omega
      have s3:(a:Int) + 1 ≤ (cap:Int):=by omega
      have hca:¬ cap = a:=by omega
      have HM:=Lib.hid (bytes_small c0)
      have HI:=Lib.hid hI
      have HS:=Lib.hid hS
      clear hlen hm hlm hcap h0 hk1 hk5
      go_region_held3 (fun w'=>w'.cell? ⟨b,off + a,none⟩ = some (.int .u8 c0)) (go_keep)
       (first | (go_at_call 83;refine (Is_any _ _).mono ?_;rintro e w' ⟨rfl,rfl⟩) | (go_at_call 84;refine (Bytes_any _ _ HI.out).mono ?_;rintro e w' ⟨rfl,rfl⟩) | (go_at_call 13;refine (Same_any _ _ _ _ _ _ _ _ (bytesS c0) ((l.drop a).take 1) _ rfl HLn.out HM.out (by (with_reducible repeat apply CellsAt.drew);exact cells_new_at _ _ _ _ (by simp)) (HCC.out _ (by with_reducible (repeat (first | exact Below.refl _ _ | apply Below.drew | (refine Below.alloc ?_ (by simp <;> omega) _)))))).mono ?_;rintro e w' ⟨rfl,d,rfl⟩))
      go_wp2_with fail
      go_ret2
      have hw:=trial_won (byt_drop HB.out a) (n:=1) (by omega) (by omega) (by have:=HLn.out;rw [List.length_take] at this;omega) (trial_good HR.out HI.out HS.out)
      rw [HR.out] at hw
      exact ⟨by rw [hw];rfl,(by with_reducible (repeat (first | exact hbel | apply below_drewN | apply Below.drew | (refine Below.alloc ?_ (by have:=hbel.size;simp <;> omega) _))))⟩
   ·have k0:wr.cell? ⟨b,off + a,none⟩ = some (.int .u8 (gb l (a))):=(hbel.cell (p:=⟨b,off + a,none⟩) hw).trans (HC.out (a) (by rw [HL.out];omega))
    have b0:=gb_bd HB.out (a)
    obtain ⟨c0,e0⟩:∃ c,c = gb l (a):=⟨_,rfl⟩
    rw [← e0] at k0 b0
    have k1:wr.cell? ⟨b,off + (a + 1),none⟩ = some (.int .u8 (gb l (a + 1))):=(hbel.cell (p:=⟨b,off + (a + 1),none⟩) hw).trans (HC.out (a + 1) (by rw [HL.out];omega))
    have b1:=gb_bd HB.out (a + 1)
    obtain ⟨c1,e1⟩:∃ c,c = gb l (a + 1):=⟨_,rfl⟩
    rw [← e1] at k1 b1
    have eR:refR (l.drop a) 2 = 64 * (c0 - 192) + c1 - 128:=by simp [refR,refS,offZ,gb_drop,← e0,← e1]
    have eL:((l.drop a).take 2).length = 2:=by rw [List.length_take,List.length_drop,HL.out];omega
    have hC:∀ W,Below wr.heap.size wr W → CellsAt W .u8 b (off + a) ((l.drop a).take 2):=fun W hW=>cells_take (cells_drop ((CellsAt.below HC.out hbel hw).below hW hwr) a) 2
    have HR:=Lib.hid eR
    have HLn:=Lib.hid eL
    have HCC:=Lib.hid hC
    clear eR eL hC
    have HE0:=Lib.hid e0
    have HE1:=Lib.hid e1
    clear e0 e1
    cases hI:isB (64 * (c0 - 192) + c1 - 128)
    ·have HI:=Lib.hid hI
     go_wp2_with fail
     refine wp_loop_rounds 2 ?_
     rw [rounds_succ]
     go_wp2_with fail
     rw [rounds_succ]
     go_wp2_with fail
     clear hI
     go_quiet ((go_at_call 83;exact Is_no _ _ _ HI.out))
     go_wp2_with fail
     go_roundw
     case rel=>exact ⟨3,by omega,by omega,rfl,(by with_reducible (repeat (first | exact hbel | apply below_drewN | apply Below.drew | (refine Below.alloc ?_ (by have:=hbel.size;simp <;> omega) _)))),lost_snoc HE.out (trial_isno HR.out HI.out)⟩
     case measure=>simp [intOf]
    ·cases hS:bytesS (64 * (c0 - 192) + c1 - 128) == (l.drop a).take 2
     ·go_wp2_with fail
      refine wp_loop_rounds 2 ?_
      rw [rounds_succ]
      go_wp2_with fail
      rw [rounds_succ]
      go_wp2_with fail
      generalize 64 * (c0 - 192) + c1 - 128 = R at *
      have sw:IntKind.i64.wrap ((a:Int) + 2) = (a:Int) + 2:=IntWalk.i64_in _ (by omega)
      have st:((a:Int) + 2).toNat = a + 2:=by omega
      have s0:(0:Int) ≤ (a:Int) + 2:=by omega
      have s1:(0:Int) ≤ (a:Int):=by omega
      have s2:(a:Int) ≤ (a:Int) + 2:=by omega
      have s3:(a:Int) + 2 ≤ (cap:Int):=by omega
      have hca:¬ cap = a:=by omega
      have HM:=Lib.hid (bytes_small R)
      have HI:=Lib.hid hI
      have HS:=Lib.hid hS
      clear hlen hm hlm hcap h0 hk1 hk5
      go_region_held3 (fun w'=>w'.cell? ⟨b,off + a,none⟩ = some (.int .u8 c0)) (go_keep)
       (first | (go_at_call 83;refine (Is_any _ _).mono ?_;rintro e w' ⟨rfl,rfl⟩) | (go_at_call 84;refine (Bytes_any _ _ HI.out).mono ?_;rintro e w' ⟨rfl,rfl⟩) | (go_at_call 13;refine (Same_any _ _ _ _ _ _ _ _ (bytesS R) ((l.drop a).take 2) _ rfl HLn.out HM.out (by (with_reducible repeat apply CellsAt.drew);exact cells_new_at _ _ _ _ (by simp)) (HCC.out _ (by with_reducible (repeat (first | exact Below.refl _ _ | apply Below.drew | (refine Below.alloc ?_ (by simp <;> omega) _)))))).mono ?_;rintro e w' ⟨rfl,d,rfl⟩))
      go_wp2_with fail
      go_roundw
      case rel=>exact ⟨3,by omega,by omega,rfl,(by with_reducible (repeat (first | exact hbel | apply below_drewN | apply Below.drew | (refine Below.alloc ?_ (by have:=hbel.size;simp <;> omega) _)))),lost_snoc HE.out (trial_bad HR.out HS.out)⟩
      case measure=>simp [intOf]
     ·go_wp2_with fail
      refine wp_loop_rounds 2 ?_
      rw [rounds_succ]
      go_wp2_with fail
      rw [rounds_succ]
      go_wp2_with fail
      generalize 64 * (c0 - 192) + c1 - 128 = R at *
      have sw:IntKind.i64.wrap ((a:Int) + 2) = (a:Int) + 2:=IntWalk.i64_in _ (by omega)
      have st:((a:Int) + 2).toNat = a + 2:=by omega
      have s0:(0:Int) ≤ (a:Int) + 2:=by omega
      have s1:(0:Int) ≤ (a:Int):=by omega
      have s2:(a:Int) ≤ (a:Int) + 2:=by omega
      have s3:(a:Int) + 2 ≤ (cap:Int):=by omega
      have hca:¬ cap = a:=by omega
      have HM:=Lib.hid (bytes_small R)
      have HI:=Lib.hid hI
      have HS:=Lib.hid hS
      clear hlen hm hlm hcap h0 hk1 hk5
      go_region_held3 (fun w'=>w'.cell? ⟨b,off + a,none⟩ = some (.int .u8 c0)) (go_keep)
       (first | (go_at_call 83;refine (Is_any _ _).mono ?_;rintro e w' ⟨rfl,rfl⟩) | (go_at_call 84;refine (Bytes_any _ _ HI.out).mono ?_;rintro e w' ⟨rfl,rfl⟩) | (go_at_call 13;refine (Same_any _ _ _ _ _ _ _ _ (bytesS R) ((l.drop a).take 2) _ rfl HLn.out HM.out (by (with_reducible repeat apply CellsAt.drew);exact cells_new_at _ _ _ _ (by simp)) (HCC.out _ (by with_reducible (repeat (first | exact Below.refl _ _ | apply Below.drew | (refine Below.alloc ?_ (by simp <;> omega) _)))))).mono ?_;rintro e w' ⟨rfl,d,rfl⟩))
      go_wp2_with fail
      go_ret2
      have hw:=trial_won (byt_drop HB.out a) (n:=2) (by omega) (by omega) (by have:=HLn.out;rw [List.length_take] at this;omega) (trial_good HR.out HI.out HS.out)
      rw [HR.out] at hw
      exact ⟨by rw [hw];rfl,(by with_reducible (repeat (first | exact hbel | apply below_drewN | apply Below.drew | (refine Below.alloc ?_ (by have:=hbel.size;simp <;> omega) _))))⟩
   ·have k0:wr.cell? ⟨b,off + a,none⟩ = some (.int .u8 (gb l (a))):=(hbel.cell (p:=⟨b,off + a,none⟩) hw).trans (HC.out (a) (by rw [HL.out];omega))
    have b0:=gb_bd HB.out (a)
    obtain ⟨c0,e0⟩:∃ c,c = gb l (a):=⟨_,rfl⟩
    rw [← e0] at k0 b0
    have k1:wr.cell? ⟨b,off + (a + 1),none⟩ = some (.int .u8 (gb l (a + 1))):=(hbel.cell (p:=⟨b,off + (a + 1),none⟩) hw).trans (HC.out (a + 1) (by rw [HL.out];omega))
    have b1:=gb_bd HB.out (a + 1)
    obtain ⟨c1,e1⟩:∃ c,c = gb l (a + 1):=⟨_,rfl⟩
    rw [← e1] at k1 b1
    have k2:wr.cell? ⟨b,off + (a + 2),none⟩ = some (.int .u8 (gb l (a + 2))):=(hbel.cell (p:=⟨b,off + (a + 2),none⟩) hw).trans (HC.out (a + 2) (by rw [HL.out];omega))
    have b2:=gb_bd HB.out (a + 2)
    obtain ⟨c2,e2⟩:∃ c,c = gb l (a + 2):=⟨_,rfl⟩
    rw [← e2] at k2 b2
    have eR:refR (l.drop a) 3 = 64 * (64 * (c0 - 224) + c1 - 128) + c2 - 128:=by simp [refR,refS,offZ,gb_drop,← e0,← e1,← e2]
    have eL:((l.drop a).take 3).length = 3:=by rw [List.length_take,List.length_drop,HL.out];omega
    have hC:∀ W,Below wr.heap.size wr W → CellsAt W .u8 b (off + a) ((l.drop a).take 3):=fun W hW=>cells_take (cells_drop ((CellsAt.below HC.out hbel hw).below hW hwr) a) 3
    have HR:=Lib.hid eR
    have HLn:=Lib.hid eL
    have HCC:=Lib.hid hC
    clear eR eL hC
    have HE0:=Lib.hid e0
    have HE1:=Lib.hid e1
    have HE2:=Lib.hid e2
    clear e0 e1 e2
    cases hI:isB (64 * (64 * (c0 - 224) + c1 - 128) + c2 - 128)
    ·have HI:=Lib.hid hI
     go_wp2_with fail
     refine wp_loop_rounds 3 ?_
     rw [rounds_succ]
     go_wp2_with fail
     rw [rounds_succ]
     go_wp2_with fail
     rw [rounds_succ]
     go_wp2_with fail
     clear hI
     go_quiet ((go_at_call 83;exact Is_no _ _ _ HI.out))
     go_wp2_with fail
     go_roundw
     case rel=>exact ⟨4,by omega,by omega,rfl,(by with_reducible (repeat (first | exact hbel | apply below_drewN | apply Below.drew | (refine Below.alloc ?_ (by have:=hbel.size;simp <;> omega) _)))),lost_snoc HE.out (trial_isno HR.out HI.out)⟩
     case measure=>simp [intOf]
    ·cases hS:bytesS (64 * (64 * (c0 - 224) + c1 - 128) + c2 - 128) == (l.drop a).take 3
     ·go_wp2_with fail
      refine wp_loop_rounds 3 ?_
      rw [rounds_succ]
      go_wp2_with fail
      rw [rounds_succ]
      go_wp2_with fail
      rw [rounds_succ]
      go_wp2_with fail
      generalize 64 * (64 * (c0 - 224) + c1 - 128) + c2 - 128 = R at *
      have sw:IntKind.i64.wrap ((a:Int) + 3) = (a:Int) + 3:=IntWalk.i64_in _ (by omega)
      have st:((a:Int) + 3).toNat = a + 3:=by omega
      have s0:(0:Int) ≤ (a:Int) + 3:=by omega
      have s1:(0:Int) ≤ (a:Int):=by omega
      have s2:(a:Int) ≤ (a:Int) + 3:=by omega
      have s3:(a:Int) + 3 ≤ (cap:Int):=by omega
      have hca:¬ cap = a:=by omega
      have HM:=Lib.hid (bytes_small R)
      have HI:=Lib.hid hI
      have HS:=Lib.hid hS
      clear hlen hm hlm hcap h0 hk1 hk5
      go_region_held3 (fun w'=>w'.cell? ⟨b,off + a,none⟩ = some (.int .u8 c0)) (go_keep)
       (first | (go_at_call 83;refine (Is_any _ _).mono ?_;rintro e w' ⟨rfl,rfl⟩) | (go_at_call 84;refine (Bytes_any _ _ HI.out).mono ?_;rintro e w' ⟨rfl,rfl⟩) | (go_at_call 13;refine (Same_any _ _ _ _ _ _ _ _ (bytesS R) ((l.drop a).take 3) _ rfl HLn.out HM.out (by (with_reducible repeat apply CellsAt.drew);exact cells_new_at _ _ _ _ (by simp)) (HCC.out _ (by with_reducible (repeat (first | exact Below.refl _ _ | apply Below.drew | (refine Below.alloc ?_ (by simp <;> omega) _)))))).mono ?_;rintro e w' ⟨rfl,d,rfl⟩))
      go_wp2_with fail
      go_roundw
      case rel=>exact ⟨4,by omega,by omega,rfl,(by with_reducible (repeat (first | exact hbel | apply below_drewN | apply Below.drew | (refine Below.alloc ?_ (by have:=hbel.size;simp <;> omega) _)))),lost_snoc HE.out (trial_bad HR.out HS.out)⟩
      case measure=>simp [intOf]
     ·go_wp2_with fail
      refine wp_loop_rounds 3 ?_
      rw [rounds_succ]
      go_wp2_with fail
      rw [rounds_succ]
      go_wp2_with fail
      rw [rounds_succ]
      go_wp2_with fail
      generalize 64 * (64 * (c0 - 224) + c1 - 128) + c2 - 128 = R at *
      have sw:IntKind.i64.wrap ((a:Int) + 3) = (a:Int) + 3:=IntWalk.i64_in _ (by omega)
      have st:((a:Int) + 3).toNat = a + 3:=by omega
      have s0:(0:Int) ≤ (a:Int) + 3:=by omega
      have s1:(0:Int) ≤ (a:Int):=by omega
      have s2:(a:Int) ≤ (a:Int) + 3:=by omega
      have s3:(a:Int) + 3 ≤ (cap:Int):=by omega
      have hca:¬ cap = a:=by omega
      have HM:=Lib.hid (bytes_small R)
      have HI:=Lib.hid hI
      have HS:=Lib.hid hS
      clear hlen hm hlm hcap h0 hk1 hk5
      go_region_held3 (fun w'=>w'.cell? ⟨b,off + a,none⟩ = some (.int .u8 c0)) (go_keep)
       (first | (go_at_call 83;refine (Is_any _ _).mono ?_;rintro e w' ⟨rfl,rfl⟩) | (go_at_call 84;refine (Bytes_any _ _ HI.out).mono ?_;rintro e w' ⟨rfl,rfl⟩) | (go_at_call 13;refine (Same_any _ _ _ _ _ _ _ _ (bytesS R) ((l.drop a).take 3) _ rfl HLn.out HM.out (by (with_reducible repeat apply CellsAt.drew);exact cells_new_at _ _ _ _ (by simp)) (HCC.out _ (by with_reducible (repeat (first | exact Below.refl _ _ | apply Below.drew | (refine Below.alloc ?_ (by simp <;> omega) _)))))).mono ?_;rintro e w' ⟨rfl,d,rfl⟩))
      go_wp2_with fail
      go_ret2
      have hw:=trial_won (byt_drop HB.out a) (n:=3) (by omega) (by omega) (by have:=HLn.out;rw [List.length_take] at this;omega) (trial_good HR.out HI.out HS.out)
      rw [HR.out] at hw
      exact ⟨by rw [hw];rfl,(by with_reducible (repeat (first | exact hbel | apply below_drewN | apply Below.drew | (refine Below.alloc ?_ (by have:=hbel.size;simp <;> omega) _))))⟩
   ·have k0:wr.cell? ⟨b,off + a,none⟩ = some (.int .u8 (gb l (a))):=(hbel.cell (p:=⟨b,off + a,none⟩) hw).trans (HC.out (a) (by rw [HL.out];omega))
    have b0:=gb_bd HB.out (a)
    obtain ⟨c0,e0⟩:∃ c,c = gb l (a):=⟨_,rfl⟩
    rw [← e0] at k0 b0
    have k1:wr.cell? ⟨b,off + (a + 1),none⟩ = some (.int .u8 (gb l (a + 1))):=(hbel.cell (p:=⟨b,off + (a + 1),none⟩) hw).trans (HC.out (a + 1) (by rw [HL.out];omega))
    have b1:=gb_bd HB.out (a + 1)
    obtain ⟨c1,e1⟩:∃ c,c = gb l (a + 1):=⟨_,rfl⟩
    rw [← e1] at k1 b1
    have k2:wr.cell? ⟨b,off + (a + 2),none⟩ = some (.int .u8 (gb l (a + 2))):=(hbel.cell (p:=⟨b,off + (a + 2),none⟩) hw).trans (HC.out (a + 2) (by rw [HL.out];omega))
    have b2:=gb_bd HB.out (a + 2)
    obtain ⟨c2,e2⟩:∃ c,c = gb l (a + 2):=⟨_,rfl⟩
    rw [← e2] at k2 b2
    have k3:wr.cell? ⟨b,off + (a + 3),none⟩ = some (.int .u8 (gb l (a + 3))):=(hbel.cell (p:=⟨b,off + (a + 3),none⟩) hw).trans (HC.out (a + 3) (by rw [HL.out];omega))
    have b3:=gb_bd HB.out (a + 3)
    obtain ⟨c3,e3⟩:∃ c,c = gb l (a + 3):=⟨_,rfl⟩
    rw [← e3] at k3 b3
    have eR:refR (l.drop a) 4 = 64 * (64 * (64 * (c0 - 240) + c1 - 128) + c2 - 128) + c3 - 128:=by simp [refR,refS,offZ,gb_drop,← e0,← e1,← e2,← e3]
    have eL:((l.drop a).take 4).length = 4:=by rw [List.length_take,List.length_drop,HL.out];omega
    have hC:∀ W,Below wr.heap.size wr W → CellsAt W .u8 b (off + a) ((l.drop a).take 4):=fun W hW=>cells_take (cells_drop ((CellsAt.below HC.out hbel hw).below hW hwr) a) 4
    have HR:=Lib.hid eR
    have HLn:=Lib.hid eL
    have HCC:=Lib.hid hC
    clear eR eL hC
    have HE0:=Lib.hid e0
    have HE1:=Lib.hid e1
    have HE2:=Lib.hid e2
    have HE3:=Lib.hid e3
    clear e0 e1 e2 e3
    cases hI:isB (64 * (64 * (64 * (c0 - 240) + c1 - 128) + c2 - 128) + c3 - 128)
    ·have HI:=Lib.hid hI
     go_wp2_with fail
     refine wp_loop_rounds 4 ?_
     rw [rounds_succ]
     go_wp2_with fail
     rw [rounds_succ]
     go_wp2_with fail
     rw [rounds_succ]
     go_wp2_with fail
     rw [rounds_succ]
     go_wp2_with fail
     clear hI
     go_quiet ((go_at_call 83;exact Is_no _ _ _ HI.out))
     go_wp2_with fail
     go_roundw
     case rel=>exact ⟨5,by omega,by omega,rfl,(by with_reducible (repeat (first | exact hbel | apply below_drewN | apply Below.drew | (refine Below.alloc ?_ (by have:=hbel.size;simp <;> omega) _)))),lost_snoc HE.out (trial_isno HR.out HI.out)⟩
     case measure=>simp [intOf]
    ·cases hS:bytesS (64 * (64 * (64 * (c0 - 240) + c1 - 128) + c2 - 128) + c3 - 128) == (l.drop a).take 4
     ·go_wp2_with fail
      refine wp_loop_rounds 4 ?_
      rw [rounds_succ]
      go_wp2_with fail
      rw [rounds_succ]
      go_wp2_with fail
      rw [rounds_succ]
      go_wp2_with fail
      rw [rounds_succ]
      go_wp2_with fail
      generalize 64 * (64 * (64 * (c0 - 240) + c1 - 128) + c2 - 128) + c3 - 128 = R at *
      have sw:IntKind.i64.wrap ((a:Int) + 4) = (a:Int) + 4:=IntWalk.i64_in _ (by omega)
      have st:((a:Int) + 4).toNat = a + 4:=by omega
      have s0:(0:Int) ≤ (a:Int) + 4:=by omega
      have s1:(0:Int) ≤ (a:Int):=by omega
      have s2:(a:Int) ≤ (a:Int) + 4:=by omega
      have s3:(a:Int) + 4 ≤ (cap:Int):=by omega
      have hca:¬ cap = a:=by omega
      have HM:=Lib.hid (bytes_small R)
      have HI:=Lib.hid hI
      have HS:=Lib.hid hS
      clear hlen hm hlm hcap h0 hk1 hk5
      go_region_held3 (fun w'=>w'.cell? ⟨b,off + a,none⟩ = some (.int .u8 c0)) (go_keep)
       (first | (go_at_call 83;refine (Is_any _ _).mono ?_;rintro e w' ⟨rfl,rfl⟩) | (go_at_call 84;refine (Bytes_any _ _ HI.out).mono ?_;rintro e w' ⟨rfl,rfl⟩) | (go_at_call 13;refine (Same_any _ _ _ _ _ _ _ _ (bytesS R) ((l.drop a).take 4) _ rfl HLn.out HM.out (by (with_reducible repeat apply CellsAt.drew);exact cells_new_at _ _ _ _ (by simp)) (HCC.out _ (by with_reducible (repeat (first | exact Below.refl _ _ | apply Below.drew | (refine Below.alloc ?_ (by simp <;> omega) _)))))).mono ?_;rintro e w' ⟨rfl,d,rfl⟩))
      go_wp2_with fail
      go_roundw
      case rel=>exact ⟨5,by omega,by omega,rfl,(by with_reducible (repeat (first | exact hbel | apply below_drewN | apply Below.drew | (refine Below.alloc ?_ (by have:=hbel.size;simp <;> omega) _)))),lost_snoc HE.out (trial_bad HR.out HS.out)⟩
      case measure=>simp [intOf]
     ·go_wp2_with fail
      refine wp_loop_rounds 4 ?_
      rw [rounds_succ]
      go_wp2_with fail
      rw [rounds_succ]
      go_wp2_with fail
      rw [rounds_succ]
      go_wp2_with fail
      rw [rounds_succ]
      go_wp2_with fail
      generalize 64 * (64 * (64 * (c0 - 240) + c1 - 128) + c2 - 128) + c3 - 128 = R at *
      have sw:IntKind.i64.wrap ((a:Int) + 4) = (a:Int) + 4:=IntWalk.i64_in _ (by omega)
      have st:((a:Int) + 4).toNat = a + 4:=by omega
      have s0:(0:Int) ≤ (a:Int) + 4:=by omega
      have s1:(0:Int) ≤ (a:Int):=by omega
      have s2:(a:Int) ≤ (a:Int) + 4:=by omega
      have s3:(a:Int) + 4 ≤ (cap:Int):=by omega
      have hca:¬ cap = a:=by omega
      have HM:=Lib.hid (bytes_small R)
      have HI:=Lib.hid hI
      have HS:=Lib.hid hS
      clear hlen hm hlm hcap h0 hk1 hk5
      go_region_held3 (fun w'=>w'.cell? ⟨b,off + a,none⟩ = some (.int .u8 c0)) (go_keep)
       (first | (go_at_call 83;refine (Is_any _ _).mono ?_;rintro e w' ⟨rfl,rfl⟩) | (go_at_call 84;refine (Bytes_any _ _ HI.out).mono ?_;rintro e w' ⟨rfl,rfl⟩) | (go_at_call 13;refine (Same_any _ _ _ _ _ _ _ _ (bytesS R) ((l.drop a).take 4) _ rfl HLn.out HM.out (by (with_reducible repeat apply CellsAt.drew);exact cells_new_at _ _ _ _ (by simp)) (HCC.out _ (by with_reducible (repeat (first | exact Below.refl _ _ | apply Below.drew | (refine Below.alloc ?_ (by simp <;> omega) _)))))).mono ?_;rintro e w' ⟨rfl,d,rfl⟩))
      go_wp2_with fail
      go_ret2
      have hw:=trial_won (byt_drop HB.out a) (n:=4) (by omega) (by omega) (by have:=HLn.out;rw [List.length_take] at this;omega) (trial_good HR.out HI.out HS.out)
      rw [HR.out] at hw
      exact ⟨by rw [hw];rfl,(by with_reducible (repeat (first | exact hbel | apply below_drewN | apply Below.drew | (refine Below.alloc ?_ (by have:=hbel.size;simp <;> omega) _))))⟩
   ·have hz:nextS (l.drop a) = (0,0):=trials_lost (byt_drop HB.out a) fun n h1 h4 h3=>HE.out n h1 (by rw [List.length_drop,HL.out] at h3;omega) h3
    have HZ:=Lib.hid hz
    clear hz
    go_wp2_with fail
    go_ret2
    exact ⟨by rw [HZ.out];rfl,hbel⟩
  ·by_cases hk:k = 5
   ·subst hk
    have hz:nextS (l.drop a) = (0,0):=trials_lost (byt_drop HB.out a) fun n h1 h4 h3=>HE.out n h1 (by rw [List.length_drop,HL.out] at h3;omega) h3
    have HZ:=Lib.hid hz
    clear hz
    go_wp2_with fail
    go_ret2
    exact ⟨by rw [HZ.out];rfl,hbel⟩
   ·have hk4:k ≤ 4:=by omega
    have hz:nextS (l.drop a) = (0,0):=trials_lost (byt_drop HB.out a) fun n h1 h4 h3=>HE.out n h1 (by rw [List.length_drop,HL.out] at h3;omega) h3
    have HZ:=Lib.hid hz
    clear hz
    go_wp2_with fail
    go_ret2
    exact ⟨by rw [HZ.out];rfl,hbel⟩
end Go.Proofs.YtahpnackkmbmgaaGreat
end

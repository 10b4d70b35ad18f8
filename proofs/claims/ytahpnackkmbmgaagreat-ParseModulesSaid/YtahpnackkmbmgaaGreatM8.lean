/- Part 8 of the proof: LRTok1. Conditions: none. -/
import Derived.Test.YtahpnackkmbmgaaGreatM5
import Derived.Test.YtahpnackkmbmgaaGreatM7
set_option linter.all false
set_option linter.unusedVariables false
set_option linter.unusedSimpArgs false
section
namespace Go.Proofs.YtahpnackkmbmgaaGreat
open Go.RowKit
theorem scan_kinds (c:Int):blankB c = true ∨ (blankB c = false ∧ c = 35) ∨ (blankB c = false ∧ c ≠ 35 ∧ runsB c = true) ∨ (blankB c = false ∧ c ≠ 35 ∧ runsB c = false):=by
 cases blankB c <;> cases runsB c <;> by_cases h:c = 35 <;> simp [h]
theorem blank_facts {c:Int} (h:blankB c = false):(c == 32) = false ∧ (c == 9) = false ∧ (c == 13) = false ∧ (c == 10) = false:=by
 rw [blank_no] at h
 simp only [beq_eq_false_iff_ne,ne_eq]
 omega
set_option maxRecDepth 100000 in
set_option maxHeartbeats 8000000 in
theorem RefTokens_any (A:Option Addr) (len cap:Nat) (l:List Int) (w:World) (hl:l.length = len) (hcap:len ≤ cap) (hm:len ≤ 9223372036854775807) (hb:Byt l) (hs:SliceAt w .u8 A l) (hmax:len ≤ 65536) :
  Calls Tryz.prog 24 #[.slice A len cap] w (TksTold .i64 l w):=by
 have h6:(len:Int) ≤ 65536:=by omega
 have h6':¬ (65536:Int) < (len:Int):=by omega
 obtain ⟨i0,hi,hz0,hz1,hz2⟩:=info_parts tok_info
 have C0:=fun w=>Lib.hid (Own_any w)
 have HL:=Lib.hid hl
 have HB:=Lib.hid hb
 have HS:=Lib.hid hs
 clear hl hb hs
 go_enter Tryz.func24,Tryz.ntmps24
 go_wp2_with fail
 refine (C0 _).out.mono ?_
 rintro e w0 ⟨rfl,hw0⟩
 have hsz0:w0.heap.size = w.heap.size + 2:=by rw [hw0];simp
 have HB0:=Lib.hid (show Below w.heap.size w w0 by rw [hw0];exact below_own w)
 have HST:=Lib.hid (show StrsAt w0 (w.heap.size + 1) 0 signWs by rw [hw0];exact strs_new 9 signWs (by simp))
 have HZ0:=Lib.hid hsz0
 clear hw0 C0 hsz0
 go_wp2_with fail
 go_loopw [5,8,9] (fun v i r wr=>∃ (k:Nat) (rem:Bool) (ts:List Tok),k ≤ len ∧ ts.length ≤ k ∧ i = .int .i64 k ∧ r = .bool rem ∧ scanS l 0 false [] = scanS l k rem ts ∧ Below w0.heap.size w0 wr ∧ OwnT wr w0.heap.size v ts) (fun _ i _ _=>len - (intOf i).toNat)
 case atStart=>exact ⟨0,false,[],by omega,Nat.le_refl _,rfl,rfl,rfl,Below.refl _ _,OwnT.nil _ _⟩
 case round =>
  obtain ⟨k,rem,ts,hk,htl,rfl,rfl,hE,hbel,ho⟩:=hrel
  have hz:w0.heap.size ≤ wr.heap.size:=hbel.size
  have HBW:=Lib.hid (HB0.out.trans (hbel.mono (by have:=HZ0.out;omega)))
  have HE:=Lib.hid hE
  have HW:=Lib.hid hbel
  have HO:=Lib.hid ho
  clear hE hbel ho
  by_cases hlt:k < len
  ·obtain ⟨b,off,rfl,hlb,hc⟩:=(HS.out.below_all HBW.out).cells (by rw [HL.out];omega)
   have CC:=Lib.hid (At_at b off len cap k l wr HL.out hlt hcap (by omega) hm HB.out hlb hc)
   have HC:=Lib.hid hc
   have d1:(k:Int) < (len:Int):=by omega
   have d2:(0:Int) ≤ (k:Int):=by omega
   have HLT:=Lib.hid (show k < l.length by rw [HL.out];exact hlt)
   clear hc
   obtain ⟨c,ec⟩:∃ c,c = gb l k:=⟨_,rfl⟩
   have HCB:=Lib.hid ec
   have hcb:=gb_bd HB.out k
   rw [← ec] at hcb
   obtain ⟨n,en⟩:∃ n,n = nx l k:=⟨_,rfl⟩
   have HN:=Lib.hid en
   have HNB:=Lib.hid (fun (h:nx l k ≠ 0)=>(nx_bd (l:=l) (a:=k) h).2.2 HLT.out)
   rw [← en] at CC
   clear en
   go_wp2_with fail
   refine CC.out.mono ?_
   rintro e w1 ⟨rfl,hb1⟩
   have kb:w1.cell? ⟨b,off + k,none⟩ = some (.int .u8 c):=by rw [hb1.cell (p:=⟨b,off + k,none⟩) hlb,ec];exact HC.out k HLT.out
   have HO1:=Lib.hid (HO.out.below hb1)
   have HW1:=Lib.hid (HW.out.trans (hb1.mono hz))
   have hz1':w0.heap.size ≤ w1.heap.size:=Nat.le_trans hz hb1.size
   have hlb1:b < w1.heap.size:=Nat.lt_of_lt_of_le hlb hb1.size
   have HC1:=Lib.hid (HC.out.below hb1 hlb)
   clear CC hb1 HC HO HW HBW ec
   by_cases hn:n = 0
   ·have g:=z_of hn
    have hv:=Lib.hid (HE.out.trans (scan_utf HLT.out (HN.out.symm.trans hn)))
    clear hn HNB HN
    go_wp2_with fail
    refine bodyPost_ret (v:=.tuple #[.slice none 0 0,.int .i64 (k:Int),.int .i64 3]) (by simp [results,Tryz.results24,go_sem]) rfl ?_
    exact tks_of hv.out rfl (OwnT.nil _ _) (HB0.out.trans (HW1.out.mono (by have:=HZ0.out;omega)))
   ·have g:=nz_of hn
    have HN0:=Lib.hid (show nx l k ≠ 0 from fun h=>hn (HN.out.trans h))
    cases rem
    ·rcases scan_kinds c with hbl | ⟨hbl,h35⟩ | ⟨hbl,h35,hr⟩ | ⟨hbl,h35,hr⟩
     ·have hv:=Lib.hid (HE.out.trans (scan_blank HLT.out HN0.out (by rw [← HCB.out];exact hbl)))
      have hb4:=(blank_iff c).1 hbl
      clear hbl hcb HNB HN
      rcases hb4 with rfl | rfl | rfl | rfl
      all_goals
       go_wp2_with fail
       go_roundw
       case rel=>exact ⟨k + 1,false,ts,by omega,by omega,by go_num,rfl,hv.out,HW1.out,HO1.out⟩
       case measure=>simp [intOf];omega
     ·have hv:=Lib.hid (HE.out.trans (scan_hash HLT.out HN0.out (by rw [← HCB.out];exact h35)))
      subst h35
      clear hbl hcb HNB HN
      go_wp2_with fail
      go_roundw
      case rel=>exact ⟨k + 1,true,ts,by omega,by omega,by go_num,rfl,hv.out,HW1.out,HO1.out⟩
      case measure=>simp [intOf];omega
     ·clear hcb HNB HN d1
      have HR:=Lib.hid (show runsB (gb l k) = true by rw [← HCB.out];exact hr)
      have d11:¬ cap = k:=by omega
      obtain ⟨f1,f2,f3,f4⟩:=blank_facts hbl
      have f5:(c == 35) = false:=beq_eq_false_iff_ne.2 h35
      clear hbl h35 hr
      go_wp2_with fail
      obtain ⟨wo,ewo⟩:∃ wo:World,wo = w1:=⟨_,rfl⟩
      subst ewo
      go_loop [13] (fun j=>∃ e:Nat,k ≤ e ∧ e ≤ len ∧ j = .int .i64 e ∧ ∀ i,k ≤ i → i < e → runsB (gb l i) = true) (fun j=>len - (intOf j).toNat)
      case atStart=>exact ⟨k,Nat.le_refl _,hk,rfl,fun i h1 h2=>by omega⟩
      case round =>
       obtain ⟨e,hke,hel,rfl,hall⟩:=hrel
       have HALL:=Lib.hid hall
       clear hall
       by_cases hgo:e < len ∧ runsB (gb l e) = true
       ·obtain ⟨hlt2,hr2⟩:=hgo
        have d5:decide (e < len) = true:=decide_eq_true hlt2
        have d6:decide ((e:Int) < (len:Int)) = true:=decide_eq_true (by omega)
        have d7:(e:Int) < (len:Int):=by omega
        have d8:(0:Int) ≤ (e:Int):=by omega
        have kb2:=HC1.out e (by rw [HL.out];exact hlt2)
        have C0:=fun w=>Lib.hid (kind_any (gb l e) w)
        have hp:=(kind_pos (gb l e)).2 hr2
        have HR2:=Lib.hid hr2
        clear hr2
        obtain ⟨ck,ek⟩:∃ ck,ck = gb l e:=⟨_,rfl⟩
        rw [← ek] at kb2 C0 hp
        clear ek
        obtain ⟨kz,ekz⟩:∃ kz,kz = kindZ ck:=⟨_,rfl⟩
        rw [← ekz] at C0 hp
        clear ekz
        have d9:decide (0 < kz) = true:=decide_eq_true hp
        go_wp2_with fail
        refine (C0 _).out.mono ?_
        rintro e' w' ⟨rfl,rfl⟩
        clear C0
        go_wp2_with fail
        go_round
        case rel=>exact ⟨e + 1,by omega,by omega,by go_num,fun i h1 h2=>by
         by_cases h:i = e
         ·rw [h];exact HR2.out
         ·exact HALL.out i h1 (by omega)⟩
        case measure=>simp [intOf];omega
       ·have hx:e = len ∨ runsB (gb l e) = false:=by
         rcases Nat.lt_or_ge e len with h | h
         ·right;simpa [h] using hgo
         ·left;omega
        have hke':k < e:=by
         rcases Nat.lt_or_ge k e with h | h
         ·exact h
         ·obtain rfl:e = k:=by omega
          exact absurd ⟨hlt,HR.out⟩ hgo
        have hrn:=runAt_is hke (by rw [HL.out];exact hel) HALL.out (by rw [HL.out];exact hx)
        have HRN:=Lib.hid hrn
        clear hgo hrn
        have d3:(k:Int) < (e:Int):=by omega
        have d7:(k:Int) ≤ (e:Int):=by omega
        have d8:(0:Int) ≤ (e:Int):=by omega
        have d9:(e:Int) ≤ (len:Int):=by omega
        have d10:(e:Int) ≤ (cap:Int):=by omega
        have hsl:(strOfNums (runAt l k)).size = e - k:=by rw [str_len];exact HRN.out.2
        have CR:∀ w',Hid (Calls Tryz.prog 52 #[.string (strOfNums (runAt l k)),.int .i64 (k:Int)] w' fun e w2=>∃ kd tx n at_,e = .returned (.tuple #[.agg #[.int .u8 kd,.string tx,.int .i64 n,.int .i64 at_],.int .i64 (runS (strOfNums (runAt l k)) k).2]) ∧ ((runS (strOfNums (runAt l k)) k).2 = 0 → (⟨kd,tx,n,at_⟩:Tok) = (runS (strOfNums (runAt l k)) k).1) ∧ Below w'.heap.size w' w2):=fun w'=>Lib.hid ((refRun_any (strOfNums (runAt l k)) k w' (by omega) (by unfold maxLen;omega)).mono fun e w2 ⟨t,h1,h2,h3⟩=>⟨t.kind,t.text,t.n,t.at_,h1,h2,h3⟩)
        have kv:(convert 22 9 (.slice (some ⟨b,off + k,none⟩) (e - k) (cap - k))).run Tryz.prog wo = .ok (.string (strOfNums (runAt l k))) wo:=by
         refine run_convert_bytes_arg (P:=Tryz.prog) wo 22 5 Tryz.underlying22 Tryz.underlying5 b (off + k) (e - k) (cap - k) (runAt l k) HRN.out.2 (fun i hi=>?_) 9 Tryz.underlying9
         have:=cells_drop HC1.out k i (by rw [List.length_drop,HL.out];omega)
         rw [this]
         have e:gb (l.drop k) i = (runAt l k).getD i 0:=by
          rw [HRN.out.1,List.getD_eq_getElem?_getD,List.getElem?_take_of_lt hi]
          rfl
         rw [e]
        obtain ⟨S,eS⟩:∃ S,S = strOfNums (runAt l k):=⟨_,rfl⟩
        have HES:=Lib.hid eS
        rw [← eS] at CR kv
        obtain ⟨rc,erc⟩:∃ rc,rc = (runS S k).2:=⟨_,rfl⟩
        have HRC:=Lib.hid erc
        rw [← erc] at CR
        clear hsl eS erc
        have HX:=Lib.hid (show (e = len ∨ e < len) by omega)
        have HXX:=Lib.hid hx
        clear hx
        rcases HX.out with heq | hlt2
        have d5:decide (e < len) = false:=decide_eq_false (by omega)
        have d6:decide ((e:Int) < (len:Int)) = false:=decide_eq_false (by omega)
        have HEQ:=Lib.hid heq
        clear heq HXX HX
        rotate_left
        have d5:decide (e < len) = true:=decide_eq_true hlt2
        have d6:decide ((e:Int) < (len:Int)) = true:=decide_eq_true (by omega)
        have d12:(e:Int) < (len:Int):=by omega
        have kb2:=HC1.out e (by rw [HL.out];exact hlt2)
        have C1:=fun w=>Lib.hid (kind_any (gb l e) w)
        have hnp:¬ (0 < kindZ (gb l e)):=fun h=>by
         have h2:=(kind_pos (gb l e)).1 h
         rcases HXX.out with h3 | h3
         ·omega
         ·rw [h3] at h2;cases h2
        obtain ⟨ck,ek⟩:∃ ck,ck = gb l e:=⟨_,rfl⟩
        rw [← ek] at kb2 C1 hnp
        clear ek
        obtain ⟨kz,ekz⟩:∃ kz,kz = kindZ ck:=⟨_,rfl⟩
        rw [← ekz] at C1 hnp
        clear ekz HXX HX
        have d13:decide (0 < kz) = false:=decide_eq_false hnp
        clear hnp
        go_wp2_with fail
        refine (C1 _).out.mono ?_
        rintro e' w' ⟨rfl,rfl⟩
        clear C1
        go_wp2_with fail
        clear d12 d13 kb2
        all_goals
         refine (CR _).out.mono ?_
         rintro e' w2 ⟨kd,tx,n',at_,rfl,ht,hb2⟩
         have HT:=Lib.hid ht
         clear ht d5 d6 kv CR
         have hsz2:wo.heap.size ≤ w2.heap.size:=hb2.size
         have HO2:=Lib.hid (HO1.out.below hb2)
         have HW2:=Lib.hid (HW1.out.trans (hb2.mono hz1'))
         clear hb2 d3 d7 d8 d9 d10 kb
         by_cases hrc:rc = 0
         ·have hsc:=HE.out.trans (tok_ok HB.out HLT.out HR.out HES.out HRN.out.2 hke' HRC.out hrc (HT.out hrc) ts)
          have HSC:=Lib.hid hsc
          clear hsc HT HRC
          subst hrc
          go_wp2_with (at_builtin;refine wpList_append_own _ rfl _ _ 51 rfl w0.heap.size 63 i0 _ 4 40 Tryz.underlying51 hi hz0 hz1 hz2 rfl (by decide) _ _ _ rfl (OwnT.alloc (OwnT.alloc HO2.out _) _) ⟨w2.heap.size + 1,0,none⟩ 1 1 (Tok.cells ⟨kd,tx,n',at_⟩) rfl rfl ?c1 ?c2 ?c3 ?c4 ?c5 ?_)
          case c1 =>
           exact row_new _ (Tok.cells ⟨kd,tx,n',at_⟩) 63 (by simp)
          case c2=>intro u hu;simp [Tok.cells] at hu;rcases hu with rfl | rfl | rfl | rfl <;> rfl
          case c3=>unfold maxLen;omega
          case c4=>omega
          case c5=>first | omega | (simp;omega)
          intro v' w3 hown' hgrow _
          have ho3:=Lib.hid (OwnT.one hown')
          have hb3:=Lib.hid (((HW2.out.alloc (by omega) _).alloc (by first | omega | (simp;omega)) _).grown hgrow (by first | omega | (simp;omega)) (fun k hk=>(World.ownsRow.lt HO2.out k hk).1))
          clear hown' hgrow
          go_wp2_with fail
          go_roundw
          case rel=>exact ⟨e,false,ts ++ [⟨kd,tx,n',at_⟩],hel,by simp;omega,rfl,rfl,HSC.out,hb3.out,ho3.out⟩
          case measure=>simp [intOf];omega
         ·have g0:(rc != 0) = true:=bne_iff_ne.2 hrc
          have hsc:=HE.out.trans (tok_bad HB.out HLT.out HR.out HES.out HRC.out hrc ts)
          have HSC:=Lib.hid hsc
          have HRC0:=Lib.hid hrc
          clear hsc hrc HT HRC
          go_wp2_with fail
          refine bodyPost_ret (v:=.tuple #[.slice none 0 0,.int .i64 (k:Int),.int .i64 rc]) (by simp [results,Tryz.results24,go_sem]) rfl ?_
          exact tks_of HSC.out rfl (OwnT.nil _ _) (HB0.out.trans ((HW2.out.alloc (by omega) _).mono (by have:=HZ0.out;omega)))
     ·clear hcb HNB HN d1
      have HR:=Lib.hid (show runsB (gb l k) = false by rw [← HCB.out];exact hr)
      have HBL:=Lib.hid (show blankB (gb l k) = false by rw [← HCB.out];exact hbl)
      have H35:=Lib.hid (show gb l k ≠ 35 by rw [← HCB.out];exact h35)
      have d11:¬ cap = k:=by omega
      obtain ⟨f1,f2,f3,f4⟩:=blank_facts hbl
      have f5:(c == 35) = false:=beq_eq_false_iff_ne.2 h35
      have C1:=fun w=>Lib.hid (kind_any c w)
      have hnp:¬ (0 < kindZ c):=fun h=>by
       rw [(kind_pos c).1 h] at hr
       cases hr
      obtain ⟨kz,ekz⟩:∃ kz,kz = kindZ c:=⟨_,rfl⟩
      rw [← ekz] at C1 hnp
      have d13:decide (0 < kz) = false:=decide_eq_false hnp
      have d5:decide (k < len) = true:=decide_eq_true hlt
      have d6:decide ((k:Int) < (len:Int)) = true:=decide_eq_true (by omega)
      have d7:(k:Int) < (len:Int):=by omega
      clear hbl h35 hr ekz hnp
      go_wp2_with fail
      refine wp_loop_rounds 1 ?_
      rw [rounds_succ]
      go_wp2_with fail
      refine (C1 _).out.mono ?_
      rintro e w' ⟨rfl,rfl⟩
      clear C1
      go_wp2_with fail
      obtain ⟨wo,ewo⟩:∃ wo:World,wo = w1:=⟨_,rfl⟩
      subst ewo
      have hbO:=Lib.hid (HW1.out)
      go_loopw [16,17,18] (fun f i m wr=>∃ (j q:Nat) (S:ByteArray),j ≤ 25 ∧ i = .int .i64 j ∧ f = .string S ∧ wr = wo.drewN q ∧ ((S = ⟨#[]⟩ ∧ findS l k (signWs.drop j) = findS l k signWs) ∨ (1 ≤ S.size ∧ S = findS l k signWs))) (fun _ i _ _=>26 - (intOf i).toNat)
      case atStart=>exact ⟨0,0,⟨#[]⟩,by omega,rfl,rfl,rfl,.inl ⟨rfl,rfl⟩⟩
      case round =>
       obtain ⟨j,q,S,hj,rfl,rfl,rfl,hF⟩:=hrel
       rcases hF with ⟨rfl,hF⟩ | ⟨hS1,hF⟩
       ·have HF:=Lib.hid hF
        clear hF
        by_cases hj25:j < 25
        ·have hst:=fun n=>(HST.out.below (below_drewN HW1.out n) (by have:=HZ0.out;omega)) j hj25
         rw [Nat.zero_add] at hst
         have hsz:=sign_get hj25
         obtain ⟨x,ex⟩:∃ x,x = signWs.getD j ByteArray.empty:=⟨_,rfl⟩
         have HX:=Lib.hid (find_step (l:=l) (a:=k) (j:=j) (ws:=signWs) hj25 ex)
         rw [← ex] at hst hsz
         obtain ⟨hx1,hx2⟩:=hsz
         clear ex
         have st0:=hst q
         have d20:(j:Int) < 25:=by omega
         have d21:(0:Int) ≤ (j:Int):=by omega
         go_wp2_with fail
         have hw0:IntKind.i64.wrap ((k:Int) + (x.size:Int)) = (k:Int) + (x.size:Int):=IntWalk.i64_in _ (by omega)
         have hw1:0 ≤ (k:Int) + (x.size:Int):=by omega
         have hw2:((k:Int) + (x.size:Int)).toNat = k + x.size:=by omega
         by_cases hfit:k + x.size ≤ len
         ·have d22:decide ((k:Int) + (x.size:Int) ≤ (len:Int)) = true:=decide_eq_true (by omega)
          have d23:(k:Int) + (x.size:Int) ≤ (cap:Int):=by omega
          have d24:(k:Int) ≤ (k:Int) + (x.size:Int):=by omega
          have kv:∀ n,(convert 22 9 (.slice (some ⟨b,off + k,none⟩) x.size (cap - k))).run Tryz.prog (wo.drewN n) = .ok (.string (strOfNums ((l.drop k).take x.size))) (wo.drewN n):=fun n=>by
           have hlen:((l.drop k).take x.size).length = x.size:=by rw [List.length_take,List.length_drop,HL.out];omega
           refine run_convert_bytes_arg (P:=Tryz.prog) (wo.drewN n) 22 5 Tryz.underlying22 Tryz.underlying5 b (off + k) x.size (cap - k) ((l.drop k).take x.size) hlen (fun i hi=>?_) 9 Tryz.underlying9
           have:=cells_take (cells_drop HC1.out k) x.size i (by rw [hlen];exact hi)
           exact this
          have hbg:begB l k x = ((strOfNums ((l.drop k).take x.size)).toList == x.toList):=by
           unfold begB
           rw [HL.out,decide_eq_true hfit,Bool.true_and]
          have HBG:=Lib.hid hbg
          obtain ⟨S,eS⟩:∃ S,S = strOfNums ((l.drop k).take x.size):=⟨_,rfl⟩
          rw [← eS] at kv HBG
          clear eS hbg
          cases hbb:(S.toList == x.toList)
          ·go_quiet (fail)
           go_wp2_with fail
           exact ⟨⟨j + 1,_,⟨#[]⟩,by omega,by go_num,rfl,rfl,.inl ⟨rfl,by rw [← HF.out,HX.out,HBG.out,hbb];rfl⟩⟩,by simp [intOf];omega⟩
          ·go_quiet (fail)
           go_wp2_with fail
           exact ⟨⟨j + 1,_,x,by omega,by go_num,rfl,rfl,.inr ⟨hx1,by rw [← HF.out,HX.out,HBG.out,hbb];rfl⟩⟩,by simp [intOf];omega⟩
         ·have d22:decide ((k:Int) + (x.size:Int) ≤ (len:Int)) = false:=decide_eq_false (by omega)
          have hbg:begB l k x = false:=by
           unfold begB
           rw [HL.out,decide_eq_false hfit,Bool.false_and]
          have HBG:=Lib.hid hbg
          clear hbg
          go_quiet (fail)
          go_wp2_with fail
          exact ⟨⟨j + 1,_,⟨#[]⟩,by omega,by go_num,rfl,rfl,.inl ⟨rfl,by rw [← HF.out,HX.out,HBG.out];rfl⟩⟩,by simp [intOf];omega⟩
        ·obtain rfl:j = 25:=by omega
         have hsg:=find_sign HB.out HLT.out
         rw [← HF.out] at hsg
         have hs0:=congrArg ByteArray.size hsg
         rw [str_len,List.length_take,List.length_drop] at hs0
         have hs2:=sign_lt HLT.out
         have hs3:signS (l.drop k) = 0:=by
          have e:(findS l k (signWs.drop 25)).size = 0:=rfl
          rw [e] at hs0
          have:=HLT.out
          omega
         have HSC:=Lib.hid (HE.out.trans (scan_nosign HLT.out HN0.out HBL.out H35.out HR.out hs3))
         clear hsg hs0 hs2 hs3
         go_wp2_with fail
         refine bodyPost_ret (v:=.tuple #[.slice none 0 0,.int .i64 (k:Int),.int .i64 4]) (by simp [results,Tryz.results24,go_sem]) rfl ?_
         exact tks_of HSC.out rfl (OwnT.nil _ _) (HB0.out.trans ((below_drewN HW1.out _).mono (by have:=HZ0.out;omega)))
       ·obtain ⟨n1,n2,n3,n4⟩:=str_ne hS1
        have hsg:=find_sign HB.out HLT.out
        rw [← hF] at hsg
        have hs0:=congrArg ByteArray.size hsg
        rw [str_len,List.length_take,List.length_drop] at hs0
        have hs2:=sign_lt HLT.out
        have hs3:signS (l.drop k) = S.size:=by omega
        have hsc:=HE.out.trans (scan_sign HLT.out HN0.out HBL.out H35.out HR.out (by omega))
        rw [← hsg,hs3] at hsc
        have hfit:k + S.size ≤ len:=by rw [← hs3,← HL.out];exact hs2
        have HSC:=Lib.hid hsc
        have HO2:=Lib.hid (show OwnT (wo.drewN q) w0.heap.size u5 ts from HO1.out)
        have HW2:=Lib.hid (below_drewN HW1.out q)
        clear hsg hs0 hs2 hs3 hsc hF
        rcases (show decide ((j:Int) < 25) = true ∨ decide ((j:Int) < 25) = false by cases decide ((j:Int) < 25) <;> simp) with d20 | d20
        all_goals
         go_wp2_with (at_builtin;refine wpList_append_own _ rfl _ _ 51 rfl w0.heap.size 63 i0 _ 4 40 Tryz.underlying51 hi hz0 hz1 hz2 rfl (by decide) _ _ _ rfl (OwnT.alloc HO2.out _) ⟨wo.heap.size,0,none⟩ 1 1 (Tok.cells ⟨3,S,0,k⟩) rfl rfl ?c1 ?c2 ?c3 ?c4 ?c5 ?_)
         case c1=>exact row_new _ (Tok.cells ⟨3,S,0,k⟩) 63 (by simp)
         case c2=>intro u hu;simp [Tok.cells] at hu;rcases hu with rfl | rfl | rfl | rfl <;> rfl
         case c3=>unfold maxLen;omega
         case c4=>omega
         case c5=>first | omega | (simp;omega)
         intro v' w3 hown' hgrow _
         have ho3:=Lib.hid (OwnT.one hown')
         have hb3:=Lib.hid ((HW2.out.alloc (by simp;omega) _).grown hgrow (by first | omega | (simp;omega)) (fun k hk=>(World.ownsRow.lt HO2.out k hk).1))
         clear hown' hgrow
         go_wp2_with fail
         go_roundw
         case rel=>exact ⟨k + S.size,false,ts ++ [⟨3,S,0,k⟩],hfit,by simp;omega,by go_num,rfl,HSC.out,hb3.out,ho3.out⟩
         case measure=>simp [intOf];omega
    ·have hv:=Lib.hid (HE.out.trans (scan_rem HLT.out HN0.out))
     have hbd:=HNB.out HN0.out
     rw [HL.out,← HN.out] at hbd
     go_wp2_with fail
     go_roundw
     case rel=>exact ⟨k + n,c != 10,ts,hbd,by omega,by go_num,by rw [HCB.out],by rw [HN.out];rw [HCB.out];exact hv.out,HW1.out,HO1.out⟩
     case measure=>simp [intOf];omega
  ·obtain rfl:k = len:=by omega
   have hsc:=HE.out.trans (scan_end (l:=l) (a:=k) (rem:=rem) (out:=ts) (by rw [HL.out];exact Nat.le_refl _))
   rw [HL.out] at hsc
   have HSC:=Lib.hid hsc
   clear hsc hlt
   go_wp2_with (at_builtin;refine wpList_append_own _ rfl _ _ 51 rfl w0.heap.size 63 i0 _ 4 40 Tryz.underlying51 hi hz0 hz1 hz2 rfl (by decide) _ _ _ rfl (OwnT.alloc HO.out _) ⟨wr.heap.size,0,none⟩ 1 1 (Tok.cells ⟨4,⟨#[]⟩,0,k⟩) rfl rfl ?c1 ?c2 ?c3 ?c4 ?c5 ?_)
   case c1=>exact row_new _ (Tok.cells ⟨4,⟨#[]⟩,0,k⟩) 63 (by simp)
   case c2=>intro u hu;simp [Tok.cells] at hu;rcases hu with rfl | rfl | rfl | rfl <;> rfl
   case c3=>unfold maxLen;omega
   case c4=>omega
   case c5=>first | omega | (simp;omega)
   intro v' w3 hown' hgrow _
   have ho3:=Lib.hid ((OwnT.one hown').mono (show w.heap.size ≤ w0.heap.size by have:=HZ0.out;omega))
   have hb3:=Lib.hid ((HW.out.alloc (by omega) _).grown hgrow (by first | omega | (simp;omega)) (fun k hk=>(World.ownsRow.lt HO.out k hk).1))
   clear hown' hgrow
   go_wp2_with fail
   refine bodyPost_ret (v:=.tuple #[_,.int .i64 0,.int .i64 0]) (by simp [results,Tryz.results24,go_sem];rfl) rfl ?_
   exact tks_of HSC.out rfl ho3.out (HB0.out.trans (hb3.out.mono (by have:=HZ0.out;omega)))
end Go.Proofs.YtahpnackkmbmgaaGreat
end

/- Part 6 of the proof: LTok3. Conditions: none. -/
import Derived.Test.YtahpnackkmbmgaaGreatM5
import Derived.Laws.Tables
import Derived.Laws.CopyOwn
set_option linter.all false
set_option linter.unusedVariables false
set_option linter.unusedSimpArgs false
section
namespace Go.Proofs.YtahpnackkmbmgaaGreat
open Go.RowKit
theorem takeWhile_is (p:Int → Bool):∀ (n:Nat) (m:List Int),n ≤ m.length → (∀ i,i < n → p (gb m i) = true) → (n = m.length ∨ p (gb m n) = false) → m.takeWhile p = m.take n:=by
 intro n
 induction n with
 | zero =>
  intro m _ _ h
  cases m with
  | nil=>rfl
  | cons x xs =>
   rcases h with h | h
   ·simp at h
   ·have:p x = false:=by simpa [gb] using h
    simp [this]
 | succ n ih =>
  intro m hn hp h
  cases m with
  | nil=>simp at hn
  | cons x xs =>
   have:p x = true:=by simpa [gb] using hp 0 (by omega)
   rw [List.takeWhile_cons,this,List.take_succ_cons]
   simp only [if_true]
   rw [ih xs (by simpa using hn) (fun i hi=>by simpa [gb] using hp (i + 1) (by omega)) (h.imp (fun h=>by simpa using h) (fun h=>by simpa [gb] using h))]
theorem runAt_is {l:List Int} {a k:Nat} (hak:a ≤ k) (hk:k ≤ l.length) (h:∀ i,a ≤ i → i < k → runsB (gb l i) = true) (he:k = l.length ∨ runsB (gb l k) = false):runAt l a = (l.drop a).take (k - a) ∧ (runAt l a).length = k - a:=by
 have e:runAt l a = (l.drop a).take (k - a):=by
  unfold runAt
  refine takeWhile_is runsB (k - a) (l.drop a) (by rw [List.length_drop];omega) (fun i hi=>?_) ?_
  ·rw [gb_drop];exact h _ (by omega) (by omega)
  ·rw [gb_drop,List.length_drop]
   rcases he with he | he
   ·exact .inl (by omega)
   ·right;rw [← he];congr 2;omega
 refine ⟨e,?_⟩
 rw [e,List.length_take,List.length_drop];omega
theorem runs_asc {c:Int} (h:runsB c = true):blankB c = false ∧ c ≠ 35 ∧ c < 128:=by
 unfold runsB smallB greatB digitB at h
 simp at h
 rw [blank_no]
 omega
theorem tok_ok {l:List Int} {a k:Nat} {S:ByteArray} {rc:Int} {t:Tok} (hb:Byt l) (ha:a < l.length) (hr:runsB (gb l a) = true) (hS:S = strOfNums (runAt l a)) (hlen:(runAt l a).length = k - a) (hak:a < k) (hrc:rc = (runS S a).2)
  (h0:rc = 0) (ht:t = (runS S a).1) (out:List Tok):scanS l a false out = scanS l k false (out ++ [t]):=by
 obtain ⟨h1,h2,h3⟩:=runs_asc hr
 rw [scan_run ha (by rw [nx_ascii hb ha h3];omega) h1 h2 hr,← hS,← hrc,if_pos h0,← ht,hlen,show a + (k - a) = k by omega]
theorem tok_bad {l:List Int} {a:Nat} {S:ByteArray} {rc:Int} (hb:Byt l) (ha:a < l.length) (hr:runsB (gb l a) = true) (hS:S = strOfNums (runAt l a)) (hrc:rc = (runS S a).2)
  (h0:rc ≠ 0) (out:List Tok):scanS l a false out = ([],(a:Int),rc):=by
 obtain ⟨h1,h2,h3⟩:=runs_asc hr
 rw [scan_run ha (by rw [nx_ascii hb ha h3];omega) h1 h2 hr,← hS,← hrc,if_neg h0]
theorem fz_alloc {w:World} {o:Obj} {p:Addr} (hp:p.block < w.heap.size):(w.alloc o).frozen? p = w.frozen? p:=(Below.alloc (Below.refl w.heap.size w) (Nat.le_refl _) o).frozen hp
theorem blk4 {w:World} {g:Nat} {t:TypeId} {a b c d:Value} (h:Blk w g t #[a,b,c,d]):w.cell? ⟨g,0,none⟩ = some a ∧ w.cell? ⟨g,1,none⟩ = some b ∧ w.cell? ⟨g,2,none⟩ = some c ∧ w.cell? ⟨g,3,none⟩ = some d ∧
  w.frozen? ⟨g,0,none⟩ = false ∧ w.frozen? ⟨g,1,none⟩ = false ∧ w.frozen? ⟨g,2,none⟩ = false ∧ w.frozen? ⟨g,3,none⟩ = false :=
 ⟨(Blk.cell h 0).trans rfl,(Blk.cell h 1).trans rfl,(Blk.cell h 2).trans rfl,(Blk.cell h 3).trans rfl,Blk.frozen h 0,Blk.frozen h 1,Blk.frozen h 2,Blk.frozen h 3⟩
set_option maxRecDepth 100000 in
set_option maxHeartbeats 2000000 in
theorem token_run (g len cap a b off:Nat) (l:List Int) (w:World) (hl:l.length = len) (hcap:len ≤ cap) (hm:len ≤ 9223372036854775807) (hb:Byt l) (hc:CellsAt w .u8 b off l) (hne:b < w.heap.size) (hbg:b ≠ g)
  (hg:Scn w g (some ⟨b,off,none⟩) len cap a) (ha:a < len) (hr:runsB (gb l a) = true) :
  Calls Tryz.prog 41 #[.pointer (some ⟨g,0,none⟩)] w (TokLeft w g (some ⟨b,off,none⟩) len cap a l):=by
 have hgl:=Blk.lt hg
 obtain ⟨kc0,kc1,kf⟩:=hg.cells
 have kb:=hc a (by omega)
 have C0:=fun w=>Lib.hid (runs_any (gb l a) w)
 rw [hr] at C0
 have d1:(0:Int) ≤ (a:Int):=by omega
 have d2:(a:Int) < (len:Int):=by omega
 have d3:(a:Int) ≤ (len:Int):=by omega
 have HL:=Lib.hid hl
 have HB:=Lib.hid hb
 have HC:=Lib.hid hc
 have HG:=Lib.hid (hg.alloc (.cells #[.int .u8 0,.string ⟨#[]⟩,.int .i64 0,.int .i64 0] 63))
 have HV:=Lib.hid (Blk.new w 63 #[.int .u8 0,.string ⟨#[]⟩,.int .i64 0,.int .i64 0])
 have HR:=Lib.hid hr
 obtain ⟨c,ec⟩:∃ c,c = gb l a:=⟨_,rfl⟩
 rw [← ec] at kb C0
 clear hl hb hc hr hg ec
 go_enter Tryz.func41,Tryz.ntmps41
 go_wp2_with fail
 refine (C0 _).out.mono ?_
 rintro e w' ⟨rfl,rfl⟩
 clear C0
 go_wp2_with fail
 clear kc0 kc1 kf kb
 go_loopg [] (len - a) (fun n wr=>∃ k:Nat,n = len - k ∧ a ≤ k ∧ k ≤ len ∧ (∀ i,a ≤ i → i < k → runsB (gb l i) = true) ∧ w.grownBy wr (some g) ∧ wr.heap.size = w.heap.size + 1 ∧ Scn wr g (some ⟨b,off,none⟩) len cap k ∧ Blk wr w.heap.size 63 #[.int .u8 0,.string ⟨#[]⟩,.int .i64 0,.int .i64 0])
 case atStart=>exact ⟨a,rfl,Nat.le_refl _,by omega,fun i h1 h2=>by omega,only_alloc (World.grownBy.refl _ _) _,by simp,HG.out,HV.out⟩
 case round =>
  obtain ⟨k,rfl,hak,hk,hE,hgr,hsz,hg,hv⟩:=hrel
  obtain ⟨kc0,kc1,kf⟩:=hg.cells
  clear HG HV
  have HE:=Lib.hid hE
  have HG:=Lib.hid hg
  have HV:=Lib.hid hv
  have HW:=Lib.hid hgr
  have HZ:=Lib.hid hsz
  clear hE hg hgr hv
  by_cases hgo:k < len ∧ runsB (gb l k) = true
  ·obtain ⟨hlt,hr⟩:=hgo
   have d5:decide (k < len) = true:=decide_eq_true hlt
   have d6:decide ((k:Int) < (len:Int)) = true:=decide_eq_true (by omega)
   have d7:(k:Int) < (len:Int):=by omega
   have d8:(0:Int) ≤ (k:Int):=by omega
   have kb:wr.cell? ⟨b,off + k,none⟩ = some (.int .u8 (gb l k)):=(HC.out.grown HW.out hne (fun e=>hbg (by injection e with e;exact e.symm))) k (by rw [HL.out];exact hlt)
   have C0:=fun w=>Lib.hid (runs_any (gb l k) w)
   rw [hr] at C0
   have HR2:=Lib.hid hr
   clear hr
   obtain ⟨ck,ek⟩:∃ ck,ck = gb l k:=⟨_,rfl⟩
   rw [← ek] at kb C0
   have HK:=Lib.hid ek
   clear ek
   go_wp2_with fail
   go_quiet ((go_at_call 74;first | exact quiet1 (C0 _).out | exact quiet2 (C0 _).out))
   go_wp2_with fail
   go_roundg (len - (k + 1))
   case measure=>omega
   case rel =>
    have hst:=HG.out.set_ (k + 1)
    rw [Int.natCast_add] at hst
    refine ⟨k + 1,rfl,by omega,by omega,fun i h1 h2=>?_,only_setCell (only_drewN HW.out _) (.inl rfl) _,by simpa [World.setCell] using HZ.out,hst,?_⟩
    ·by_cases h:i = k
     ·rw [h];exact HR2.out
     ·exact HE.out i h1 (by omega)
    ·refine Blk.far (HV.out.drewN _) ?_ _
     show w.heap.size ≠ g
     omega
  ·have hx:k = len ∨ runsB (gb l k) = false:=by
    rcases Nat.lt_or_ge k len with h | h
    ·right;simpa [h] using hgo
    ·left;omega
   have hak':a < k:=by
    rcases Nat.lt_or_ge a k with h | h
    ·exact h
    ·obtain rfl:k = a:=by omega
     exact absurd ⟨ha,HR.out⟩ hgo
   have hrn:=runAt_is hak (by rw [HL.out];exact hk) HE.out (by rw [HL.out];exact hx)
   have HRN:=Lib.hid hrn
   clear hgo hrn
   have d7:(a:Int) ≤ (k:Int):=by omega
   have d8:(0:Int) ≤ (k:Int):=by omega
   have d9:(k:Int) ≤ (len:Int):=by omega
   have d10:(k:Int) ≤ (cap:Int):=by omega
   have HX:=Lib.hid (show k ≤ len ∧ a < k ∧ a < len from ⟨hk,hak',ha⟩)
   have hsl:(strOfNums (runAt l a)).size = k - a:=by rw [str_len];exact HRN.out.2
   have CR:∀ w',Hid (Calls Tryz.prog 75 #[.string (strOfNums (runAt l a)),.int .i64 (a:Int)] w' fun e w2=>∃ kd tx n at_,e = .returned (.tuple #[.agg #[.int .u8 kd,.string tx,.int .i64 n,.int .i64 at_],.int .u8 (runS (strOfNums (runAt l a)) a).2]) ∧ ((runS (strOfNums (runAt l a)) a).2 = 0 → (⟨kd,tx,n,at_⟩:Tok) = (runS (strOfNums (runAt l a)) a).1) ∧ ∃ o1 o2,w2 = (w'.alloc o1).alloc o2):=fun w'=>Lib.hid ((run_any (strOfNums (runAt l a)) a w' (by omega) (by unfold maxLen;omega)).mono fun e w2 ⟨t,h1,h2,h3⟩=>⟨t.kind,t.text,t.n,t.at_,h1,h2,h3⟩)
   have hc1:∀ w',Below wr.heap.size wr w' → (w'.cell? ⟨g,0,none⟩ = some (.slice (some ⟨b,off,none⟩) len cap) ∧ w'.cell? ⟨g,1,none⟩ = some (.int .i64 (k:Int)) ∧ Below wr.heap.size wr w' ∧ (convert 22 9 (.slice (some ⟨b,off + a,none⟩) (k - a) (cap - a))).run Tryz.prog w' = .ok (.string (strOfNums (runAt l a))) w'):=fun w' hb=>by
    obtain ⟨x0,x1,x2⟩:=(HG.out.below hb).cells
    refine ⟨x0,x1,hb,?_⟩
    refine run_convert_bytes_arg (P:=Tryz.prog) w' 22 5 Tryz.underlying22 Tryz.underlying5 b (off + a) (k - a) (cap - a) (runAt l a) HRN.out.2 (fun i hi=>?_) 9 Tryz.underlying9
    have hcc:=(HC.out.grown HW.out hne (fun e=>hbg (by injection e with e;exact e.symm))).below hb (by omega)
    have:=cells_drop hcc a i (by rw [List.length_drop,HL.out];omega)
    rw [this]
    have e:gb (l.drop a) i = (runAt l a).getD i 0:=by
     rw [HRN.out.1,List.getD_eq_getElem?_getD,List.getElem?_take_of_lt hi]
     rfl
    rw [e]
   have HS:=Lib.hid hc1
   obtain ⟨S,eS⟩:∃ S,S = strOfNums (runAt l a):=⟨_,rfl⟩
   have HES:=Lib.hid eS
   rw [← eS] at CR HS
   obtain ⟨rc,erc⟩:∃ rc,rc = (runS S a).2:=⟨_,rfl⟩
   have HRC:=Lib.hid erc
   rw [← erc] at CR
   clear hc1 hsl eS erc
   have d11:¬ cap = a:=by omega
   have hb0:Below wr.heap.size wr wr:=Below.refl _ _
   have kv:∀ n,(convert 22 9 (.slice (some ⟨b,off + a,none⟩) (k - a) (cap - a))).run Tryz.prog (wr.drewN n) = .ok (.string S) (wr.drewN n):=fun n=>(HS.out _ (below_drewN hb0 n)).2.2.2
   have kv2:∀ n o,(convert 22 9 (.slice (some ⟨b,off + a,none⟩) (k - a) (cap - a))).run Tryz.prog ((wr.alloc o).drewN n) = .ok (.string S) ((wr.alloc o).drewN n):=fun n o=>(HS.out _ (below_drewN (hb0.alloc (Nat.le_refl _) o) n)).2.2.2
   have kv3:∀ n m o,(convert 22 9 (.slice (some ⟨b,off + a,none⟩) (k - a) (cap - a))).run Tryz.prog (((wr.drewN m).alloc o).drewN n) = .ok (.string S) (((wr.drewN m).alloc o).drewN n):=fun n m o=>(HS.out _ (below_drewN ((below_drewN hb0 m).alloc (Nat.le_refl _) o) n)).2.2.2
   rcases Nat.lt_or_ge k len with hlt | hge
   ·have hr:runsB (gb l k) = false:=by
     rcases hx with h | h
     ·omega
     ·exact h
    have d5:decide (k < len) = true:=decide_eq_true hlt
    have d6:decide ((k:Int) < (len:Int)) = true:=decide_eq_true (by omega)
    have d12:(k:Int) < (len:Int):=by omega
    have kb:wr.cell? ⟨b,off + k,none⟩ = some (.int .u8 (gb l k)):=(HC.out.grown HW.out hne (fun e=>hbg (by injection e with e;exact e.symm))) k (by rw [HL.out];exact hlt)
    have C0:=fun w=>Lib.hid (runs_any (gb l k) w)
    rw [hr] at C0
    clear hr hx
    obtain ⟨ck,ek⟩:∃ ck,ck = gb l k:=⟨_,rfl⟩
    rw [← ek] at kb C0
    clear ek
    go_wp2_with fail
    go_quiet ((go_at_call 74;first | exact quiet1 (C0 _).out | exact quiet2 (C0 _).out))
    go_wp2_with fail
    clear C0 kb
    go_region_held3 (fun w'=>w'.cell? ⟨g,0,none⟩ = some (.slice (some ⟨b,off,none⟩) len cap) ∧ w'.cell? ⟨g,1,none⟩ = some (.int .i64 (k:Int)) ∧ Below wr.heap.size wr w' ∧ (convert 22 9 (.slice (some ⟨b,off + a,none⟩) (k - a) (cap - a))).run Tryz.prog w' = .ok (.string S) w') ((refine HS.out _ ?_;with_reducible repeat (first | assumption | apply Below.drew | apply below_drewN | (refine Below.alloc ?_ (by first | exact Nat.le_refl _ | (simp <;> omega)) _) | (refine below_setRow ?_ (by first | exact Nat.le_refl _ | (simp <;> omega)) _) | (refine Below.setCell ?_ (by first | exact Nat.le_refl _ | (simp <;> omega)) _)))) ((go_at_call 75;refine (CR _).out.mono ?_;rintro e w2 ⟨kd,tx,n,at_,rfl,ht,o1,o2,rfl⟩;have HT:=Lib.hid ht;clear ht))
    all_goals
     have HA:=Lib.hid (show a < l.length by rw [HL.out];omega)
     have HGB:=Lib.hid (show Blk wr g 85 #[.slice (some ⟨b,off,none⟩) len cap,.int .i64 (k:Int)] from HG.out)
     obtain ⟨y0,y1,y2,y3,y4,y5,y6,y7⟩:=blk4 HV.out
     have n0:¬ g = w.heap.size:=by omega
     have n1:¬ w.heap.size = g:=by omega
     clear kv kv2 kv3 hb0
     by_cases hrc:rc = 0
     ·subst hrc
      go_wp2_with fail
      refine bodyPost_ret (v:=.tuple #[Tok.val ⟨kd,tx,n,at_⟩,.int .u8 0]) (by simp [results,Tryz.results41,go_sem,Tok.val, *]) rfl ⟨⟨kd,tx,n,at_⟩,0,k,rfl,by omega,fun _=>⟨by omega,tok_ok HB.out HA.out HR.out HES.out HRN.out.2 (by omega) HRC.out rfl (HT.out (by trivial))⟩,fun h=>absurd rfl h,?_,?_⟩
      ·with_reducible repeat (first | exact HW.out | (refine only_setCell ?_ (.inr (Nat.le_refl _)) _) | apply only_alloc | apply only_drewN)
      ·unfold Scn
       with_reducible repeat (first | exact HGB.out | (refine Blk.far ?_ n0 _) | apply Blk.alloc | apply Blk.drewN)
     ·have g0:(rc != 0) = true:=bne_iff_ne.2 hrc
      have HNC:=Lib.hid hrc
      have hfz:∀ n o1 o2 o3,((((wr.drewN n).alloc o1).alloc o2).alloc o3).frozen? ⟨g,1,none⟩ = false:=fun n o1 o2 o3=>by
       rw [fz_alloc (by simp;omega),fz_alloc (by simp;omega),fz_alloc (by simp;omega)]
       exact kf
      have hz:∀ n o1 o2 o3 v,Blk (((((wr.drewN n).alloc o1).alloc o2).alloc o3).setCell ⟨g,1,none⟩ v) w.heap.size 63 #[.int .u8 0,.string ⟨#[]⟩,.int .i64 0,.int .i64 0]:=fun n o1 o2 o3 v=>Blk.far (Blk.alloc (Blk.alloc (Blk.alloc (HV.out.drewN n) o1) o2) o3) n1 v
      have z0:=fun n o1 o2 o3 v=>(blk4 (hz n o1 o2 o3 v)).1
      have z1:=fun n o1 o2 o3 v=>(blk4 (hz n o1 o2 o3 v)).2.1
      have z2:=fun n o1 o2 o3 v=>(blk4 (hz n o1 o2 o3 v)).2.2.1
      have z3:=fun n o1 o2 o3 v=>(blk4 (hz n o1 o2 o3 v)).2.2.2.1
      clear hz
      go_wp2_with fail
      refine bodyPost_ret (v:=.tuple #[Tok.val ⟨kd,tx,n,at_⟩,.int .u8 rc]) (by simp [results,Tryz.results41,go_sem,Tok.val, *]) rfl ⟨⟨kd,tx,n,at_⟩,rc,a,rfl,by omega,fun h=>absurd h HNC.out,fun _=>tok_bad HB.out HA.out HR.out HES.out HRC.out HNC.out,?_,?_⟩
      ·with_reducible repeat (first | exact HW.out | (refine only_setCell ?_ (.inr (Nat.le_refl _)) _) | (refine only_setCell ?_ (.inl rfl) _) | apply only_alloc | apply only_drewN)
      ·unfold Scn
       with_reducible repeat (refine Blk.far ?_ n0 _)
       refine Scn.set_ (a:=k) ?_ a
       unfold Scn
       with_reducible repeat (first | exact HGB.out | (refine Blk.alloc ?_ _) | apply Blk.drewN)
   ·obtain rfl:k = len:=by omega
    clear hx
    have d5:decide (k < k) = false:=decide_eq_false (by omega)
    have d6:decide ((k:Int) < (k:Int)) = false:=decide_eq_false (by omega)
    go_wp2_with fail
    go_quiet (fail)
    go_wp2_with fail
    go_region_held3 (fun w'=>w'.cell? ⟨g,0,none⟩ = some (.slice (some ⟨b,off,none⟩) k cap) ∧ w'.cell? ⟨g,1,none⟩ = some (.int .i64 (k:Int)) ∧ Below wr.heap.size wr w' ∧ (convert 22 9 (.slice (some ⟨b,off + a,none⟩) (k - a) (cap - a))).run Tryz.prog w' = .ok (.string S) w') ((refine HS.out _ ?_;with_reducible repeat (first | assumption | apply Below.drew | apply below_drewN | (refine Below.alloc ?_ (by first | exact Nat.le_refl _ | (simp <;> omega)) _) | (refine below_setRow ?_ (by first | exact Nat.le_refl _ | (simp <;> omega)) _) | (refine Below.setCell ?_ (by first | exact Nat.le_refl _ | (simp <;> omega)) _)))) ((go_at_call 75;refine (CR _).out.mono ?_;rintro e w2 ⟨kd,tx,n,at_,rfl,ht,o1,o2,rfl⟩;have HT:=Lib.hid ht;clear ht))
    all_goals
     have HA:=Lib.hid (show a < l.length by rw [HL.out];omega)
     have HGB:=Lib.hid (show Blk wr g 85 #[.slice (some ⟨b,off,none⟩) k cap,.int .i64 (k:Int)] from HG.out)
     obtain ⟨y0,y1,y2,y3,y4,y5,y6,y7⟩:=blk4 HV.out
     have n0:¬ g = w.heap.size:=by omega
     have n1:¬ w.heap.size = g:=by omega
     clear kv kv2 kv3 hb0
     by_cases hrc:rc = 0
     ·subst hrc
      go_wp2_with fail
      refine bodyPost_ret (v:=.tuple #[Tok.val ⟨kd,tx,n,at_⟩,.int .u8 0]) (by simp [results,Tryz.results41,go_sem,Tok.val, *]) rfl ⟨⟨kd,tx,n,at_⟩,0,k,rfl,by omega,fun _=>⟨by omega,tok_ok HB.out HA.out HR.out HES.out HRN.out.2 (by omega) HRC.out rfl (HT.out (by trivial))⟩,fun h=>absurd rfl h,?_,?_⟩
      ·with_reducible repeat (first | exact HW.out | (refine only_setCell ?_ (.inr (Nat.le_refl _)) _) | apply only_alloc | apply only_drewN)
      ·unfold Scn
       with_reducible repeat (first | exact HGB.out | (refine Blk.far ?_ n0 _) | apply Blk.alloc | apply Blk.drewN)
     ·have g0:(rc != 0) = true:=bne_iff_ne.2 hrc
      have HNC:=Lib.hid hrc
      have hfz:∀ n o1 o2 o3,((((wr.drewN n).alloc o1).alloc o2).alloc o3).frozen? ⟨g,1,none⟩ = false:=fun n o1 o2 o3=>by
       rw [fz_alloc (by simp;omega),fz_alloc (by simp;omega),fz_alloc (by simp;omega)]
       exact kf
      have hz:∀ n o1 o2 o3 v,Blk (((((wr.drewN n).alloc o1).alloc o2).alloc o3).setCell ⟨g,1,none⟩ v) w.heap.size 63 #[.int .u8 0,.string ⟨#[]⟩,.int .i64 0,.int .i64 0]:=fun n o1 o2 o3 v=>Blk.far (Blk.alloc (Blk.alloc (Blk.alloc (HV.out.drewN n) o1) o2) o3) n1 v
      have z0:=fun n o1 o2 o3 v=>(blk4 (hz n o1 o2 o3 v)).1
      have z1:=fun n o1 o2 o3 v=>(blk4 (hz n o1 o2 o3 v)).2.1
      have z2:=fun n o1 o2 o3 v=>(blk4 (hz n o1 o2 o3 v)).2.2.1
      have z3:=fun n o1 o2 o3 v=>(blk4 (hz n o1 o2 o3 v)).2.2.2.1
      clear hz
      go_wp2_with fail
      refine bodyPost_ret (v:=.tuple #[Tok.val ⟨kd,tx,n,at_⟩,.int .u8 rc]) (by simp [results,Tryz.results41,go_sem,Tok.val, *]) rfl ⟨⟨kd,tx,n,at_⟩,rc,a,rfl,by omega,fun h=>absurd h HNC.out,fun _=>tok_bad HB.out HA.out HR.out HES.out HRC.out HNC.out,?_,?_⟩
      ·with_reducible repeat (first | exact HW.out | (refine only_setCell ?_ (.inr (Nat.le_refl _)) _) | (refine only_setCell ?_ (.inl rfl) _) | apply only_alloc | apply only_drewN)
      ·unfold Scn
       with_reducible repeat (refine Blk.far ?_ n0 _)
       refine Scn.set_ (a:=k) ?_ a
       unfold Scn
       with_reducible repeat (first | exact HGB.out | (refine Blk.alloc ?_ _) | apply Blk.drewN)
end Go.Proofs.YtahpnackkmbmgaaGreat
end

/- Part 14 of the proof: LTok4, LTokens, VTok, VCopied, VFld, VFor, VBack, VRange, VKJoin, VKJoin2, VJoinP, VDraw2, SortLaw, VCanLaw, VRFields, VRFieldsO, VSLaw, VSort1, VSort2. Conditions: none. -/
import Derived.Test.YtahpnackkmbmgaaGreatDoorS1
import Derived.Test.YtahpnackkmbmgaaGreatDoorS3
import Derived.Test.YtahpnackkmbmgaaGreatDoorS4
import Derived.Test.YtahpnackkmbmgaaGreatDoorS8
import Derived.Test.YtahpnackkmbmgaaGreatDoorS13
import Derived.IntWalk
import Derived.RangeFuncNested
import Derived.RangeFuncBound
import Derived.RangeFuncCalls
import Derived.RangeFuncLeaves
import Derived.RangeFuncFrom
import Derived.Shelf.Abstract
import Derived.WalkKit
import Derived.OwnWalkIn
import Derived.TacticsInMore
import Derived.LoopNIn
import Derived.LoopIn
set_option linter.all false
set_option linter.unusedVariables false
set_option linter.unusedSimpArgs false
section
namespace Go.Proofs.YtahpnackkmbmgaaGreatDoor
open Go.RowKit
theorem token_any (g len cap a : Nat) (A : Option Addr) (l : List Int) (w : World) (hl : l.length = len) (hcap : len ≤ cap) (hm : len ≤ 9223372036854775807) (hb : Byt l) (hs : SliceAt w .u8 A l) (hne : ∀ b off, A = some ⟨b, off, none⟩ → l ≠ [] → b ≠ g)
  (hg : Scn w g A len cap a) (ha : a < len) (hbl : blankB (gb l a) = false) (h35 : gb l a ≠ 35) :
  Calls Tryz.prog 55 #[.pointer (some ⟨g, 0, none⟩)] w (TokLeft w g A len cap a l) := by
 obtain ⟨b, off, rfl, hlb, hc⟩ := hs.cells (by omega)
 cases hr : runsB (gb l a)
 ·by_cases hz : signS (l.drop a) = 0
  ·exact token_none g len cap a b off l w hl hcap hm hb hc hlb hg ha hbl h35 hr hz
  ·exact token_sign g len cap a b off l w hl hcap hm hb hc hlb hg ha hbl h35 hr hz
 ·exact token_run g len cap a b off l w hl hcap hm hb hc hlb (hne b off rfl (by rintro rfl; simp at hl; omega)) hg ha hr
def OwnT (w : World) (base : Nat) (v : Value) (ts : List Tok) : Prop := w.ownsRow base 47 4 v ts.length (ts.flatMap Tok.cells)
section
variable {w w' : World} {base : Nat} {v : Value} {ts : List Tok}
theorem OwnT.below (h : OwnT w base v ts) (hb : Below w.heap.size w w') : OwnT w' base v ts := by
 refine ⟨h.1, ?_⟩
 rcases h.2 with h2 | ⟨g, cap, cur, hv, hg, hh, r⟩
 ·exact .inl h2
 ·exact .inr ⟨g, cap, cur, hv, hg, (hb.block g (Array.getElem?_eq_some_iff.1 hh).1).trans hh, r⟩
theorem OwnT.kept {row : Option Nat} (h : OwnT w base v ts) (hg : w.grownBy w' row) (hne : v.ownBlock = none ∨ v.ownBlock ≠ row) : OwnT w' base v ts := World.ownsRow.kept h hg hne
theorem OwnT.nil (w : World) (base : Nat) : OwnT w base (.slice none 0 0) [] := World.ownsRow_nil _ _ _ _
theorem OwnT.alloc (h : OwnT w base v ts) (o : Obj) : OwnT (w.alloc o) base v ts := World.ownsRow.alloc h o
theorem OwnT.one {t : Tok} (h : w'.ownsRow base 47 4 v (ts.length + 1) (ts.flatMap Tok.cells ++ t.cells)) : OwnT w' base v (ts ++ [t]) := by
 unfold OwnT
 rw [List.length_append, List.flatMap_append]
 simpa using h
theorem OwnT.mono {base' : Nat} (h : OwnT w base v ts) (hb : base' ≤ base) : OwnT w base' v ts := by
 refine ⟨h.1, ?_⟩
 rcases h.2 with h2 | ⟨g, cap, cur, hv, hg, r⟩
 ·exact .inl h2
 ·exact .inr ⟨g, cap, cur, hv, by omega, r⟩
end
end Go.Proofs.YtahpnackkmbmgaaGreatDoor
end
section
namespace Go.Proofs.YtahpnackkmbmgaaGreatDoor
open Go.RowKit
theorem tok_info : (Tryz.prog.info? 47).map (fun i => (i.zero, i.size, i.bytes)) = some (some (.agg #[.int .u8 0, .string ⟨#[]⟩, .int .i64 0, .int .i64 0]), 4, 40) := by kernel_rfl
def TksTold (k : IntKind) (l : List Int) (w : World) (e : Ending) (w' : World) : Prop :=
 ∃ v, e = .returned (.tuple #[v, .int .i64 (scanS l 0 false []).2.1, .int k (scanS l 0 false []).2.2]) ∧ OwnT w' w.heap.size v (scanS l 0 false []).1 ∧ Below w.heap.size w w'
theorem tks_of {k : IntKind} {l : List Int} {w w' : World} {e : Ending} {v : Value} {ts : List Tok} {p c : Int} (h : scanS l 0 false [] = (ts, p, c)) (he : e = .returned (.tuple #[v, .int .i64 p, .int k c])) (ho : OwnT w' w.heap.size v ts) (hb : Below w.heap.size w w') : TksTold k l w e w' := by
 unfold TksTold
 rw [h]
 exact ⟨v, he, ho, hb⟩
set_option maxRecDepth 100000 in
set_option maxHeartbeats 4000000 in
theorem Tokens_any (A : Option Addr) (len cap : Nat) (l : List Int) (w : World) (hl : l.length = len) (hcap : len ≤ cap) (hm : len ≤ 9223372036854775807) (hb : Byt l) (hs : SliceAt w .u8 A l) (hmax : len ≤ 65536) :
  Calls Tryz.prog 32 #[.slice A len cap] w (TksTold .u8 l w) := by
 have hne : ∀ b off, A = some ⟨b, off, none⟩ → l ≠ [] → b ≠ w.heap.size := by
  rintro b off rfl hn
  rcases hs with h | ⟨b', off', h, hlt, _⟩
  ·exact absurd h hn
  ·injection h with h
   injection h with h
   omega
 have h6' : (len : Int) ≤ 65536 := by omega
 have h6'' : ¬ (65536 : Int) < (len : Int) := by omega
 obtain ⟨i0, hi, hz0, hz1, hz2⟩ := info_parts tok_info
 have HL := Lib.hid hl
 have HB := Lib.hid hb
 have HS := Lib.hid hs
 have HNE := Lib.hid hne
 clear hl hb hs hne
 go_enter Tryz.func32, Tryz.ntmps32
 go_wp2_with fail
 have CB := fun a wr hs hg ha => Lib.hid (blanks_any w.heap.size len cap a A l wr HL.out hcap hm HB.out hs HNE.out hg ha)
 have CT := fun a wr hs hg ha h1 h2 => Lib.hid (token_any w.heap.size len cap a A l wr HL.out hcap hm HB.out hs HNE.out hg ha h1 h2)
 go_loopg [6] len (fun n v wr => ∃ (k : Nat) (ts : List Tok), n = len - k ∧ k ≤ len ∧ ts.length ≤ k ∧ scanS l 0 false [] = scanS l k false ts ∧ Below w.heap.size w wr ∧ w.heap.size + 1 ≤ wr.heap.size ∧ Scn wr w.heap.size A len cap k ∧ OwnT wr (w.heap.size + 1) v ts)
 case atStart => exact ⟨0, [], by omega, Nat.zero_le _, Nat.le_refl _, rfl, (Below.refl _ _).alloc (Nat.le_refl _) _, by simp, Blk.new _ _ _, OwnT.nil _ _⟩
 case round =>
  obtain ⟨k, ts, rfl, hk, htl, hE, hbel, hsz, hg, ho⟩ := hrel
  have HE := Lib.hid hE
  have HW := Lib.hid hbel
  have HO := Lib.hid ho
  have CBB := CB k wr (HS.out.below_all hbel) hg hk
  clear hE hbel hg ho CB
  go_wp2_with fail
  refine CBB.out.mono ?_
  rintro e w1 ⟨a', ok, rfl, h1, h2, h3, h4, h5, h6, h7⟩
  have hb1 : Below w.heap.size w w1 := HW.out.grown h5 (by omega) (fun k hk => by injection hk with hk; omega)
  have ho1 : OwnT w1 (w.heap.size + 1) u6 ts := HO.out.kept h5 (by
   right
   intro h
   have := World.ownsRow.lt HO.out _ h
   omega)
  have HB1 := Lib.hid hb1
  have HO1 := Lib.hid ho1
  have H3 := Lib.hid h3
  have H4 := Lib.hid h4
  have H7 := Lib.hid h7
  have hsz1 : w.heap.size + 1 ≤ w1.heap.size := by omega
  obtain ⟨kc0, kc1, kf⟩ := h7.cells
  clear h3 h4 h5 h6 h7 CBB hb1 ho1 HO
  cases ok
  ·go_wp2_with fail
   go_quiet (fail)
   go_wp2_with fail
   refine bodyPost_ret (v := .tuple #[.slice none 0 0, .int .i64 (a' : Int), .int .u8 3]) (by simp [results, Tryz.results32, go_sem]) rfl ?_
   exact tks_of (HE.out.trans (H4.out (by trivial) ts)) rfl (OwnT.nil _ _) (below_drewN HB1.out _)
  ·by_cases hend : a' = len
   ·have e1 : ((a' : Int) == (len : Int)) = true := by rw [hend]; exact beq_self_eq_true _
    have e2 : ((a' == len) = true) := by rw [hend]; exact beq_self_eq_true _
    have hsc : scanS l 0 false [] = (ts ++ [⟨4, ⟨#[]⟩, 0, a'⟩], 0, 0) := by
     rw [HE.out, (H3.out (by trivial)).2 ts, scan_end (by rw [HL.out]; omega), HL.out, hend]
    have HSC := Lib.hid hsc
    have HEND := Lib.hid hend
    clear hsc hend CT
    go_wp2_with (at_builtin; refine wpList_append_own _ rfl _ _ 39 rfl (w.heap.size + 1) 47 i0 _ 4 40 Tryz.underlying39 hi hz0 hz1 hz2 rfl (by decide) _ _ _ rfl (OwnT.alloc HO1.out _) ⟨w1.heap.size, 0, none⟩ 1 1 (Tok.cells ⟨4, ⟨#[]⟩, 0, a'⟩) rfl rfl ?c1 ?c2 ?c3 ?c4 ?c5 ?_)
    case c1 =>
     intro j u hj
     match j, hj with
     | 0, hj => simp [Tok.cells] at hj; subst hj; simp [Addr.add]
     | 1, hj => simp [Tok.cells] at hj; subst hj; simp [Addr.add]
     | 2, hj => simp [Tok.cells] at hj; subst hj; simp [Addr.add]
     | 3, hj => simp [Tok.cells] at hj; subst hj; simp [Addr.add]
    case c2 => intro u hu; simp [Tok.cells] at hu; rcases hu with rfl | rfl | rfl | rfl <;> rfl
    case c3 => unfold maxLen; omega
    case c4 => omega
    case c5 => first | omega | (simp; omega)
    intro v' w2 hown' hgrow _
    have ho2 := Lib.hid ((OwnT.one hown').mono (Nat.le_succ _))
    have hb2 := Lib.hid ((HB1.out.alloc (by omega) _).grown hgrow (by first | omega | (simp; omega)) (fun k hk => Nat.le_trans (Nat.le_succ _) (World.ownsRow.lt HO1.out k hk).1))
    clear hown' hgrow
    go_wp2_with fail
    refine bodyPost_ret (v := .tuple #[_, .int .i64 0, .int .u8 0]) (by simp [results, Tryz.results32, go_sem]; rfl) rfl ?_
    exact tks_of HSC.out rfl ho2.out hb2.out
   ·have e1 : ((a' : Int) == (len : Int)) = false := by rw [beq_eq_false_iff_ne]; omega
    have e2 : ((a' == len) = false) := by rw [beq_eq_false_iff_ne]; omega
    have hx := (H3.out (by trivial)).1 (by omega)
    have CTT := CT a' w1 (HS.out.below_all HB1.out) H7.out (by omega) hx.1 hx.2
    clear CT hx
    have HLT := Lib.hid (show a' < len by omega)
    go_wp2_with fail
    refine CTT.out.mono ?_
    rintro e w2 ⟨⟨kd, tx, n, at_⟩, c, a2, rfl, q1, q2, q3, q4, q5⟩
    simp only [Tok.val]
    have hb2 : Below w.heap.size w w2 := HB1.out.grown q4 (by omega) (fun k hk => by injection hk with hk; omega)
    have ho2 : OwnT w2 (w.heap.size + 1) u6 ts := HO1.out.kept q4 (by
     right
     intro h
     have := World.ownsRow.lt HO1.out _ h
     omega)
    have hsz2 : w.heap.size + 1 ≤ w2.heap.size := Nat.le_trans hsz1 q4.size
    have HB2 := Lib.hid hb2
    have HO2 := Lib.hid ho2
    have Q2 := Lib.hid q2
    have Q3 := Lib.hid q3
    have Q5 := Lib.hid (q5.alloc (.cells #[.int .u8 kd, .string tx, .int .i64 n, .int .i64 at_] 47))
    obtain ⟨kd0, kd1, _⟩ := q5.cells
    have hgl : w.heap.size < w2.heap.size := by omega
    clear q2 q3 q4 q5 hb2 ho2 kc0 kc1 kf
    by_cases hc : c = 0
    ·subst hc
     have Q2' := Lib.hid (Q2.out rfl)
     go_wp2_with (at_builtin; refine wpList_append_own _ rfl _ _ 39 rfl (w.heap.size + 1) 47 i0 _ 4 40 Tryz.underlying39 hi hz0 hz1 hz2 rfl (by decide) _ _ _ rfl (OwnT.alloc (OwnT.alloc HO2.out _) _) ⟨w2.heap.size + 1, 0, none⟩ 1 1 (Tok.cells ⟨kd, tx, n, at_⟩) rfl rfl ?c1 ?c2 ?c3 ?c4 ?c5 ?_)
     case c1 =>
      intro j u hj
      match j, hj with
      | 0, hj => simp [Tok.cells] at hj; subst hj; simp
      | 1, hj => simp [Tok.cells] at hj; subst hj; simp
      | 2, hj => simp [Tok.cells] at hj; subst hj; simp
      | 3, hj => simp [Tok.cells] at hj; subst hj; simp
     case c2 => intro u hu; simp [Tok.cells] at hu; rcases hu with rfl | rfl | rfl | rfl <;> rfl
     case c3 => unfold maxLen; omega
     case c4 => omega
     case c5 => first | omega | (simp; omega)
     intro v' w3 hown' hgrow _
     have ho3 := Lib.hid (OwnT.one hown')
     have hb3 := Lib.hid (((HB2.out.alloc (by omega) _).alloc (by first | omega | (simp; omega)) _).grown hgrow (by first | omega | (simp; omega)) (fun k hk => Nat.le_trans (Nat.le_succ _) (World.ownsRow.lt HO2.out k hk).1))
     have hs3 := Lib.hid (show w.heap.size + 1 ≤ w3.heap.size by have := hgrow.size; (try simp at this); omega)
     have hq3 : Scn w3 w.heap.size A len cap a2 := Blk.grown (Blk.alloc Q5.out _) hgrow (by
      intro h
      have := World.ownsRow.lt HO2.out _ h.symm
      omega)
     have HQ3 := Lib.hid hq3
     clear hown' hgrow hq3
     go_wp2_with fail
     go_roundg (len - a2)
     case measure => have := HLT.out; have := Q2'.out.1; omega
     case rel => exact ⟨a2, ts ++ [⟨kd, tx, n, at_⟩], rfl, q1, by (have := Q2'.out.1; simp; omega), by rw [HE.out, (H3.out (by trivial)).2 ts, Q2'.out.2 ts], hb3.out, hs3.out, HQ3.out, ho3.out⟩
    ·have g0 : (c != 0) = true := bne_iff_ne.2 hc
     have Q3' := Lib.hid (Q3.out hc)
     go_wp2_with fail
     go_quiet (fail)
     go_wp2_with fail
     refine bodyPost_ret (v := .tuple #[.slice none 0 0, .int .i64 (a2 : Int), .int .u8 c]) (by simp [results, Tryz.results32, go_sem]) rfl ?_
     exact tks_of (HE.out.trans (((H3.out (by trivial)).2 ts).trans (Q3'.out ts))) rfl (OwnT.nil _ _) (below_drewN (HB2.out.alloc (by omega) _) _)
end Go.Proofs.YtahpnackkmbmgaaGreatDoor
end
section
namespace Go.Proofs.YtahpnackkmbmgaaGreatDoor.Vm
open Go.RowKit
def tkD (t : Tok) : List D := [.sc (.int .u8 t.kind), .sc (.string t.text), .sc (.int .i64 t.n), .sc (.int .i64 t.at_)]
def rTk (ts : List Tok) : List (List D) := ts.map tkD
def numsU (l : List UInt8) : List Int := l.map fun c => (c.toNat : Int)
theorem rTk_len (ts : List Tok) : (rTk ts).length = ts.length := by unfold rTk; rw [List.length_map]
theorem gb_nums (l : List UInt8) (i : Nat) (c : UInt8) (h : l[i]? = some c) : gb (numsU l) i = (c.toNat : Int) := by
 unfold gb numsU
 rw [List.getD_eq_getElem?_getD, List.getElem?_map, h]
 rfl
theorem byt_nums (l : List UInt8) : Byt (numsU l) := fun x hx => by
 unfold numsU at hx
 obtain ⟨c, _, rfl⟩ := List.mem_map.1 hx
 have := c.toNat_lt
 omega
theorem tks_at_ds {I : Nat → Nat → Prop} {w : World} : ∀ ts : List Tok, AtDs I w (ts.flatMap Tok.cells) (rTk ts).flatten
 | [] => .nil I w
 | t :: ts => .cons (.sc _ rfl) (.cons (.sc _ rfl) (.cons (.sc _ rfl) (.cons (.sc _ rfl) (tks_at_ds ts))))
theorem toks_spec {f : Nat} {k : IntKind} (l : List UInt8) (hf : fnOk Tryz.prog f = true) (h : ∀ (A : Option Addr) (cap : Nat) (w : World), l.length ≤ cap → SliceAt w .u8 A (numsU l) → Calls Tryz.prog f #[.slice A l.length cap] w (TksTold k (numsU l) w)) :
  Spec f [.one (.sl 1 (rU l))] [.one (.sl 4 (rTk (scanS (numsU l) 0 false []).1)), .one (.sc (.int .i64 (scanS (numsU l) 0 false []).2.1)), .one (.sc (.int k (scanS (numsU l) 0 false []).2.2))] := by
 refine ⟨hf, fun I w args hI hat => ?_⟩
 match args, hat with
 | [v1], ⟨h1, _⟩ =>
  have h1 : AtD I w v1 (.sl 1 (rU l)) := h1
  obtain ⟨A, cap, rfl, hcap, hrows⟩ := h1.slice
  rw [rU_len] at hcap
  rw [rU_len]
  have hs : SliceAt w .u8 A (numsU l) := by
   rcases hrows with h0 | ⟨b, off, us, rfl, hup, hr, hlen, hc, hd⟩
   ·have : l = [] := by
     have := congrArg List.length h0
     rw [rU_len] at this
     exact List.eq_nil_of_length_eq_zero this
    subst this
    exact .inl rfl
   ·by_cases hl : l = []
    ·subst hl; exact .inl rfl
    have hus := row_cells l hd
    obtain ⟨hh, _, hib⟩ := hup
    refine .inr ⟨b, off, rfl, hI.1 _ _ hib, fun i hi => ?_⟩
    have hi' : i < l.length := by unfold numsU at hi; rw [List.length_map] at hi; exact hi
    have hg : l[i]? = some l[i] := List.getElem?_eq_getElem hi'
    rw [hc i (.int .u8 (l[i].toNat : Int)) (by rw [hus, List.getElem?_map, hg]; rfl), gb_nums l i _ hg]
  refine (h A cap w hcap hs).mono ?_
  rintro e w' ⟨v, rfl, ho, hb⟩
  refine ⟨_, rfl, ?_, hb⟩
  refine ⟨[v, .int .i64 (scanS (numsU l) 0 false []).2.1, .int k (scanS (numsU l) 0 false []).2.2], rfl, ?_, ⟨.sc _ rfl, ⟨.sc _ rfl, trivial⟩⟩⟩
  show AtD (nxt I w w') w' v (.sl 4 (rTk (scanS (numsU l) 0 false []).1))
  generalize (scanS (numsU l) 0 false []).1 = ts at *
  rcases ho.2 with ⟨e0, hz⟩ | ⟨g, cap', cur, e0, hbase, hg, hnc, hcm, hcs, htake⟩
  ·have : ts = [] := List.eq_nil_of_length_eq_zero hz
   subst this
   rw [e0]
   exact .nil _ _ _
  ·rw [e0, ← rTk_len]
   refine .sl g 0 cap' 4 (rTk ts) (ts.flatMap Tok.cells) (by rw [rTk_len]; exact hnc) ⟨_, Nat.le_refl _, .inr ⟨hbase, (Array.getElem?_eq_some_iff.1 hg).1⟩⟩ (fun r hr => ?_) ?_ (fun i u hu => ?_) ((tks_at_ds ts).2)
   ·unfold rTk at hr
    obtain ⟨t, _, rfl⟩ := List.mem_map.1 hr
    rfl
   ·rw [rTk_len]; exact ho.1
   ·rw [Nat.zero_add, cell_get hg]
    have h5 : (cur.toList.take (ts.length * 4))[i]? = some u := by rw [htake]; exact hu
    rw [List.getElem?_take] at h5
    split at h5
    ·simpa using h5
    ·cases h5
theorem Tokens_s (l : List UInt8) (hl : l.length ≤ 65536) : Spec 32 [.one (.sl 1 (rU l))] [.one (.sl 4 (rTk (scanS (numsU l) 0 false []).1)), .one (.sc (.int .i64 (scanS (numsU l) 0 false []).2.1)), .one (.sc (.int .u8 (scanS (numsU l) 0 false []).2.2))] :=
 toks_spec l (by kernel_rfl) fun A cap w hcap hs => Tokens_any A l.length cap (numsU l) w (by unfold numsU; rw [List.length_map]) hcap (by omega) (byt_nums l) hs hl
end Go.Proofs.YtahpnackkmbmgaaGreatDoor.Vm
end
section
namespace Go.Proofs.YtahpnackkmbmgaaGreatDoor.Vm
open Go.RowKit
set_option maxRecDepth 100000
set_option maxHeartbeats 4000000
theorem rT_snoc {ks : List Ty} {k : Nat} {x : Ty} (h : ks[k]? = some x) : rT (ks.take (k + 1)) = rT (ks.take k) ++ [cT x] := by
 obtain ⟨hi, e⟩ := List.getElem?_eq_some_iff.1 h
 rw [rT_map, rT_map, List.take_succ_eq_append_getElem hi, e, List.map_append]
 rfl
theorem copied_s : ∀ t : Ty, t.parts.length ≤ 1048576 → Spec 89 [.ag (cT t)] [.ag (cT t)] := by
 intro t
 induction t using Ty.ind with
 | h t ih =>
  intro hN
  have hkl := kids_le t
  obtain ⟨op, nm, n, ks⟩ := t
  simp only [Ty.kids] at hkl ih
  rw [cT]
  obtain ⟨K, hK⟩ : ∃ K, K = rT ks := ⟨_, rfl⟩
  rw [← hK]
  refine spec_of Tryz.func89 rfl (by kernel_rfl) (by kernel_rfl) (by kernel_rfl) fun qa qb qc qd qe qf qg qh qi qj qk ql qm qo qp qq qs qt qu qv qw qx qy qz va vc vd ve vf vg vh vj vk vl vm vn vo vp vq vr vt vu hA => ?_
  cbv
  with_reducible apply next_at hA
  cbv
  refine own_at hA 3 25 true rfl ?_
  cbv
  repeat ((with_reducible apply next_at hA); cbv)
  obtain ⟨e1, e2, e3, e4, e5, e6, e7, e8, e9⟩ := ar_at hA
  obtain ⟨r1, r2, r3, r4⟩ := row_at hA
  refine loop_at hA (γ := Int × List (List D)) (fun x => [(9, vi .i64 x.1), (3, .own 2), (13, .jk)]) (fun x => [(2, .row true 25 x.2)]) (fun x => ∃ k : Nat, x.1 = (k : Int) ∧ k ≤ ks.length ∧ x.2 = rT (ks.take k)) (fun x => ks.length - x.1.toNat) (0, []) ?_ ?_ ?_
  ·exact ⟨0, rfl, Nat.zero_le _, rfl⟩
  ·cbv
  ·intro x hinv
   obtain ⟨z, L⟩ := x
   cbv
   repeat ((with_reducible apply next_at hA); cbv)
   obtain ⟨k, hz, hk, hE⟩ := hinv
   have hz : z = (k : Int) := hz
   replace hE : L = rT (ks.take k) := hE
   have hlen : qy K = (ks.length : Int) := by rw [r1, hK, rT_len]
   have hlt : qh z (qy K) = decide (k < ks.length) := by rw [e7, hlen, hz]; exact decide_eq_decide.2 (by omega)
   by_cases h9 : k < ks.length
   ·rw [decide_eq_true h9] at hlt
    obtain ⟨x, hx⟩ : ∃ x, ks[k]? = some x := ⟨_, List.getElem?_eq_getElem h9⟩
    have g1 : qz K z = some (cT x) := by rw [r2, hz, if_pos (by omega), hK]; exact rT_get hx
    have hsp := ih x (List.mem_of_getElem? hx) (by have := hkl.2 x (List.mem_of_getElem? hx); omega)
    have hsn := rT_snoc hx
    obtain ⟨o1, m1, n1, l1⟩ := x
    rw [cT] at g1 hsp hsn
    generalize rT l1 = L1 at *
    rw [hlt]
    cbv
    repeat ((with_reducible apply next_at hA); cbv)
    rw [g1]
    cbv
    repeat ((with_reducible apply next_at hA); cbv)
    refine call_at hA _ hsp ?_ ?_
    ·rfl
    cbv
    refine lit_at hA true ?_
    cbv
    refine room_at hA (by rw [hE, rT_len]; simp; omega) ?_
    cbv
    repeat ((with_reducible apply next_at hA); cbv)
    replace hz : z = (k : Int) := hz
    have hz1 : qa .i64 (qb z 1) = ((k + 1 : Nat) : Int) := by rw [e1, e2, hz, IntWalk.i64_in _ (by omega)]; omega
    refine ⟨(qa .i64 (qb z 1), vc L [[.sc (.int .u8 o1), .sc (.string m1), .sc (.int .i64 n1), .sl 4 L1]]), ⟨k + 1, hz1, h9, by show vc L _ = _; rw [r4, hE, hsn]⟩, by show ks.length - (qa .i64 (qb z 1)).toNat < ks.length - z.toNat; rw [hz1, hz]; omega, ?_⟩
    cbv
   ·rw [decide_eq_false h9] at hlt
    rw [hlt]
    cbv
    repeat ((with_reducible apply next_at hA); cbv)
    have hE2 : L = K := by rw [hE, hK, List.take_of_length_le (by omega)]
    rw [hE2]
    exact ⟨rfl, trivial⟩
end Go.Proofs.YtahpnackkmbmgaaGreatDoor.Vm
end
section
namespace Go.Proofs.YtahpnackkmbmgaaGreatDoor.Vm
open Go.RowKit
def rF (fs : List (ByteArray × Ty)) : List (List D) := fs.map fun f => .sc (.string f.1) :: cT f.2
theorem rF_len (fs : List (ByteArray × Ty)) : (rF fs).length = fs.length := by rw [rF, List.length_map]
theorem rF_get {fs : List (ByteArray × Ty)} {k : Nat} {x : ByteArray × Ty} (h : fs[k]? = some x) : (rF fs)[k]? = some (.sc (.string x.1) :: cT x.2) := by rw [rF, List.getElem?_map, h]; rfl
theorem cT_four (t : Ty) : ∃ c0 c1 c2 c3, cT t = [c0, c1, c2, c3] := by obtain ⟨op, nm, n, ks⟩ := t; exact ⟨_, _, _, _, by rw [cT]⟩
end Go.Proofs.YtahpnackkmbmgaaGreatDoor.Vm
end
section
namespace Go.Proofs.YtahpnackkmbmgaaGreatDoor.Vm
open Go.RowKit Go.Proofs
variable {F : Fence} {n : Nat} {P : Program} {w : World}
def roundQ (B : Nat) (Kp : World → World → Prop) (I : World → Prop) (Ix : Code → World → Prop) (W : World) : Exit → Act → World → Prop
 | .normal, _, W' => KeepsFrom B W W' ∧ Kp W W' ∧ I W'
 | .ret, _, W' => KeepsFrom B W W' ∧ Ix .ret W'
 | .exit i, _, W' => KeepsFrom B W W' ∧ Ix (.exit i) W'
 | _, _, _ => False
def SeqN (F : Fence) (n : Nat) (P : Program) (gf : Nat) (lb : Array Value) (encs : Nat → Array Value) (Kp : World → World → Prop) (N : Nat) (w : World) : Prop :=
 ∀ (l : Nat) (J : Nat → World → Prop) (Jx : Unit → World → Prop) (W : World), Below w.heap.size w W →
  (∀ k W1, k < N → J k W1 → YieldAt F (n - 1) P l (encs k) W1 fun e W' => (e = .returned (.bool true) ∧ J (k + 1) W' ∧ Kp W1 W') ∨ (e = .returned (.bool false) ∧ Jx () W')) →
  J 0 W → CallsIn F n P gf (#[.func (.yield l) #[] #[]] ++ lb) W fun e W' => (∃ v, e = .returned v) ∧ (J N W' ∨ Jx () W')
def Turns (L : Nat) (p : World → Prop) : Prop := ∀ (W : World) (r r' : Loop), p W → W.heap[L]? = some (.loop r) → p (W.putObj L (.loop r'))
theorem range_k {g : Operand} {ps : Array Tmp} {assign body : Code} {Q : Exit → Act → World → Prop} {a : Act}
  (hro : F.round = none) (h1 : 1 ≤ n) {gf : Nat} {lb : Array Value} (hg : a.eval g = .func (.func gf) #[] lb) (hFg : F.fn gf) (eg : ∀ args w, (callFunc gf args).run P w = .ok (.enter gf args) w)
  {encs : Nat → Array Value} {Kp : World → World → Prop} {N : Nat} (hseq : SeqN F (n - 1) P gf lb encs Kp N w)
  (hKt : ∀ {A B C : World}, Kp A B → Kp B C → Kp A C) (hKb : ∀ (W : World) (l : Nat) (o o' : Obj), w.heap.size ≤ l → W.heap[l]? = some o → o.isCells = false → o.isWalk = false → Kp W (W.putObj l o')) (hps : ∀ k, (encs k).size = ps.size)
  (I : Nat → World → Prop) (Ix : Code → World → Prop) (hI : ∀ k, Turns (w.heap.size + 1) (I k)) (hIx : ∀ c, Turns (w.heap.size + 1) (Ix c)) (h0 : ∀ r : Loop, I 0 ((w.alloc (.deferred (some []))).alloc (.loop r)))
  (hround : ∀ (l k : Nat) (W : World), k < N → I k W → ((∃ r : Loop, W.heap[w.heap.size + 1]? = some (.loop r)) ∧ W.heap[w.heap.size]? = some (.deferred (some []))) → assign.wpIn (F.inRound l) (n - 1 - 1) P (Exit.then (fun a' W1 => KeepsFrom w.heap.size W W1 ∧ Kp W W1 ∧ ∃ R : World → Prop, Turns (w.heap.size + 1) R ∧ R W1 ∧ ∀ W2, R W2 → body.wpIn (F.inRound l) (n - 1 - 1) P (roundQ w.heap.size Kp (I (k + 1)) Ix W2) a' W2) (fun _ _ _ => False))
   { tmps := (ps.zip (encs k)).foldl (fun t (p, v) => t.setIfInBounds p v) a.tmps, defers := [] } W)
  (hdone : ∀ (D : Nat) (W : World), D = w.heap.size → I N W → W.heap[D]? = some (.deferred (some [])) → Q .normal { a with defers := { target := .collected D, args := #[] } :: a.defers } W)
  (hstop : ∀ (D : Nat) (c : Code) (W : World), w.heap.size ≤ D → Ix c W → W.heap[D]? = some (.deferred (some [])) → c.wpIn F n P Q { a with defers := { target := .collected D, args := #[] } :: a.defers } W) :
  (Code.rangeFunc g ps assign body).wpIn F n P Q a w := by
 refine wpIn_rangeFunc fun fn hfn => ?_
 rw [hro]
 obtain ⟨D, hD⟩ : ∃ D, D = w.heap.size := ⟨_, rfl⟩
 obtain ⟨rec, hrec⟩ : ∃ rec : LoopState → Option Code → Loop, rec = fun st pe => { state := st, pending := pe, fn, tmps := a.tmps, params := ps, assign, body, defers := w.heap.size } := ⟨_, rfl⟩
 obtain ⟨W1, hW1⟩ : ∃ W1, W1 = (w.alloc (.deferred (some []))).alloc (.loop (rec .ready none)) := ⟨_, rfl⟩
 have hs1 : W1.heap.size = D + 1 + 1 := by rw [hW1, hD]; simp
 have hbel : Below D w W1 := by rw [hW1, hD]; exact ((Below.refl _ w).alloc (Nat.le_refl _) _).alloc (by simp) _
 have hL1 : W1.heap[D + 1]? = some (.loop (rec .ready none)) := by
  have := World.alloc_heap_new (w.alloc (.deferred (some []))) (.loop (rec .ready none))
  rw [World.size_alloc, ← hD, ← hW1] at this; exact this
 have hD1 : W1.heap[D]? = some (.deferred (some [])) := by
  rw [hW1, hD]; exact (Below.heap_alloc _ _ _ (by simp)).trans (World.alloc_heap_new w _)
 have hI1 : I 0 W1 := by rw [hW1]; exact h0 _
 refine ⟨D + 1, [{ target := .collected D, args := #[] }], W1, { target := .fn (.func gf) lb, args := #[.func (.yield (D + 1)) #[] #[]] }, W1, gf, #[.func (.yield (D + 1)) #[] #[]] ++ lb, W1,
  by rw [hW1, hrec, hD]; exact run_enterLoop_outer _ _ _ _ _, by simp only [resolve, hg]; simp [go_sem], fun f' hf => by simp [Target.leads] at hf; subst hf; exact hFg, by simp [invoke, go_sem, eg], fun _ => h1, ?_⟩
 refine (hseq (D + 1) (fun k W => I k W ∧ W.heap[D + 1]? = some (.loop (rec .ready none)) ∧ W.heap[D]? = some (.deferred (some [])))
  (fun _ W => ∃ c, Ix c W ∧ W.heap[D + 1]? = some (.loop (rec .done (some c))) ∧ W.heap[D]? = some (.deferred (some []))) W1 (hD ▸ hbel) ?_ ⟨hI1, hL1, hD1⟩).mono ?_
 ·rintro k W hk ⟨hi, hl, hd⟩
  have hy := run_yield (P := P) (args := encs k) hl (by rw [hrec]; exact hps k)
  rw [hrec] at hy
  refine ⟨fn, _, assign, body, hy, roundIn_of_wpIn hfn (wpIn_mono (hround (D + 1) k W hk hi ⟨⟨_, hD ▸ hl⟩, hD ▸ hd⟩) fun e a' Wa h => ?_)⟩
  cases e with
  | normal =>
   obtain ⟨ha1, ha2, R, hR, hr1, hb⟩ := h
   have hl2 := ha1.same _ _ (by omega) hl rfl
   have hd2 := ha1.same _ _ (by omega) hd rfl
   refine ⟨_, run_beginRound hl2 (by rw [hrec]), ?_⟩
   obtain ⟨W2, hW2⟩ : ∃ W2, W2 = Wa.putObj (D + 1) (.loop { rec .ready none with state := .busy }) := ⟨_, rfl⟩
   have hl3 : W2.heap[D + 1]? = some (.loop { rec .ready none with state := .busy }) := by rw [hW2]; exact World.putObj_heap_same (Array.getElem?_eq_some_iff.1 hl2).1
   have hd3 : W2.heap[D]? = some (.deferred (some [])) := by rw [hW2]; exact (World.putObj_heap_other (by omega)).trans hd2
   have hk3 : Kp Wa W2 := by rw [hW2]; exact hKb _ _ _ _ (by omega) hl2 rfl rfl
   have hr2 : R W2 := by rw [hW2]; rw [hD] at hl2 ⊢; exact hR _ _ _ hr1 hl2
   rw [← hW2]
   refine wpIn_mono (hb W2 hr2) fun e a3 W3 hp => ?_
   have fin : ∀ jump : Option Code, KeepsFrom w.heap.size W2 W3 → ∃ W4, W4 = W3.putObj (D + 1) (.loop (rec (if jump.isNone then .ready else .done) jump)) ∧ (Instr.endRound (D + 1) jump).run P W3 = .ok (.bool jump.isNone) W4 ∧
     W3.heap[D + 1]? = some (.loop { rec .ready none with state := .busy }) ∧ W4.heap[D + 1]? = some (.loop (rec (if jump.isNone then .ready else .done) jump)) ∧ W4.heap[D]? = some (.deferred (some [])) := fun jump hk => by
    have h3 := hk.same _ _ (by omega) hl3 rfl
    refine ⟨_, rfl, ?_, h3, World.putObj_heap_same (Array.getElem?_eq_some_iff.1 h3).1, (World.putObj_heap_other (by omega)).trans (hk.same _ _ (by omega) hd3 rfl)⟩
    have := run_endRound (P := P) jump h3
    rw [hrec] at this ⊢
    exact this
   cases e with
   | normal =>
    obtain ⟨h5, h6, h7⟩ := hp
    obtain ⟨W4, e4, hr4, hl4, hl5, hd5⟩ := fin none h5
    exact ⟨_, W4, hr4, .inl ⟨rfl, ⟨by rw [e4]; rw [hD] at hl4 ⊢; exact hI _ _ _ _ h7 hl4, hl5, hd5⟩, hKt ha2 (hKt (hKt hk3 h6) (by rw [e4]; exact hKb _ _ _ _ (by omega) hl4 rfl rfl))⟩⟩
   | ret =>
    obtain ⟨h5, h7⟩ := hp
    obtain ⟨W4, e4, hr4, hl4, hl5, hd5⟩ := fin (some .ret) h5
    exact ⟨_, W4, hr4, .inr ⟨rfl, .ret, by rw [e4]; rw [hD] at hl4 ⊢; exact hIx _ _ _ _ h7 hl4, hl5, hd5⟩⟩
   | exit i =>
    obtain ⟨h5, h7⟩ := hp
    obtain ⟨W4, e4, hr4, hl4, hl5, hd5⟩ := fin (some (.exit i)) h5
    exact ⟨_, W4, hr4, .inr ⟨rfl, .exit i, by rw [e4]; rw [hD] at hl4 ⊢; exact hIx _ _ _ _ h7 hl4, hl5, hd5⟩⟩
   | goto t => exact hp.elim
   | panic ch => exact hp.elim
   | outgrown => exact hp.elim
  | _ => exact h.elim
 ·rintro e W2 ⟨⟨v, rfl⟩, ⟨hi, hl, hd⟩ | ⟨c, hi, hl, hd⟩⟩
  ·exact ⟨none, _, by have := run_endLoop (P := P) hl (by rw [hrec]; simp); rw [hrec] at this; exact this, hdone D _ hD (by rw [hD] at hl ⊢; exact hI _ _ _ _ hi hl) ((World.putObj_heap_other (by omega)).trans hd)⟩
  ·exact ⟨some c, _, by have := run_endLoop (P := P) hl (by rw [hrec]; simp); rw [hrec] at this; exact this, hstop D c _ (by omega) (by rw [hD] at hl ⊢; exact hIx _ _ _ _ hi hl) ((World.putObj_heap_other (by omega)).trans hd)⟩
end Go.Proofs.YtahpnackkmbmgaaGreatDoor.Vm
end
section
namespace Go.Proofs.YtahpnackkmbmgaaGreatDoor.Vm
open Go.RowKit Go.Shelf Go.Proofs
attribute [local go_sem] Oper.semAt_some
def KpB (Bs b off m : Nat) (W W' : World) : Prop := (∀ v, W.cell? ⟨Bs, 0, none⟩ = some v → W'.cell? ⟨Bs, 0, none⟩ = some v) ∧ ∀ i, i < m → ∀ v, W.cell? ⟨b, off + i, none⟩ = some v → W'.cell? ⟨b, off + i, none⟩ = some v
theorem KpB.refl {Bs b off m : Nat} (W : World) : KpB Bs b off m W W := ⟨fun _ h => h, fun _ _ _ h => h⟩
theorem KpB.trans {Bs b off m : Nat} {A B C : World} (h : KpB Bs b off m A B) (h' : KpB Bs b off m B C) : KpB Bs b off m A C := ⟨fun v hv => h'.1 v (h.1 v hv), fun i hi v hv => h'.2 i hi v (h.2 i hi v hv)⟩
theorem KpB.turn {Bs b off m : Nat} (W : World) (l : Nat) (o o' : Obj) (hl : W.heap[l]? = some o) (ho : o.isCells = false) : KpB Bs b off m W (W.putObj l o') :=
 ⟨fun v hv => cell_kept hv (grownBy_putObj' W l o') (fun r e => by cases e; exact ⟨o, hl, ho⟩), fun i hi v hv => cell_kept hv (grownBy_putObj' W l o') (fun r e => by cases e; exact ⟨o, hl, ho⟩)⟩
set_option maxRecDepth 100000 in
set_option maxHeartbeats 4000000 in
theorem backF_in (e : Nat → Nat → Value) (F : Fence) (n : Nat) (hf : F.fn 112) (hro : F.round = none) (hn : 1 ≤ n) (l Bs b off len cap : Nat) (hreach : len * 80 ≤ 140737488351232) (J : Nat → World → Prop) (Jx : Unit → World → Prop)
  (hY : ∀ (k : Nat) (W : World), k < len → J k W → YieldAt F (n - 1) Tryz.prog l #[.int .i64 ((len - 1 - k : Nat) : Int), .agg #[e (len - 1 - k) 0, e (len - 1 - k) 1, e (len - 1 - k) 2, e (len - 1 - k) 3, e (len - 1 - k) 4]] W fun r W' =>
   (r = .returned (.bool true) ∧ J (k + 1) W' ∧ KpB Bs b off (len * 5) W W') ∨ (r = .returned (.bool false) ∧ Jx () W'))
  (W : World) (hBs : W.cell? ⟨Bs, 0, none⟩ = some (.slice (some ⟨b, off, none⟩) len cap)) (hc : ∀ j, j < len → ∀ i, i < 5 → W.cell? ⟨b, off + (j * 5 + i), none⟩ = some (e j i)) (h0 : J 0 W) :
  CallsIn F n Tryz.prog 112 #[.func (.yield l) #[] #[], .pointer (some ⟨Bs, 0, none⟩)] W fun r W' => (∃ v, r = .returned v) ∧ (J len W' ∨ Jx () W') := by
 refine callsIn_of_wp Tryz.func112 rfl hf ?_ hro
 simp only [Tryz.ntmps112, List.size_toArray, List.length_cons, List.length_nil, Nat.reduceAdd, Nat.reduceSub, Array.replicate_succ, Array.replicate_zero, List.push_toArray, List.append_toArray, List.nil_append, List.cons_append]
 gi_wp2
 gi_loopw [3] (fun i wr => ∃ k r : Nat, k + r = len ∧ i = .int .i64 ((r : Int) - 1) ∧ J k wr ∧ KpB Bs b off (len * 5) W wr)
  (fun i _ => (intOf i + 1).toNat)
 case atStart => exact ⟨0, len, by omega, rfl, h0, KpB.refl W⟩
 case round =>
  obtain ⟨k, r, hk, rfl, hJs, hnx⟩ := hrel
  have hbx := hnx.1 _ hBs
  cases r with
  | succ q =>
   have eq : (((q + 1 : Nat) : Int) - 1) = (q : Int) := by omega
   have hq : len - 1 - k = q := by omega
   rw [eq]
   have hy0 := hY k wr (by omega) hJs
   rw [hq] at hy0
   obtain ⟨fn, tmps, assign, body, hy, hR⟩ := hy0
   have h2 : ∀ i, i < 5 → wr.cell? ⟨b, off + q * 5 + i, none⟩ = some (e q i) := fun i hi => by rw [Nat.add_assoc]; exact hnx.2 _ (by omega) _ (hc q (by omega) i hi)
   have c0 := h2 0 (by omega)
   have c1 := h2 1 (by omega)
   have c2 := h2 2 (by omega)
   have c3 := h2 3 (by omega)
   have c4 := h2 4 (by omega)
   clear h2 hc hY
   simp only [Nat.add_zero] at c0
   have hqn : (0 : Int) ≤ (q : Int) := by omega
   have hql : (q : Int) < (len : Int) := by omega
   have hqlt : q < len := by omega
   gi_wp2
   refine hR.mono ?_
   rintro r W3 (⟨rfl, hJ3, hk3⟩ | ⟨rfl, hJx3⟩)
   ·gi_wp2
    go_roundw
    case rel => exact ⟨k + 1, q, by omega, by simp, hJ3, hnx.trans hk3⟩
    case measure => simp [intOf]
   ·gi_wp2
    refine bodyPost_ret (results_none rfl _ _ _) rfl ?_
    exact ⟨⟨_, rfl⟩, .inr hJx3⟩
  | zero =>
   obtain rfl : k = len := by omega
   clear hY
   gi_wp2
   go_end0
   exact ⟨⟨_, rfl⟩, .inl hJs⟩
set_option maxRecDepth 100000 in
set_option maxHeartbeats 2000000 in
theorem backF_nil (A : Option Addr) (cap : Nat) (F : Fence) (n : Nat) (hf : F.fn 112) (hro : F.round = none) (l Bs : Nat) (J : World → Prop) (W : World) (hBs : W.cell? ⟨Bs, 0, none⟩ = some (.slice A 0 cap)) (h0 : J W) :
  CallsIn F n Tryz.prog 112 #[.func (.yield l) #[] #[], .pointer (some ⟨Bs, 0, none⟩)] W fun e W' => (∃ v, e = .returned v) ∧ J W' := by
 refine callsIn_of_wp Tryz.func112 rfl hf ?_ hro
 simp only [Tryz.ntmps112, List.size_toArray, List.length_cons, List.length_nil, Nat.reduceAdd, Nat.reduceSub, Array.replicate_succ, Array.replicate_zero, List.push_toArray, List.append_toArray, List.nil_append, List.cons_append]
 gi_wp2
 gi_loopw [3] (fun i wr => i = .int .i64 (-1) ∧ J wr) (fun _ _ => 0)
 case atStart => exact ⟨rfl, h0⟩
 case round =>
  obtain ⟨rfl, hJs⟩ := hrel
  gi_wp2
  go_end0
  exact ⟨⟨_, rfl⟩, hJs⟩
theorem backF_seq {I : Nat → Nat → Prop} {w : World} {v : Value} {rows : List (List D)} {Bs : Nat} (hlt : ∀ b h, I b h → b < w.heap.size) (hv : AtD I w v (.sl 5 rows)) (hBl : Bs < w.heap.size) (hBs : w.cell? ⟨Bs, 0, none⟩ = some v) (hreach : rows.length * 80 ≤ 140737488351232) :
    ∃ (b off : Nat) (us : List Value), us.length = rows.length * 5 ∧ (rows ≠ [] → Up I b (off + rows.length * 5)) ∧ AtDs I w us rows.flatten ∧ (∀ r ∈ rows, r.length = 5) ∧
      ∀ (F : Fence) (n : Nat), F.fn 112 → F.round = none → 1 ≤ n → SeqN F n Tryz.prog 112 #[.pointer (some ⟨Bs, 0, none⟩)] (fun k => #[.int .i64 ((rows.length - 1 - k : Nat) : Int), .agg (((us.drop ((rows.length - 1 - k) * 5)).take 5).toArray)]) (KpB Bs b off (rows.length * 5)) rows.length w := by
  obtain ⟨A, cap, rfl, hcap, h⟩ := hv.slice
  rcases h with rfl | ⟨b, off, us, rfl, hI, hr, hl, hc, hd⟩
  · exact ⟨0, 0, [], rfl, fun h => absurd rfl h, .nil I w, fun r hr => (by cases hr), fun F n hf hro hn l J Jx W hW hY h0 =>
      (backF_nil A cap F n hf hro l Bs (J 0) W ((hW.cell (p := ⟨Bs, 0, none⟩) hBl).trans hBs) h0).mono fun e W' h => ⟨h.1, .inl h.2⟩⟩
  · refine ⟨b, off, us, hl, fun _ => hI, hd, hr, fun F n hf hro hn l J Jx W hW hY h0 => ?_⟩
    have hbl : b < w.heap.size := by obtain ⟨k, h1, h2⟩ := hI; exact hlt _ _ h2
    refine backF_in (fun j i => us.getD (j * 5 + i) undef) F n hf hro hn l Bs b off rows.length cap hreach J Jx (fun k W1 hk hj => ?_) W ((hW.cell (p := ⟨Bs, 0, none⟩) hBl).trans hBs) (fun j hj i hi => ?_) h0
    · have := hY k W1 hk hj
      have hlen : (rows.length - 1 - k) * 5 + 5 ≤ us.length := by rw [hl, ← Nat.succ_mul]; exact Nat.mul_le_mul_right _ (by omega)
      have e : ((us.drop ((rows.length - 1 - k) * 5)).take 5) = [us.getD ((rows.length - 1 - k) * 5 + 0) undef, us.getD ((rows.length - 1 - k) * 5 + 1) undef, us.getD ((rows.length - 1 - k) * 5 + 2) undef, us.getD ((rows.length - 1 - k) * 5 + 3) undef, us.getD ((rows.length - 1 - k) * 5 + 4) undef] := by
        apply List.ext_getElem?
        intro i
        rw [List.getElem?_take]
        split
        · rename_i hi
          rw [List.getElem?_drop]
          have h3 : (rows.length - 1 - k) * 5 + i < us.length := by omega
          have hu : ∀ j, (rows.length - 1 - k) * 5 + j < us.length → us[(rows.length - 1 - k) * 5 + j]? = some (us.getD ((rows.length - 1 - k) * 5 + j) undef) := fun j hj => by rw [List.getD_eq_getElem?_getD, List.getElem?_eq_getElem hj]; rfl
          rw [hu i h3]
          match i, hi with
          | 0, _ => rfl
           | 1, _ => rfl
           | 2, _ => rfl
           | 3, _ => rfl
           | 4, _ => rfl
          
        · rename_i hi
          rw [List.getElem?_eq_none (by simp; omega)]
      dsimp only at this
      rw [e] at this
      exact this
    · refine (hW.cell (p := ⟨b, off + (j * 5 + i), none⟩) hbl).trans ?_
      have h3 : j * 5 + i < us.length := by
        have h4 : j * 5 + 5 ≤ rows.length * 5 := by rw [← Nat.succ_mul]; exact Nat.mul_le_mul_right _ (by omega)
        omega
      have := hc (j * 5 + i) _ (List.getElem?_eq_getElem h3)
      rw [this, List.getD_eq_getElem?_getD, List.getElem?_eq_getElem h3]
      rfl
end Go.Proofs.YtahpnackkmbmgaaGreatDoor.Vm
end
section
namespace Go.Proofs.YtahpnackkmbmgaaGreatDoor.Vm
open Go.RowKit
section
variable {I0 : Nat → Nat → Prop} {X : Nat → Prop} {w0 : W0} {I : Nat → Nat → Prop} {g : Nat → Value} {s : S} {a : Act} {w : World}
def other : Obj → Bool
 | .cells _ _ _ => false
 | .map _ _ => false
 | _ => true
theorem keeps_turn {L : Nat} {o : Obj} (hI : ∀ k, ¬ I L k) : Keeps I w (w.putObj L o) := fun b k hb i hi => by
 have hne : b ≠ L := fun e => hI k (e ▸ hb)
 show (match (w.putObj L o).heap[b]? with | some (.cells c _ _) => c[i]? | _ => none) = _
 rw [World.putObj_heap_other hne]
 rfl
theorem blk_turn {L : Nat} {y : Obj} (hl : w.heap[L]? = some y) (hy : other y = true) {k : Nat} {o : O} (h : ObjAt X w0 I w g k o) (hd : o ≠ .dead) : ¬ gbl (g k) L := fun hg => by
 cases o with
 | dead => exact hd rfl
 | box cs =>
  obtain ⟨b, us, t, h1, h2, _⟩ := h
  rw [h1] at hg
  obtain rfl : b = L := hg
  rw [hl] at h2
  rw [Option.some.inj h2] at hy
  cases hy
 | row z e rows =>
  obtain ⟨us, h1, _⟩ := h
  rcases h1.2 with ⟨e0, _⟩ | ⟨g', cap, cur, e0, _, hh, _⟩
  ·rw [e0] at hg; exact hg.elim
  ·rw [e0] at hg
   have hg : g' = L := hg
   subst hg
   rw [hl] at hh
   rw [Option.some.inj hh] at hy
   cases hy
 | ob T vs =>
  obtain ⟨b, h1, h2, _⟩ := h
  rw [h1] at hg
  obtain rfl : b = L := hg
  rw [hl] at h2
  rw [Option.some.inj h2] at hy
  cases hy
 | mp kt es =>
  obtain ⟨b, l, c, h1, h2, _⟩ := h
  rw [h1] at hg
  obtain rfl : b = L := hg
  rw [hl] at h2
  rw [Option.some.inj h2] at hy
  cases hy
 | it P =>
  obtain ⟨A, n, cap, F, h1, h2, h3, h4⟩ := h
  rw [h1, gbl_pack] at hg
  obtain ⟨c, t, h5⟩ := (h4 L hg).1
  rw [hl] at h5
  rw [Option.some.inj h5] at hy
  cases hy
 | kl ks =>
  obtain ⟨us, h1, _⟩ := h
  rw [h1] at hg
  exact hg.elim
theorem obj_turn {L : Nat} {y y' : Obj} (hl : w.heap[L]? = some y) (hy : other y = true) (hI : ∀ k, ¬ I L k) {k : Nat} {o : O} (h : ObjAt X w0 I w g k o) : ObjAt X w0 I (w.putObj L y') g k o := by
 cases hd : o with
 | dead => exact True.intro
 | _ =>
  rw [hd] at h
  exact h.keep (fun _ _ h => h) (keeps_turn hI) (fun b hb => World.putObj_heap_other fun e => blk_turn hl hy h (by simp) (e ▸ hb)) (fun b hb h' hh => hh)
theorem RelI.turned (h : RelI I0 X w0 I g s a w) {L : Nat} {y y' : Obj} (hl : w.heap[L]? = some y) (hy : other y = true) (h0 : w0.w.heap.size ≤ L) (hI : ∀ k, ¬ I L k) : RelI I0 X w0 I g s a (w.putObj L y') := by
 have hk := keeps_turn (w := w) (o := y') hI
 refine ⟨h.im, fun b k hb => ⟨?_, (h.lt b k hb).2⟩, ⟨h.fr.os, h.fr.tape, h.fr.output, ?_, fun b hb hX => (World.putObj_heap_other (by omega)).trans (h.fr.block b hb hX)⟩, h.kp.trans fun b k hb i hi => hk b k (h.im b k hb) i hi, h.lo, h.st, fun k o ho => obj_turn hl hy hI (h.obj k o ho), h.dis, h.out, h.tmp.mono (fun _ _ h => h) hk, h.dfr⟩
 ·have := (h.lt b k hb).1; simpa using this
 ·have := h.fr.size; simpa using this
end
section
variable {I0 : Nat → Nat → Prop} {X : Nat → Prop} {w0 : W0} {I : Nat → Nat → Prop} {g : Nat → Value} {s : S} {a : Act} {w : World}
theorem RelI.turnBoth (h : RelI I0 X w0 I g s a w) {L : Nat} {y y0 y' : Obj} (hl : w.heap[L]? = some y) (hy : other y = true) (hl0 : w0.w.heap[L]? = some y0) (hI : ∀ k, ¬ I L k) : RelI I0 X ⟨w0.w.putObj L y', w0.g, w0.n, w0.d⟩ I g s a (w.putObj L y') := by
 have hk := keeps_turn (w := w) (o := y') hI
 have hk0 := keeps_turn (w := w0.w) (o := y') (I := I0) (fun k hk => hI k (h.im L k hk))
 have hM : ∀ b, Mine X w0 b → Mine X ⟨w0.w.putObj L y', w0.g, w0.n, w0.d⟩ b := fun b hb => by
  rcases hb with hb | hb
  ·exact .inl (by simpa using hb)
  ·exact .inr hb
 refine ⟨h.im, fun b k hb => ⟨?_, fun hlt => (h.lt b k hb).2 (by simpa using hlt)⟩, ⟨h.fr.os, h.fr.tape, h.fr.output, ?_, fun b hb hX => ?_⟩, ?_, h.lo, h.st, fun k o ho => ?_, h.dis, h.out, h.tmp.mono (fun _ _ h => h) hk, h.dfr.1, ?_⟩
 ·have := (h.lt b k hb).1; simpa using this
 ·have := h.fr.size; simpa using this
 ·by_cases e : b = L
  ·subst e
   rw [World.putObj_heap_same (Array.getElem?_eq_some_iff.1 hl).1, World.putObj_heap_same (Array.getElem?_eq_some_iff.1 hl0).1]
  ·rw [World.putObj_heap_other e, World.putObj_heap_other e]
   exact h.fr.block b (by simpa using hb) hX
 ·intro b k hb i hi
  exact ((hk b k (h.im b k hb) i hi).trans (h.kp b k hb i hi)).trans (hk0 b k hb i hi).symm
 ·have := obj_turn (y' := y') hl hy hI (h.obj k o ho)
  cases o with
  | dead => exact True.intro
  | box cs => obtain ⟨b, us, t, h1, h2, h3, h4, h5, h6⟩ := this; exact ⟨b, us, t, h1, h2, h3, h4, h5, hM b h6⟩
  | mp kt es => obtain ⟨b, l, c, h1, h2, h3, h4, h6⟩ := this; exact ⟨b, l, c, h1, h2, h3, h4, hM b h6⟩
  | it P => obtain ⟨A, n, cap, F, h1, h2, h3, h4⟩ := this; exact ⟨A, n, cap, F, h1, h2, h3, fun b hb => ⟨(h4 b hb).1, (h4 b hb).2.1, hM b (h4 b hb).2.2⟩⟩
  | kl ks => exact this
  | ob T vs => obtain ⟨b, h1, h2, h3, h4⟩ := this; exact ⟨b, h1, h2, h3, hM b h4⟩
  | row z e rows => obtain ⟨us, h1, h2, h3, h4⟩ := this; exact ⟨us, h1, h2, h3, fun b hb => ⟨(h4 b hb).1, (h4 b hb).2.1, hM b (h4 b hb).2.2⟩⟩
 ·intro t ht
  obtain ⟨h1, h2⟩ := h.dfr.2 t ht
  obtain ⟨gl, ty, c, e1, e2, e3⟩ := var_at h1
  have hne : gl ≠ L := fun e => by
   subst e
   have := (h.fr.block gl e3 (h2 gl e1)).trans e2
   rw [hl] at this
   injection this with this
   subst this
   cases hy
  exact ⟨at_var e1 ((World.putObj_heap_other hne).trans e2), h2⟩
theorem keepsFrom_of {B : Nat} {g' : Nat → Value} {os : List O} {nn : Nat} {d : List Deferred} {I2 : Nat → Nat → Prop} {g2 : Nat → Value} {s2 : S} {a2 : Act} {w2 : World} (h : ∀ k o, os[k]? = some o → ObjAt X w0 I w g' k o) (hmp : ∀ j kt es b, os[j]? = some (.mp kt es) → gbl (g' j) b → b < B)
  (h2 : RelI I (Xof g' os) ⟨w, g', nn, d⟩ I2 g2 s2 a2 w2) : KeepsFrom B w w2 := by
 refine ⟨h2.fr.size, fun k o hk ho hc => (h2.fr.block k (Array.getElem?_eq_some_iff.1 ho).1 fun ⟨j, x, hj, hd, hb⟩ => ?_).trans ho⟩
 have hob := h j x hj
 cases x with
 | dead => exact hd rfl
 | box cs =>
  obtain ⟨b, us, t, h1, h2, _⟩ := hob
  rw [h1] at hb
  obtain rfl : b = k := hb
  rw [ho] at h2
  injection h2 with h2
  rw [h2] at hc
  cases hc
 | row z e rows =>
  obtain ⟨us, h1, _⟩ := hob
  rcases h1.2 with ⟨e0, _⟩ | ⟨g3, cap, cur, e0, _, hh, _⟩
  ·rw [e0] at hb; exact hb.elim
  ·rw [e0] at hb
   have hb : g3 = k := hb
   subst hb
   rw [ho] at hh
   injection hh with hh
   rw [hh] at hc
   cases hc
 | mp kt es => have := hmp j kt es k hj hb; omega
 | ob T vs =>
  obtain ⟨b, h1, h2, _⟩ := hob
  rw [h1] at hb
  obtain rfl : b = k := hb
  rw [ho] at h2
  injection h2 with h2
  rw [h2] at hc
  cases hc
 | it P =>
  obtain ⟨A, n, cap, F, h1, h2, h3, h4⟩ := hob
  rw [h1, gbl_pack] at hb
  obtain ⟨c, t, h5⟩ := (h4 k hb).1
  rw [ho] at h5
  injection h5 with h5
  rw [h5] at hc
  cases hc
 | kl ks =>
  obtain ⟨us, h1, _⟩ := hob
  rw [h1] at hb
  exact hb.elim
end
def isMp : O → Bool
 | .mp _ _ => true
 | _ => false
def mpSub : List O → List O → Bool
 | _, [] => true
 | [], o :: l => match isMp o with | true => false | false => mpSub [] l
 | x :: k, o :: l => match isMp o with | true => (match isMp x with | true => mpSub k l | false => false) | false => mpSub k l
theorem isMp_at {o : O} (h : isMp o = true) : ∃ kt es, o = .mp kt es := by
 cases o with
 | mp kt es => exact ⟨kt, es, rfl⟩
 | _ => cases h
theorem mpSub_at : ∀ {k l : List O} {j : Nat} {kt : Nat} {es : List (R × R)}, mpSub k l = true → l[j]? = some (.mp kt es) → ∃ kt' es', k[j]? = some (.mp kt' es')
 | _, [], j, _, _, _, h => by simp at h
 | [], o :: l, j, kt, es, hs, h => by
  simp only [mpSub] at hs
  cases ho : isMp o with
  | true => rw [ho] at hs; cases hs
  | false =>
   rw [ho] at hs
   cases j with
   | zero => simp at h; subst h; cases ho
   | succ j =>
    obtain ⟨a, b, hx⟩ := mpSub_at hs (show l[j]? = _ by simpa using h)
    simp at hx
 | x :: k, o :: l, j, kt, es, hs, h => by
  simp only [mpSub] at hs
  cases j with
  | zero =>
   simp at h
   subst h
   cases hx : isMp x with
   | true => obtain ⟨a, b, rfl⟩ := isMp_at hx; exact ⟨a, b, rfl⟩
   | false => rw [hx] at hs; cases hs
  | succ j =>
   have hs' : mpSub k l = true := by
    cases ho : isMp o with
    | true =>
     rw [ho] at hs
     cases hx : isMp x with
     | true => rw [hx] at hs; exact hs
     | false => rw [hx] at hs; cases hs
    | false => rw [ho] at hs; exact hs
   obtain ⟨a, b, hx⟩ := mpSub_at hs' (show l[j]? = _ by simpa using h)
   exact ⟨a, b, by simpa using hx⟩
def roundF (ks1 ks2 : List Nat) (n : Nat) (o o' : List O) (m : Nat) (s2 : S) : Prop := getO s2.o m = .kl ks1 ∧ getO s2.o n = .kl ks2 ∧ takeO n s2.o = o' ∧ lowO n o' = true ∧ mpSub o o' = true
def roundE (n : Nat) (o o' : List O) (m : Nat) (s2 : S) : Prop := getO s2.o m = .kl [] ∧ getO s2.o n = .kl [] ∧ takeO n s2.o = o' ∧ lowO n o' = true ∧ mpSub o o' = true
def roundS (ks1 ks2 : List Nat) (asg bdy : Code) (tk : List V) (o o' : List O) : Prop :=
 exec real asg ⟨tk, snocO o (.kl [])⟩ (fun x s1 => x = .normal ∧ mpSub o s1.o = true ∧ exec real bdy ⟨s1.t, snocO s1.o (.kl [])⟩ (fun x s2 => x = .normal ∧ roundF ks1 ks2 (lenO o) o o' (lenO s1.o) s2))
def roundR (asg bdy : Code) (tk : List V) (o o' : List O) : Prop :=
 exec real asg ⟨tk, snocO o (.kl [])⟩ (fun x s1 => x = .normal ∧ mpSub o s1.o = true ∧ exec real bdy ⟨s1.t, snocO s1.o (.kl [])⟩ (fun x s2 => x = .normal ∧ roundE (lenO o) o o' (lenO s1.o) s2))
section
variable {I0 : Nat → Nat → Prop} {X : Nat → Prop} {w0 : W0} {I : Nat → Nat → Prop} {g : Nat → Value} {t : List V} {o : List O} {a : Act} {W : World}
def Between (I0 : Nat → Nat → Prop) (X : Nat → Prop) (w0 : W0) (I : Nat → Nat → Prop) (L B : Nat) (t : List V) (a : Act) (o : List O) (W : World) : Prop :=
 ∃ I' g', (∀ b k, I b k → I' b k) ∧ (∀ k, ¬ I' L k ∧ ¬ I' B k) ∧ RelI I0 X w0 I' g' ⟨t, o⟩ a W ∧ ∀ j kt es b, o[j]? = some (.mp kt es) → gbl (g' j) b → b < B
theorem round_in {asg bdy : Code} {ro : Option Nat} {n L B : Nat} {r : Loop} {us : List Value} {tk : List V} {o' : List O} {ks1 ks2 : List Nat} (hA : okCode Tryz.prog asg = true) (hB : okCode Tryz.prog bdy = true)
  (h : RelI I0 X w0 I g ⟨t, o⟩ a W) (hL : W.heap[L]? = some (.loop r)) {dd : Option (List Deferred)} (hD : W.heap[B]? = some (.deferred dd)) (hL0 : w0.w.heap.size ≤ L) (hI2 : ∀ k, ¬ I L k ∧ ¬ I B k) (hmp : ∀ j kt es b, o[j]? = some (.mp kt es) → gbl (g j) b → b < B) (hv : AtVs I W g us tk) (ht : killTs ks2 t = t) (hx : roundS ks1 ks2 asg bdy tk o o') :
  asg.wpIn (FW ro) n Tryz.prog (Exit.then (fun a' W1 => KeepsFrom B W W1 ∧ Keeps I W W1 ∧ ∃ R : World → Prop, Turns L R ∧ R W1 ∧ ∀ W2, R W2 → bdy.wpIn (FW ro) n Tryz.prog (roundQ B (Keeps I) (Between I0 X w0 I L B t a o') (fun _ _ => False) W2) a' W2) (fun _ _ _ => False)) { tmps := us.toArray, defers := [] } W := by
 obtain ⟨g', hg, hgn, h1⟩ := h.rebase hv
 have hLt : L < W.heap.size := (Array.getElem?_eq_some_iff.1 hL).1
 have hDt : B < W.heap.size := (Array.getElem?_eq_some_iff.1 hD).1
 have hIL : ∀ k, ¬ I L k := fun k => (hI2 k).1
 have hmp1 : ∀ j kt es b, (snocO o (.kl []))[j]? = some (.mp kt es) → gbl (g' j) b → b < B := fun j kt es b hj hb => by
  rw [snocO_is] at hj
  have hlt : j < o.length := by
   have := (List.getElem?_eq_some_iff.1 hj).1
   rw [List.length_append, List.length_singleton] at this
   rcases Nat.lt_or_ge j o.length with h | h
   ·exact h
   ·have : j = o.length := by omega
    subst this
    simp at hj
  rw [List.getElem?_append_left hlt] at hj
  rw [hg j hlt] at hb
  exact hmp j kt es b hj hb
 have hXL : ¬ Xof g' (snocO o (.kl [])) L := fun ⟨j, x, hj, hd, hb⟩ => blk_turn hL rfl (h1.obj j x hj) hd hb
 have hXD : ¬ Xof g' (snocO o (.kl [])) B := fun ⟨j, x, hj, hd, hb⟩ => blk_turn hD rfl (h1.obj j x hj) hd hb
 refine exec_in asg _ _ _ _ _ hA ⟨I, g', h1⟩ hx fun e s1 a' W1 hr hk => ?_
 obtain ⟨he, hms, hx2⟩ := hk
 subst he
 obtain ⟨I1, g1, h1a⟩ := hr
 have hI1L : ∀ k, ¬ I1 L k := fun k hk => by
  rcases (h1a.lt L k hk).2 hLt with h2 | h2
  ·exact hIL k h2
  ·exact hXL h2
 have hI1D : ∀ k, ¬ I1 B k := fun k hk => by
  rcases (h1a.lt B k hk).2 hDt with h2 | h2
  ·exact (hI2 k).2 h2
  ·exact hXD h2
 have hmp2 : ∀ j kt es b, s1.o[j]? = some (.mp kt es) → gbl (g1 j) b → b < B := fun j kt es b hj hb => by
  obtain ⟨kt', es', ho⟩ := mpSub_at hms hj
  have hlt := (List.getElem?_eq_some_iff.1 ho).1
  obtain ⟨b0, l0, c0, e0, _⟩ := h.obj j _ ho
  have e1 := hg j hlt
  rw [e0] at e1
  have e2 := h1a.st j (Nat.lt_succ_of_lt hlt) (by show isRef (g' j) = true; rw [e1]; rfl)
  have e2 : g1 j = g' j := e2
  rw [e2, e1] at hb
  exact hmp j kt' es' b ho (by rw [e0]; exact hb)
 refine ⟨keepsFrom_of h1.obj hmp1 h1a, h1a.kp, fun W2 => ∃ (Wb : World) (rb r2 : Loop), RelI I0 X w0 I g ⟨t, o⟩ a Wb ∧ Wb.heap[L]? = some (.loop rb) ∧ W2.heap[L]? = some (.loop r2) ∧ (B ≠ L → W2.heap[B]? = some (.deferred dd)) ∧ RelI I (Xof g' (snocO o (.kl []))) ⟨Wb, g', o.length + 1, []⟩ I1 g1 s1 a' W2, ?_, ?_, ?_⟩
 ·rintro W2 r3 r' ⟨Wb, rb, r2, b1, b2, b3, bd, b4⟩ hl
  exact ⟨Wb.putObj L (.loop r'), r', r', b1.turned b2 rfl hL0 hIL, World.putObj_heap_same (Array.getElem?_eq_some_iff.1 b2).1, World.putObj_heap_same (Array.getElem?_eq_some_iff.1 b3).1, fun hne => (World.putObj_heap_other hne).trans (bd hne), b4.turnBoth hl rfl b2 hI1L⟩
 ·exact ⟨W, r, r, h, hL, (h1a.fr.block L hLt hXL).trans hL, fun _ => (h1a.fr.block B hDt hXD).trans hD, h1a⟩
 ·rintro W2 ⟨Wb, rb, r2, b1, b2, b3, bd, b4⟩
  have hne : B ≠ L := fun e => by rw [e, hL] at hD; cases hD
  have bd := bd hne
  obtain ⟨g3, hg3, hgn3, h5⟩ := b4.rebase b4.tmp
  have ea : ({ tmps := a'.tmps.toList.toArray, defers := [] } : Act) = a' := by
   have := b4.dfr.1
   cases a'
   simp only at this
   subst this
   rfl
  rw [ea] at h5
  have hmp3 : ∀ j kt es b, (snocO s1.o (.kl []))[j]? = some (.mp kt es) → gbl (g3 j) b → b < B := fun j kt es b hj hb => by
   rw [snocO_is] at hj
   have hlt : j < s1.o.length := by
    have := (List.getElem?_eq_some_iff.1 hj).1
    rw [List.length_append, List.length_singleton] at this
    rcases Nat.lt_or_ge j s1.o.length with h | h
    ·exact h
    ·have : j = s1.o.length := by omega
     subst this
     simp at hj
   rw [List.getElem?_append_left hlt] at hj
   rw [hg3 j hlt] at hb
   exact hmp2 j kt es b hj hb
  refine exec_in bdy _ _ _ _ _ hB ⟨I1, g3, h5⟩ hx2 fun e s2 a3 W3 hr hk => ?_
  obtain ⟨he, k1, k2, k3, k4, k5⟩ := hk
  subst he
  obtain ⟨I2, g2, h6⟩ := hr
  have hlo : o.length + 1 ≤ s1.o.length := h1a.lo
  have k1 := getO_some k1 (by simp)
  have k2 := getO_some k2 (by simp)
  rw [lenO_is] at k1 k2 k3 k4
  rw [takeO_is] at k3
  obtain ⟨_, h7⟩ := b4.unbase hg3 hgn3 h6 k1
  obtain ⟨hcut, h8⟩ := b1.unbase hg hgn h7 (ks := ks2) (by rw [List.getElem?_set_ne (by show s1.o.length ≠ o.length; omega)]; exact k2)
  have e3 : ((s2.o.set s1.o.length .dead).set o.length .dead).take o.length = o' := by
   rw [List.take_set_of_le (Nat.le_refl _), List.take_set_of_le (by omega), k3]
  have hl2 : o.length < s2.o.length := (List.getElem?_eq_some_iff.1 k2).1
  have h9 := h8.trim (n := o.length) h.lo (by show o.length ≤ ((s2.o.set _ _).set _ _).length; rw [List.length_set, List.length_set]; omega) hcut (by show lowO _ (((s2.o.set _ _).set _ _).take _) = true; rw [e3]; exact k4)
  have e4 : (⟨killTs ks2 t, ((s2.o.set s1.o.length .dead).set o.length .dead).take o.length⟩ : S) = ⟨t, o'⟩ := by rw [e3, ht]
  have h9' : RelI I0 X w0 I2 (cutG o.length g2) ⟨t, o'⟩ a W3 := by rw [← e4]; exact h9
  refine ⟨keepsFrom_of h5.obj hmp3 h6, fun b k hb => h6.kp b k (h1a.im b k hb), I2, cutG o.length g2, h7.im, fun k => ?_, h9', fun j kt es b hj hb => ?_⟩
  ·constructor
   ·intro hk
    rcases (h6.lt L k hk).2 (Array.getElem?_eq_some_iff.1 b3).1 with h2 | ⟨j, x, hj, hd, hb⟩
    ·exact hI1L k h2
    ·exact blk_turn b3 rfl (h5.obj j x hj) hd hb
   ·intro hk
    rcases (h6.lt B k hk).2 (Array.getElem?_eq_some_iff.1 bd).1 with h2 | ⟨j, x, hj, hd, hb⟩
    ·exact hI1D k h2
    ·exact blk_turn bd rfl (h5.obj j x hj) hd hb
  ·obtain ⟨kt', es', ho⟩ := mpSub_at k5 hj
   have hlt := (List.getElem?_eq_some_iff.1 ho).1
   obtain ⟨b0, l0, c0, e0, _⟩ := h.obj j _ ho
   have e1 := hg j hlt
   rw [e0] at e1
   have e2 : g2 j = g' j := h7.st j (Nat.lt_succ_of_lt hlt) (by show isRef (g' j) = true; rw [e1]; rfl)
   rw [show cutG o.length g2 j = g2 j from if_pos hlt, e2, e1] at hb
   exact hmp j kt' es' b ho (by rw [e0]; exact hb)
end
theorem live_dead {s : S} {k i : Nat} (h : live ⟨s.t, s.o.set k .dead⟩ i) : live s i := by
 obtain ⟨o, ho, hd⟩ := h
 by_cases e : k = i
 ·subst e
  rw [List.getElem?_set] at ho
  split at ho
  ·split at ho
   ·exact absurd (Option.some.inj ho).symm hd
   ·cases ho
  ·exact absurd rfl ‹¬_›
 ·exact ⟨o, by simpa [List.getElem?_set_ne e] using ho, hd⟩
section
variable {I0 : Nat → Nat → Prop} {X : Nat → Prop} {w0 : W0} {I : Nat → Nat → Prop} {g : Nat → Value} {s : S} {a : Act} {w : World}
theorem RelI.frzBox (h : RelI I0 X w0 I g s a w) {k : Nat} {cs : List V} (hk : s.o[k]? = some (.box cs)) : ∃ (b : Nat) (us : List Value) (t : TypeId × List Value), g k = .pointer (some ⟨b, 0, none⟩) ∧ w.heap[b]? = some (.cells (us ++ t.2).toArray t.1 (0, 0)) ∧ AtVs I w g us cs ∧
  RelI I0 X w0 (fun b' n => I b' n ∨ (b' = b ∧ n ≤ us.length)) g ⟨s.t, s.o.set k .dead⟩ a w := by
 obtain ⟨b, us, t, h1, h2, h3, h4, h5, h6⟩ := h.obj k _ hk
 have hlk : live s k := ⟨_, hk, by simp⟩
 have hgk : gbl (g k) b := by rw [h1]; rfl
 have hkp : Keeps I w w := Keeps.refl I w
 refine ⟨b, us, t, h1, h2, h3, fun b n hb => .inl (h.im b n hb), fun b' n hb => ?_, h.fr, h.kp, by simpa using h.lo, h.st, fun j o hj => ?_, fun i j b hi hj => h.dis i j b (live_dead hi) (live_dead hj), fun j hj => h.out j (by simpa using hj), h.tmp.mono (fun _ _ h => .inl h) hkp, h.dfr⟩
 ·rcases hb with hb | ⟨rfl, _⟩
  ·exact h.lt b' n hb
  ·refine ⟨(Array.getElem?_eq_some_iff.1 h2).1, fun hlt => .inr ?_⟩
   rcases h6 with hM | hM
   ·omega
   ·exact hM
 ·by_cases hjk : k = j
  ·subst hjk
   have hlt : k < s.o.length := (List.getElem?_eq_some_iff.1 hk).1
   simp only [List.getElem?_set_self hlt] at hj
   injection hj with hj
   subst hj
   exact True.intro
  ·simp only [List.getElem?_set_ne hjk] at hj
   by_cases hd : o = .dead
   ·subst hd; exact True.intro
   refine (h.obj j o hj).keep (fun _ _ h => .inl h) hkp (fun _ _ => rfl) fun b' hb n hn => ?_
   rcases hn with hn | ⟨rfl, _⟩
   ·exact hn
   ·exact absurd (h.dis k j b' hlk ⟨o, hj, hd⟩ hgk hb) hjk
end
section
variable {I0 : Nat → Nat → Prop} {X : Nat → Prop} {w0 : W0} {I : Nat → Nat → Prop} {g : Nat → Value} {t : List V} {a : Act} {w : World}
theorem Between.turned {L B : Nat} {o : List O} (h0 : w0.w.heap.size ≤ L) : Turns L (Between I0 X w0 I L B t a o) := by
 rintro W r r' ⟨I', g', h1, h2, h3, h4⟩ hl
 exact ⟨I', g', h1, h2, h3.turned hl rfl h0 (fun k => (h2 k).1), h4⟩
theorem range_go {asg bdy : Code} {n : Nat} {g0 : Operand} {p1 p2 gf N : Nat} {lb : Array Value} {u1 u2 : Nat → Value} {Kp : World → World → Prop} {st : Nat → List O} {tk : Nat → List V} {Q : Exit → Act → World → Prop} {ks1 ks2 : List Nat} (hA : okCode Tryz.prog asg = true) (hB : okCode Tryz.prog bdy = true)
  (h : RelI I0 X w0 I g ⟨t, st 0⟩ a w) (h1 : 1 ≤ n) (hg : a.eval g0 = .func (.func gf) #[] lb) (eg : ∀ args w, (callFunc gf args).run Tryz.prog w = .ok (.enter gf args) w)
  (hseq : SeqN (FW none) (n - 1) Tryz.prog gf lb (fun k => #[u1 k, u2 k]) Kp N w) (hKt : ∀ {A B C : World}, Kp A B → Kp B C → Kp A C) (hKb : ∀ (W : World) (l : Nat) (o o' : Obj), w.heap.size ≤ l → W.heap[l]? = some o → o.isCells = false → o.isWalk = false → Kp W (W.putObj l o')) (hKp : ∀ W W', Keeps I W W' → Kp W W')
  (hv : ∀ k W I' g', k < N → (∀ b j, I b j → I' b j) → Keeps I w W → AtVs I' W g' a.tmps.toList t → AtVs I' W g' ((a.tmps.setIfInBounds p1 (u1 k)).setIfInBounds p2 (u2 k)).toList (tk k))
  (ht : killTs ks2 t = t) (hx : ∀ k, k < N → roundS ks1 ks2 asg bdy (tk k) (st k) (st (k + 1)))
  (hQ : ∀ (D : Nat) (W : World), D = w.heap.size → Between I0 X w0 I (w.heap.size + 1) w.heap.size t a (st N) W → W.heap[D]? = some (.deferred (some [])) → Q .normal { a with defers := { target := .collected D, args := #[] } :: a.defers } W) :
  (Code.rangeFunc g0 #[p1, p2] asg bdy).wpIn (FW none) n Tryz.prog Q a w := by
 obtain ⟨L, hL⟩ : ∃ L, L = w.heap.size + 1 := ⟨_, rfl⟩
 have hL0 : w0.w.heap.size ≤ L := by have := h.fr.size; omega
 have hIL : ∀ k, ¬ I L k ∧ ¬ I w.heap.size k := fun k => ⟨fun hk => by have := (h.lt L k hk).1; omega, fun hk => by have := (h.lt _ k hk).1; omega⟩
 have hIL1 : ∀ k, ¬ I L k := fun k => (hIL k).1
 refine range_k (F := FW none) rfl h1 hg trivial eg hseq hKt hKb (fun _ => rfl) (fun k W => Between I0 X w0 I L w.heap.size t a (st k) W ∧ Keeps I w W) (fun _ _ => False) (fun k W r r' hw hl => ?_) (fun _ _ _ _ hw _ => hw) (fun r => ?_) (fun l k W hk hw hl => ?_) (fun D W hD hw hd => ?_) (fun _ _ _ _ hw _ => hw.elim)
 ·rw [← hL] at hl ⊢
  exact ⟨Between.turned hL0 W r r' hw.1 hl, hw.2.trans (keeps_turn hIL1)⟩
 ·have hbel : Below w.heap.size w ((w.alloc (.deferred (some []))).alloc (.loop r)) := ((Below.refl _ w).alloc (Nat.le_refl _) _).alloc (by simp) _
  refine ⟨⟨I, g, fun _ _ h => h, hIL, h.grow hbel (fun _ _ h => h) (fun _ _ h => .inl h), fun j kt es b hj hb => ((h.obj j _ hj).blk (by simp) b hb).1⟩, fun b j hb i _ => hbel.cell (p := ⟨b, i, none⟩) (h.lt b j hb).1⟩
 ·obtain ⟨⟨I', g', h2, h3, h4, h5⟩, hk2⟩ := hw
  obtain ⟨⟨r, hl⟩, hdd⟩ := hl
  rw [← hL] at hl
  have key := round_in (ro := some l) (n := n - 1 - 1) hA hB h4 hl hdd hL0 h3 h5 (hv k W I' g' hk h2 hk2 h4.tmp) ht (hx k hk)
  have ez : (#[p1, p2].zip #[u1 k, u2 k]).foldl (fun t (x : Tmp × Value) => match x with | (p, v) => t.setIfInBounds p v) a.tmps = (a.tmps.setIfInBounds p1 (u1 k)).setIfInBounds p2 (u2 k) := by simp
  rw [Array.toArray_toList, ← ez] at key
  refine wpIn_mono key fun e a' W1 he => ?_
  cases e with
  | normal =>
   obtain ⟨e1, e2, R, e3, e4, e5⟩ := he
   have hkI : ∀ {A B : World}, Keeps I' A B → Keeps I A B := fun h b j hb => h b j (h2 b j hb)
   refine ⟨e1, hKp _ _ (hkI e2), fun W2 => R W2 ∧ Keeps I w W2, ?_, ⟨e4, hk2.trans (hkI e2)⟩, ?_⟩
   ·rintro W2 r1 r2 ⟨f1, f2⟩ hl2
    rw [← hL] at hl2 ⊢
    exact ⟨e3 W2 r1 r2 f1 hl2, f2.trans (keeps_turn hIL1)⟩
   ·rintro W2 ⟨f1, f2⟩
    refine wpIn_mono (e5 W2 f1) fun e a3 W3 he => ?_
    cases e with
    | normal =>
     obtain ⟨q1, q2, I2, g2, q3, q4, q5, q6⟩ := he
     exact ⟨q1, hKp _ _ (hkI q2), ⟨I2, g2, fun b j hb => q3 b j (h2 b j hb), q4, q5, q6⟩, f2.trans (hkI q2)⟩
    | ret => exact he
    | exit i => exact he
    | goto t => exact he
    | panic c => exact he
    | outgrown => exact he
  | ret => exact he.elim
  | exit i => exact he.elim
  | goto t => exact he.elim
  | panic c => exact he.elim
  | outgrown => exact he.elim
 ·rw [hL] at hw
  exact hQ D W hD hw.1 hd
theorem range_ok {asg bdy : Code} {n : Nat} {g0 : Operand} {p1 p2 gf N : Nat} {lb : Array Value} {u1 u2 : Nat → Value} {Kp : World → World → Prop} {st : Nat → List O} {tk : Nat → List V} {Q : Exit → Act → World → Prop} (hA : okCode Tryz.prog asg = true) (hB : okCode Tryz.prog bdy = true)
  (h : RelI I0 X w0 I g ⟨t, st 0⟩ a w) (h1 : 1 ≤ n) (hg : a.eval g0 = .func (.func gf) #[] lb) (eg : ∀ args w, (callFunc gf args).run Tryz.prog w = .ok (.enter gf args) w)
  (hseq : SeqN (FW none) (n - 1) Tryz.prog gf lb (fun k => #[u1 k, u2 k]) Kp N w) (hKt : ∀ {A B C : World}, Kp A B → Kp B C → Kp A C) (hKb : ∀ (W : World) (l : Nat) (o o' : Obj), w.heap.size ≤ l → W.heap[l]? = some o → o.isCells = false → o.isWalk = false → Kp W (W.putObj l o')) (hKp : ∀ W W', Keeps I W W' → Kp W W')
  (hv : ∀ k W I' g', k < N → (∀ b j, I b j → I' b j) → Keeps I w W → AtVs I' W g' a.tmps.toList t → AtVs I' W g' ((a.tmps.setIfInBounds p1 (u1 k)).setIfInBounds p2 (u2 k)).toList (tk k))
  (hx : ∀ k, k < N → roundR asg bdy (tk k) (st k) (st (k + 1)))
  (hQ : ∀ (D : Nat) (W : World), D = w.heap.size → Between I0 X w0 I (w.heap.size + 1) w.heap.size t a (st N) W → W.heap[D]? = some (.deferred (some [])) → Q .normal { a with defers := { target := .collected D, args := #[] } :: a.defers } W) :
  (Code.rangeFunc g0 #[p1, p2] asg bdy).wpIn (FW none) n Tryz.prog Q a w :=
 range_go (ks1 := []) (ks2 := []) hA hB h h1 hg eg hseq hKt hKb hKp hv rfl hx hQ
end
section
variable {I0 : Nat → Nat → Prop} {X : Nat → Prop} {w0 : W0} {I : Nat → Nat → Prop} {g : Nat → Value} {s : S} {a : Act} {w : World}
theorem RelI.mark (h : RelI I0 X w0 I g s a w) (d : List Deferred) : RelI I0 X ⟨w0.w, w0.g, w0.n, d⟩ I g s { a with defers := d } w :=
 ⟨h.im, h.lt, h.fr, h.kp, h.lo, h.st, h.obj, h.dis, h.out, h.tmp, rfl, h.dfr.2⟩
end
def endK (l : List ResultVar) (q : List R) (m : Nat) : Vm.X → S → Prop
 | .exit _, _ => False
 | _, s => getO s.o m = .kl [] ∧ resS real s l q
theorem ends_spec {c2 : Code} {n D : Nat} {fn : Func} {q : List R} {w : World} {I IN : Nat → Nat → Prop} {gN : Nat → Value} {t : List V} {oN : List O} {a : Act} {W : World} (hc : okCode Tryz.prog c2 = true) (hr : okRes fn.results.toList = true)
  (h : RelI I (fun _ => False) ⟨w, fun _ => .nilFunc, 0, []⟩ IN gN ⟨t, oN⟩ a W) (hID : ∀ k, ¬ IN D k) (hD0 : w.heap.size ≤ D) (hD : W.heap[D]? = some (.deferred (some [])))
  (hx : exec real c2 ⟨t, snocO oN (.kl [])⟩ (fun x s => endK fn.results.toList q (lenO oN) x s)) :
  c2.wpIn (FW none) n Tryz.prog (bodyPostM (FW none) n Tryz.prog fn (fun e w' => ∃ v, e = .returned v ∧ AtRes (nxt I w w') w' v q ∧ Below w.heap.size w w')) { a with defers := { target := .collected D, args := #[] } :: a.defers } W := by
 obtain ⟨g', hg, hgn, h1⟩ := h.rebase h.tmp
 have hDt : D < W.heap.size := (Array.getElem?_eq_some_iff.1 hD).1
 have hXD : ¬ Xof g' (snocO oN (.kl [])) D := fun ⟨j, x, hj, hd, hb⟩ => blk_turn hD rfl (h1.obj j x hj) hd hb
 have h2 := h1.mark [{ target := .collected D, args := #[] }]
 have ea : ({ ({ tmps := a.tmps.toList.toArray, defers := [] } : Act) with defers := [{ target := .collected D, args := #[] }] } : Act) = { a with defers := { target := .collected D, args := #[] } :: a.defers } := by
  have := h.dfr.1
  cases a
  simp only at this
  subst this
  rfl
 rw [ea] at h2
 refine exec_in c2 _ _ _ _ _ hc ⟨IN, g', h2⟩ hx fun e s2 a2 W2 hrel hk => ?_
 obtain ⟨I2, g2, h3⟩ := hrel
 have hD2 : W2.heap[D]? = some (.deferred (some [])) := (h3.fr.block D hDt hXD).trans hD
 have hI2D : ∀ k, ¬ I2 D k := fun k hk => by
  rcases (h3.lt D k hk).2 hDt with h4 | h4
  ·exact hID k h4
  ·exact hXD h4
 have key : getO s2.o (lenO oN) = .kl [] ∧ resS real s2 fn.results.toList q → LeavesInM (FW none) n Tryz.prog fn a2.tmps (fun e w' => ∃ v, e = .returned v ∧ AtRes (nxt I w w') w' v q ∧ Below w.heap.size w w') a2.defers .returning W2 := fun ⟨hkl, hres⟩ => by
  rw [h3.dfr.1]
  have h4 := h3.turnBoth (y' := .deferred none) hD2 rfl hD hI2D
  have h5 := h.turned (y' := .deferred none) hD rfl hD0 hID
  have h6 := h4.mark []
  have hkl := getO_some hkl (by simp)
  rw [lenO_is] at hkl
  obtain ⟨_, h7⟩ := h5.unbase hg hgn h6 hkl
  obtain ⟨v, r1, r2⟩ := results_at h4 hr hres
  refine ⟨by simp, .inl ⟨_, _, rfl, run_takeDeferred hD2, ?_⟩⟩
  refine ⟨v, r1, v, rfl, ?_, ⟨h7.fr.os, h7.fr.tape, h7.fr.output, h7.fr.size, fun b hb => h7.fr.block b hb (fun hx => hx)⟩⟩
  have hnx : ∀ b k, I2 b k → nxt I w _ b k := fun b k hbk => by
   obtain ⟨h3, h4⟩ := h7.lt b k hbk
   rcases Nat.lt_or_ge b w.heap.size with hlt | hge
   ·exact .inl ((h4 hlt).resolve_right (fun hx => hx))
   ·exact .inr ⟨hge, h3⟩
  match q, r2 with
  | [], ⟨us, e, hu⟩ => exact ⟨us, e, hu.mono hnx (Keeps.refl _ _)⟩
  | [r], hu => exact AtR.mono hnx (Keeps.refl _ _) hu
  | r :: r' :: q, ⟨us, e, hu⟩ => exact ⟨us, e, hu.mono hnx (Keeps.refl _ _)⟩
 cases e with
 | normal => exact key hk
 | exit i => exact hk.elim
 | ret => exact key hk
theorem spec_range {f : Nat} {fn : Func} {c0 c1 cp c2 asg bdy : Code} {bi : Nat} {g0 : Operand} {ps : Array Tmp} {rs q : List R} {Pre : S → Prop} (hf : Tryz.prog.funcs[f]? = some fn)
  (hb : fn.body = some (.seq c0 (.seq c1 (.seq (.seq cp (.block bi (.rangeFunc g0 ps asg bdy))) c2)))) (hn : (fn.name != "runtime.NumGoroutine") = true) (h0 : okCode Tryz.prog c0 = true) (h1 : okCode Tryz.prog c1 = true) (hp : okCode Tryz.prog cp = true)
  (hpre : exec real (.seq c0 (.seq c1 cp)) (start rs (fn.ntmps - lenL rs)) (fun x s => x = .normal ∧ Pre s))
  (hmid : ∀ (I I' : Nat → Nat → Prop) (g : Nat → Value) (w W : World) (s : S) (a : Act), Pre s → RelI I (fun _ => False) ⟨w, fun _ => .nilFunc, 0, []⟩ I' g s a W →
   (Code.rangeFunc g0 ps asg bdy).wpIn (FW none) 3 Tryz.prog (Exit.inBlock bi (Exit.then (c2.wpIn (FW none) 3 Tryz.prog (bodyPostM (FW none) 3 Tryz.prog fn (fun e w' => ∃ v, e = .returned v ∧ AtRes (nxt I w w') w' v q ∧ Below w.heap.size w w')))
    (bodyPostM (FW none) 3 Tryz.prog fn (fun e w' => ∃ v, e = .returned v ∧ AtRes (nxt I w w') w' v q ∧ Below w.heap.size w w')))) a W) : Spec f rs q := by
 refine ⟨by unfold fnOk; rw [hf]; simp only [hn, hb]; rfl, ?_⟩
 intro I w args hI hat
 have hlen := hat.len
 have hsz : args.toArray.size = lenL rs := by rw [lenL_is]; simp [hlen]
 refine callsIn_wide.1 (callsIn_of_wp_marks (n := 3) hf hb trivial ?_)
 rw [hsz]
 have hst := start_at hI hat (fn.ntmps - lenL rs)
 refine wpIn_seq (exec_in (ro := none) c0 _ _ _ _ _ h0 ⟨I, _, hst⟩ hpre fun e s1 a1 W1 hr1 hk1 => ?_)
 cases e with
 | normal =>
  obtain ⟨F1, hg1, hk1⟩ := hk1
  obtain ⟨z1, hf1, hr1'⟩ := hg1 _ _ _ _ _ hr1
  refine wpIn_seq (exec_in (ro := none) c1 _ _ _ _ _ h1 hr1' (hk1 z1 hf1) fun e s2 a2 W2 hr2 hk2 => ?_)
  cases e with
  | normal =>
   obtain ⟨F2, hg2, hk2⟩ := hk2
   obtain ⟨z2, hf2, hr2'⟩ := hg2 _ _ _ _ _ hr2
   refine wpIn_seq (wpIn_seq (exec_in (ro := none) cp _ _ _ _ _ hp hr2' (hk2 z2 hf2) fun e s3 a3 W3 hr3 hk3 => ?_))
   obtain ⟨he, hP⟩ := hk3
   subst he
   obtain ⟨I', g', h3⟩ := hr3
   exact wpIn_block (hmid I I' g' w W3 s3 a3 hP h3)
  | exit i => exact absurd hk2.1 (by simp)
  | ret => exact absurd hk2.1 (by simp)
 | exit i => exact absurd hk1.1 (by simp)
 | ret => exact absurd hk1.1 (by simp)
end Go.Proofs.YtahpnackkmbmgaaGreatDoor.Vm
end
section
namespace Go.Proofs.YtahpnackkmbmgaaGreatDoor.Vm
open Go.RowKit
def seqL : Code → Code
 | .seq c _ => c
 | c => c
def seqR : Code → Code
 | .seq _ c => c
 | c => c
def jT (rows : List (List D)) (d0 d1 d2 d3 : D) : List V := [.d (.sl 5 rows), .ag [.d d0, .d d1, .d d2, .d d3], .tu [], .ptr 0 0, .ptr 1 0, .ptr 2 0, .tu [], .tu [], .ag [.d d0, .d d1, .d d2, .d d3], .ag [.d d0, .d d1, .d d2, .d d3], .d (.sl 5 rows),
 .cl 112 [4], .tu [], .tu [], .tu [], .tu [], .tu [], .tu [], .tu [], .tu [], .tu [], .tu [], .tu []]
def jO (d0 d1 d2 d3 : D) (acc : List V) (b : O) : List O := [.box [.d d0, .d d1, .d d2, .d d3], .box [.d (.sc (.int .u8 0)), .d (.sc (.string ⟨#[]⟩)), .d (.sc (.int .i64 0)), .em], .box acc, .dead, b]
set_option maxRecDepth 100000
set_option maxHeartbeats 4000000
theorem pre_join (rows : List (List D)) (d0 d1 d2 d3 : D) (hcp : Spec 89 [.ag [d0, d1, d2, d3]] [.ag [d0, d1, d2, d3]]) (P : S → Prop) (hP : P ⟨jT rows d0 d1 d2 d3, jO d0 d1 d2 d3 [.d d0, .d d1, .d d2, .d d3] (.box [.d (.sl 5 rows)])⟩) : ∀ qa qb qc qd qe qf qg qh qi qj qk ql qm qo qp qq qs qt qu qv qw qx qy qz va vc vd ve vf vg vh vj vk vl vm vn vo vp vq vr vt vu, Ar.mk qa qb qc qd qe qf qg qh qi qj qk ql qm qo qp qq qs qt qu qv qw qx qy qz va vc vd ve vf vg vh vj vk vl vm vn vo vp vq vr vt vu = real → exec (Ar.mk qa qb qc qd qe qf qg qh qi qj qk ql qm qo qp qq qs qt qu qv qw qx qy qz va vc vd ve vf vg vh vj vk vl vm vn vo vp vq vr vt vu) (.seq (seqL (Tryz.f75.body.getD .skip)) (.seq (seqL (seqR (Tryz.f75.body.getD .skip))) (seqL (seqL (seqR (seqR (Tryz.f75.body.getD .skip)))))))
  (start [.one (.sl 5 rows), .ag [d0, d1, d2, d3]] (Tryz.f75.ntmps - lenL [R.one (.sl 5 rows), .ag [d0, d1, d2, d3]])) (fun x s => x = .normal ∧ P s) := by
 intro qa qb qc qd qe qf qg qh qi qj qk ql qm qo qp qq qs qt qu qv qw qx qy qz va vc vd ve vf vg vh vj vk vl vm vn vo vp vq vr vt vu hA
 cbv
 repeat ((with_reducible apply next_at hA); cbv)
 refine call_at hA _ hcp ?_ ?_
 ·rfl
 cbv
 repeat ((with_reducible apply next_at hA); cbv)
 refine inl_at hA Tryz.func97 rfl (by kernel_rfl) (by kernel_rfl) (by kernel_rfl) ?_
 cbv
 repeat ((with_reducible apply next_at hA); cbv)
 exact hP
def rangeA : Code → Code
 | .block _ (.rangeFunc _ _ a _) => a
 | c => c
def rangeB : Code → Code
 | .block _ (.rangeFunc _ _ _ b) => b
 | c => c
theorem round_join (rows : List (List D)) (d0 d1 d2 d3 a0 a1 a2 a3 nm c0 c1 c2 c3 : D) (i : Int) (hcp : Spec 89 [.ag [c0, c1, c2, c3]] [.ag [c0, c1, c2, c3]]) : ∀ qa qb qc qd qe qf qg qh qi qj qk ql qm qo qp qq qs qt qu qv qw qx qy qz va vc vd ve vf vg vh vj vk vl vm vn vo vp vq vr vt vu, Ar.mk qa qb qc qd qe qf qg qh qi qj qk ql qm qo qp qq qs qt qu qv qw qx qy qz va vc vd ve vf vg vh vj vk vl vm vn vo vp vq vr vt vu = real →
  exec (Ar.mk qa qb qc qd qe qf qg qh qi qj qk ql qm qo qp qq qs qt qu qv qw qx qy qz va vc vd ve vf vg vh vj vk vl vm vn vo vp vq vr vt vu) (rangeA (seqR (seqL (seqR (seqR (Tryz.f75.body.getD .skip)))))) ⟨setN (setN (jT rows d0 d1 d2 d3) 12 (vi .i64 i)) 13 (.ag [.d nm, .d c0, .d c1, .d c2, .d c3]), snocO (jO d0 d1 d2 d3 [.d a0, .d a1, .d a2, .d a3] .dead) (.kl [])⟩
   (fun x s1 => x = .normal ∧ mpSub (jO d0 d1 d2 d3 [.d a0, .d a1, .d a2, .d a3] .dead) s1.o = true ∧ exec (Ar.mk qa qb qc qd qe qf qg qh qi qj qk ql qm qo qp qq qs qt qu qv qw qx qy qz va vc vd ve vf vg vh vj vk vl vm vn vo vp vq vr vt vu) (rangeB (seqR (seqL (seqR (seqR (Tryz.f75.body.getD .skip)))))) ⟨s1.t, snocO s1.o (.kl [])⟩ (fun x s2 => x = .normal ∧
    roundE 5 (jO d0 d1 d2 d3 [.d a0, .d a1, .d a2, .d a3] .dead) (jO d0 d1 d2 d3 [.d (.sc (.int .u8 11)), .d nm, .d (.sc (.int .i64 0)), .d (.sl 4 [[c0, c1, c2, c3], [a0, a1, a2, a3]])] .dead) (lenO s1.o) s2)) := by
 intro qa qb qc qd qe qf qg qh qi qj qk ql qm qo qp qq qs qt qu qv qw qx qy qz va vc vd ve vf vg vh vj vk vl vm vn vo vp vq vr vt vu hA
 cbv
 repeat ((with_reducible apply next_at hA); cbv)
 refine calm_at hA _ hcp ?_
 cbv
 repeat ((with_reducible first | apply next_at hA | apply lit_at hA true); cbv)
 exact ⟨rfl, trivial⟩
def joinD : List (List D) → List D → List D
 | [], tl => tl
 | r :: rows, tl => [.sc (.int .u8 11), r.headD (.sl 0 []), .sc (.int .i64 0), .sl 4 [r.tail, joinD rows tl]]
theorem joinD_four (rows : List (List D)) (d0 d1 d2 d3 : D) : ∃ a0 a1 a2 a3, joinD rows [d0, d1, d2, d3] = [a0, a1, a2, a3] := by
 cases rows <;> exact ⟨_, _, _, _, rfl⟩
def accD (rows : List (List D)) (tl : List D) (k : Nat) : List D := joinD (rows.drop (rows.length - k)) tl
theorem accD_succ {rows : List (List D)} {tl r : List D} {k : Nat} (hk : k < rows.length) (hr : rows[rows.length - 1 - k]? = some r) : accD rows tl (k + 1) = joinD (r :: rows.drop (rows.length - k)) tl := by
 have h1 : rows.length - (k + 1) < rows.length := by omega
 have h2 := List.drop_eq_getElem_cons h1
 have e1 : rows.length - 1 - k = rows.length - (k + 1) := by omega
 rw [e1, List.getElem?_eq_getElem h1] at hr
 rw [accD, h2, Option.some.inj hr, show rows.length - (k + 1) + 1 = rows.length - k by omega]
theorem cells_cell {W : World} {b : Nat} {us : Array Value} {t : TypeId} {m : Nat × Nat} {i : Nat} (h : W.heap[b]? = some (.cells us t m)) : W.cell? ⟨b, i, none⟩ = us[i]? := by
 show (match W.heap[b]? with | some (.cells c _ _) => c[i]? | _ => none) = _
 rw [h]
theorem end_join (rows : List (List D)) (d0 d1 d2 d3 a0 a1 a2 a3 : D) : ∀ qa qb qc qd qe qf qg qh qi qj qk ql qm qo qp qq qs qt qu qv qw qx qy qz va vc vd ve vf vg vh vj vk vl vm vn vo vp vq vr vt vu, Ar.mk qa qb qc qd qe qf qg qh qi qj qk ql qm qo qp qq qs qt qu qv qw qx qy qz va vc vd ve vf vg vh vj vk vl vm vn vo vp vq vr vt vu = real → exec (Ar.mk qa qb qc qd qe qf qg qh qi qj qk ql qm qo qp qq qs qt qu qv qw qx qy qz va vc vd ve vf vg vh vj vk vl vm vn vo vp vq vr vt vu) (seqR (seqR (seqR (Tryz.f75.body.getD .skip)))) ⟨jT rows d0 d1 d2 d3, snocO (jO d0 d1 d2 d3 [.d a0, .d a1, .d a2, .d a3] .dead) (.kl [])⟩
  (fun x s => endK Tryz.f75.results.toList [.ag [a0, a1, a2, a3]] 5 x s) := by
 intro qa qb qc qd qe qf qg qh qi qj qk ql qm qo qp qq qs qt qu qv qw qx qy qz va vc vd ve vf vg vh vj vk vl vm vn vo vp vq vr vt vu hA
 cbv
 repeat ((with_reducible apply next_at hA); cbv)
end Go.Proofs.YtahpnackkmbmgaaGreatDoor.Vm
end
section
namespace Go.Proofs.YtahpnackkmbmgaaGreatDoor.Vm
open Go.RowKit
set_option maxRecDepth 100000
set_option maxHeartbeats 4000000
theorem join_xb : Tryz.f75.body = some (.seq (seqL (Tryz.f75.body.getD .skip)) (.seq (seqL (seqR (Tryz.f75.body.getD .skip))) (.seq (.seq (seqL (seqL (seqR (seqR (Tryz.f75.body.getD .skip))))) (.block 0 (.rangeFunc (.tmp 11) #[12, 13] (rangeA (seqR (seqL (seqR (seqR (Tryz.f75.body.getD .skip)))))) (rangeB (seqR (seqL (seqR (seqR (Tryz.f75.body.getD .skip))))))))) (seqR (seqR (seqR (Tryz.f75.body.getD .skip))))))) := by kernel_rfl
theorem join_xn : (Tryz.f75.name != "runtime.NumGoroutine") = true := by kernel_rfl
theorem join_x0 : okCode Tryz.prog (seqL (Tryz.f75.body.getD .skip)) = true := by kernel_rfl
theorem join_x1 : okCode Tryz.prog (seqL (seqR (Tryz.f75.body.getD .skip))) = true := by kernel_rfl
theorem join_xp : okCode Tryz.prog (seqL (seqL (seqR (seqR (Tryz.f75.body.getD .skip))))) = true := by kernel_rfl
theorem join_x2 : okCode Tryz.prog (seqR (seqR (seqR (Tryz.f75.body.getD .skip)))) = true := by kernel_rfl
theorem join_xr : okRes Tryz.f75.results.toList = true := by kernel_rfl
theorem join_xA : okCode Tryz.prog (rangeA (seqR (seqL (seqR (seqR (Tryz.f75.body.getD .skip)))))) = true := by kernel_rfl
theorem join_xB : okCode Tryz.prog (rangeB (seqR (seqL (seqR (seqR (Tryz.f75.body.getD .skip)))))) = true := by kernel_rfl
theorem pre_joinR (rows : List (List D)) (d0 d1 d2 d3 : D) (hcp : Spec 89 [.ag [d0, d1, d2, d3]] [.ag [d0, d1, d2, d3]]) (P : S → Prop) (hP : P ⟨jT rows d0 d1 d2 d3, jO d0 d1 d2 d3 [.d d0, .d d1, .d d2, .d d3] (.box [.d (.sl 5 rows)])⟩) :
  exec real (.seq (seqL (Tryz.f75.body.getD .skip)) (.seq (seqL (seqR (Tryz.f75.body.getD .skip))) (seqL (seqL (seqR (seqR (Tryz.f75.body.getD .skip))))))) (start [.one (.sl 5 rows), .ag [d0, d1, d2, d3]] (Tryz.f75.ntmps - lenL [R.one (.sl 5 rows), .ag [d0, d1, d2, d3]])) (fun x s => x = .normal ∧ P s) :=
 pre_join rows d0 d1 d2 d3 hcp P hP _ _ _ _ _ _ _ _ _ _ _ _ _ _ _ _ _ _ _ _ _ _ _ _ _ _ _ _ _ _ _ _ _ _ _ _ _ _ _ _ _ _ rfl
theorem join_s (rows : List (List D)) (d0 d1 d2 d3 : D) (hlen : rows.length * 80 ≤ 140737488351232) (htl : Spec 89 [.ag [d0, d1, d2, d3]] [.ag [d0, d1, d2, d3]]) (hrows : ∀ r ∈ rows, ∃ nm c0 c1 c2 c3, r = [nm, c0, c1, c2, c3] ∧ Spec 89 [.ag [c0, c1, c2, c3]] [.ag [c0, c1, c2, c3]]) :
  Spec 75 [.one (.sl 5 rows), .ag [d0, d1, d2, d3]] [.ag (joinD rows [d0, d1, d2, d3])] := by
 refine spec_range (Pre := fun s => s = ⟨jT rows d0 d1 d2 d3, jO d0 d1 d2 d3 [.d d0, .d d1, .d d2, .d d3] (.box [.d (.sl 5 rows)])⟩) Tryz.func75 join_xb join_xn join_x0 join_x1 join_xp ?_ ?_
 ·exact pre_joinR rows d0 d1 d2 d3 htl _ rfl
 intro I I' g w W s a hs h
 subst hs
 obtain ⟨b, us, ty, h1, h2, h3, h4⟩ := h.frzBox (k := 4) rfl
 obtain ⟨v, us', rfl, hv, hn⟩ := h3.uncons
 obtain rfl := hn.unnil
 have hvD : AtD I' W v (.sl 5 rows) := by cases hv with | d h => exact h
 have hBs : W.cell? ⟨b, 0, none⟩ = some v := cells_cell h2
 have hbl : b < W.heap.size := (Array.getElem?_eq_some_iff.1 h2).1
 obtain ⟨bb, off, vs, hl, hup, hds, hr5, hseq⟩ := backF_seq (fun b k hb => (h.lt b k hb).1) hvD hbl hBs hlen
 have hcl : a.eval (.tmp 11) = .func (.func 112) #[] #[.pointer (some ⟨b, 0, none⟩)] := by
  have h5 := h4.get (.tmp 11)
  have h5 : AtV _ W g (a.eval (.tmp 11)) (.cl 112 [4]) := h5
  generalize a.eval (.tmp 11) = ax at h5 ⊢
  cases h5 with
  | cl f us ks hl hh =>
   match us, hl with
   | [u], _ => rw [(hh 0 u 4 rfl rfl).1, h1]
 have hst0 : RelI I (fun _ => False) ⟨w, fun _ => .nilFunc, 0, []⟩ (fun b' n => I' b' n ∨ (b' = b ∧ n ≤ 1)) g ⟨jT rows d0 d1 d2 d3, jO d0 d1 d2 d3 (ofD (accD rows [d0, d1, d2, d3] 0)) .dead⟩ a W := by
  have e : accD rows [d0, d1, d2, d3] 0 = [d0, d1, d2, d3] := by rw [accD, List.drop_eq_nil_of_le (by omega)]; rfl
  rw [e]
  exact h4
 refine range_ok (t := jT rows d0 d1 d2 d3) (p1 := 12) (p2 := 13) (gf := 112) (N := rows.length) (lb := #[.pointer (some ⟨b, 0, none⟩)])
  (u1 := fun k => .int .i64 ((rows.length - 1 - k : Nat) : Int)) (u2 := fun k => .agg (((vs.drop ((rows.length - 1 - k) * 5)).take 5).toArray)) (Kp := KpB b bb off (rows.length * 5)) (st := fun k => jO d0 d1 d2 d3 (ofD (accD rows [d0, d1, d2, d3] k)) .dead)
  (tk := fun k => setN (setN (jT rows d0 d1 d2 d3) 12 (vi .i64 ((rows.length - 1 - k : Nat) : Int))) 13 (.ag (ofD (rows.getD (rows.length - 1 - k) []))))
  join_xA join_xB hst0 (by decide) hcl (enters_of Tryz.func112 (by kernel_rfl) rfl) (hseq (FW none) 2 trivial rfl (by decide)) KpB.trans (fun W l o o' _ hl ho _ => KpB.turn W l o o' hl ho) ?_ ?_ ?_ ?_
 ·intro W1 W2 hk
  refine ⟨fun v hv => ?_, fun i hi v hv => ?_⟩
  ·rw [hk b 1 (.inr ⟨rfl, Nat.le_refl _⟩) 0 (by decide)]
   exact hv
  ·obtain ⟨n, hn1, hn2⟩ := hup (fun e => by rw [e] at hi; simp at hi)
   rw [hk bb n (.inl hn2) (off + i) (by omega)]
   exact hv
 ·intro k W1 I1 g1 hk hI1 hk1 hvs
  have hlt : rows.length - 1 - k < rows.length := by omega
  have e1 : ∀ (ts : Array Value) (i : Nat) (u : Value), (ts.setIfInBounds i u).toList = ts.toList.set i u := fun ts i u => by simp
  rw [e1, e1, setN_is, setN_is]
  refine (hvs.set (.d (.sc _ rfl)) 12).set (atV_ag ?_) 13
  refine AtDs.toV g1 ?_
  have h5 := (hds.drop ((rows.length - 1 - k) * 5)).take 5
  have e2 : (rows.flatten.drop ((rows.length - 1 - k) * 5)).take 5 = rows.getD (rows.length - 1 - k) [] := by
   have hg : rows[rows.length - 1 - k]? = some (rows.getD (rows.length - 1 - k) []) := by rw [List.getD_eq_getElem?_getD, List.getElem?_eq_getElem hlt]; rfl
   apply List.ext_getElem?
   intro i
   rw [List.getElem?_take]
   have h6 : (rows.getD (rows.length - 1 - k) []).length = 5 := hr5 _ (List.mem_of_getElem? hg)
   split
   ·rename_i hi
    rw [List.getElem?_drop, flat_get hr5 hg hi]
   ·rename_i hi
    rw [List.getElem?_eq_none (by omega)]
  rw [e2] at h5
  exact h5.mono (fun b j hb => hI1 b j (.inl hb)) (fun b j hb => hk1 b j (.inl hb))
 ·intro k hk
  have hlt : rows.length - 1 - k < rows.length := by omega
  have hg : rows[rows.length - 1 - k]? = some (rows.getD (rows.length - 1 - k) []) := by rw [List.getD_eq_getElem?_getD, List.getElem?_eq_getElem hlt]; rfl
  have ea := accD_succ (tl := [d0, d1, d2, d3]) hk hg
  obtain ⟨nm, c0, c1, c2, c3, er, hsp⟩ := hrows _ (List.mem_of_getElem? hg)
  obtain ⟨a0, a1, a2, a3, e4⟩ := joinD_four (rows.drop (rows.length - k)) d0 d1 d2 d3
  have e5 : accD rows [d0, d1, d2, d3] k = [a0, a1, a2, a3] := e4
  have e6 : accD rows [d0, d1, d2, d3] (k + 1) = [.sc (.int .u8 11), nm, .sc (.int .i64 0), .sl 4 [[c0, c1, c2, c3], [a0, a1, a2, a3]]] := by rw [ea, er]; show [_, _, _, D.sl 4 [_, joinD _ _]] = _; rw [e4]; rfl
  try dsimp only
  rw [e5, e6, er]
  exact round_join rows d0 d1 d2 d3 a0 a1 a2 a3 nm c0 c1 c2 c3 _ hsp _ _ _ _ _ _ _ _ _ _ _ _ _ _ _ _ _ _ _ _ _ _ _ _ _ _ _ _ _ _ _ _ _ _ _ _ _ _ _ _ _ _ rfl
 ·rintro D W1 hD ⟨I1, g1, q1, q2, q3, q4⟩ hd
  obtain ⟨a0, a1, a2, a3, e4⟩ := joinD_four rows d0 d1 d2 d3
  have e5 : accD rows [d0, d1, d2, d3] rows.length = [a0, a1, a2, a3] := by rw [accD, Nat.sub_self]; exact e4
  rw [e4]
  try dsimp only at q3
  rw [e5] at q3
  have hID : ∀ k, ¬ I1 D k := fun k => by rw [hD]; exact (q2 k).2
  have hD0 : w.heap.size ≤ D := by rw [hD]; exact h.fr.size
  refine ends_spec join_x2 join_xr q3 hID hD0 hd ?_
  exact end_join rows d0 d1 d2 d3 a0 a1 a2 a3 _ _ _ _ _ _ _ _ _ _ _ _ _ _ _ _ _ _ _ _ _ _ _ _ _ _ _ _ _ _ _ _ _ _ _ _ _ _ _ _ _ _ rfl
end Go.Proofs.YtahpnackkmbmgaaGreatDoor.Vm
end
section
namespace Go.Proofs.YtahpnackkmbmgaaGreatDoor.Vm
open Go.RowKit
def unTys (g : List D → Option (Ty × Nat)) : List (List D) → Option (List Ty × Nat)
 | [] => some ([], 0)
 | r :: rs => match g r with
  | some (t, m) => match unTys g rs with
   | some (ts, k) => some (t :: ts, m + k)
   | none => none
  | none => none
def unTy : Nat → List D → Option (Ty × Nat)
 | 0, _ => none
 | f + 1, [.sc (.int .u8 op), .sc (.string nm), .sc (.int .i64 n), .sl sz rows] => match rows with
  | [] => some (.mk op nm n [], 1)
  | r :: rs => match natEq sz 4 with
   | true => match unTys (unTy f) (r :: rs) with
    | some (ks, m) => some (.mk op nm n ks, m + 1)
    | none => none
   | false => none
 | _ + 1, _ => none
def Alike2 (ds es : List D) : Prop := ∀ (I : Nat → Nat → Prop) (w : World) (us : List Value), AtDs I w us ds → AtDs I w us es
theorem slice_alike {sz : Nat} {rows rows' : List (List D)} (hl : rows.length = rows'.length) (hr : ∀ (i : Nat) (r r' : List D), rows[i]? = some r → rows'[i]? = some r' → Alike2 r r' ∧ r'.length = sz) {I : Nat → Nat → Prop} {w : World} {v : Value} (h : AtD I w v (.sl sz rows)) : AtD I w v (.sl sz rows') := by
 cases h with
 | nil A cap => rw [List.eq_nil_of_length_eq_zero (l := rows') (by simpa using hl.symm)]; exact .nil _ _ _
 | sl b off cap _ _ us hcap hI hrl hl2 hc hd =>
  have hrl' : ∀ r ∈ rows', r.length = sz := fun r hr' => by
   obtain ⟨i, hi⟩ := List.mem_iff_getElem?.1 hr'
   have hlt : i < rows.length := by rw [hl]; exact (List.getElem?_eq_some_iff.1 hi).1
   exact (hr i _ r (List.getElem?_eq_getElem hlt) hi).2
  rw [hl]
  refine .sl b off cap sz rows' us (by rw [← hl]; exact hcap) (by rw [← hl]; exact hI) hrl' (by rw [← hl]; exact hl2) hc fun i u d hu hdd => ?_
  have hi : i < rows.length * sz := by rw [← hl2]; exact (List.getElem?_eq_some_iff.1 hu).1
  rcases Nat.eq_zero_or_pos sz with h0 | hpos
  ·rw [h0, Nat.mul_zero] at hi; omega
  have hq : i / sz < rows.length := (Nat.div_lt_iff_lt_mul hpos).2 hi
  have hm : i % sz < sz := Nat.mod_lt _ hpos
  have ei : i / sz * sz + i % sz = i := by rw [Nat.mul_comm]; exact Nat.div_add_mod i _
  obtain ⟨r, hr1⟩ : ∃ r, rows[i / sz]? = some r := ⟨_, List.getElem?_eq_getElem hq⟩
  obtain ⟨r', hr2⟩ : ∃ r', rows'[i / sz]? = some r' := ⟨_, List.getElem?_eq_getElem (by omega)⟩
  have hal := (hr _ r r' hr1 hr2).1
  have hcs : AtDs I w ((us.drop (i / sz * sz)).take sz) r := by
   refine ⟨?_, fun j u d hu hd' => ?_⟩
   ·have h1 := hrl r (List.mem_of_getElem? hr1)
    rw [h1, List.length_take, List.length_drop, hl2]
    have : (i / sz + 1) * sz ≤ rows.length * sz := Nat.mul_le_mul_right _ hq
    rw [Nat.add_mul] at this
    omega
   ·have hj : j < sz := by
     have := (List.getElem?_eq_some_iff.1 hu).1
     rw [List.length_take] at this
     omega
    rw [List.getElem?_take_of_lt hj, List.getElem?_drop] at hu
    refine hd (i / sz * sz + j) u d hu ?_
    rw [flat_get hrl hr1 hj]
    exact hd'
  have h2 := hal I w _ hcs
  have hu2 : ((us.drop (i / sz * sz)).take sz)[i % sz]? = some u := by rw [List.getElem?_take_of_lt hm, List.getElem?_drop, ei]; exact hu
  have hd2 : r'[i % sz]? = some d := by rw [← hdd, ← flat_get hrl' hr2 hm, ei]
  exact h2.2 _ u d hu2 hd2
theorem unTy_s : ∀ (f : Nat),  (∀ (ds : List D) (t : Ty) (m : Nat), unTy f ds = some (t, m) → Alike2 ds (cT t) ∧ t.parts.length = m) ∧ ∀ (rows : List (List D)) (ts : List Ty) (m : Nat), unTys (unTy f) rows = some (ts, m) → rows.length = ts.length ∧ (partsL ts).length = m ∧ ∀ (i : Nat) (r r' : List D), rows[i]? = some r → (rT ts)[i]? = some r' → Alike2 r r' ∧ r'.length = 4 := by
 intro f
 induction f with
 | zero =>
  refine ⟨fun ds t m h => (by simp [unTy] at h), fun rows => ?_⟩
  cases rows with
  | nil => intro ts m h; rw [unTys] at h; cases h; exact ⟨rfl, by rw [partsL]; rfl, fun i r r' h => by simp at h⟩
  | cons r rs => intro ts m h; simp [unTys, unTy] at h
 | succ f ih =>
  have h1 : ∀ (ds : List D) (t : Ty) (m : Nat), unTy (f + 1) ds = some (t, m) → Alike2 ds (cT t) ∧ t.parts.length = m := by
   intro ds t m h
   unfold unTy at h
   split at h
   ·cases h
   ·rename_i fx op nm n sz rows ef
    cases ef
    split at h
    ·cases h
     refine ⟨fun I w us hu => ?_, by rw [Ty.parts, partsL]; rfl⟩
     obtain ⟨u0, us0, rfl, a0, hu⟩ := hu.uncons
     obtain ⟨u1, us1, rfl, a1, hu⟩ := hu.uncons
     obtain ⟨u2, us2, rfl, a2, hu⟩ := hu.uncons
     obtain ⟨u3, us3, rfl, a3, hu⟩ := hu.uncons
     rw [cT, rT]
     refine AtDs.cons a0 (AtDs.cons a1 (AtDs.cons a2 (AtDs.cons ?_ hu)))
     cases a3 with
     | nil A cap => exact .nil _ _ _
     | sl b off cap _ _ us hcap hI hrl hl2 hc hd => exact .nil _ _ _
    ·rename_i r rs
     split at h
     ·rename_i hsz
      have hsz := natEq_eq hsz
      subst hsz
      split at h
      ·rename_i ks k hk
       cases h
       obtain ⟨e1, e2, e3⟩ := ih.2 _ _ _ hk
       refine ⟨fun I w us hu => ?_, by rw [Ty.parts, List.length_cons, e2]⟩
       obtain ⟨u0, us0, rfl, a0, hu⟩ := hu.uncons
       obtain ⟨u1, us1, rfl, a1, hu⟩ := hu.uncons
       obtain ⟨u2, us2, rfl, a2, hu⟩ := hu.uncons
       obtain ⟨u3, us3, rfl, a3, hu⟩ := hu.uncons
       rw [cT]
       exact AtDs.cons a0 (AtDs.cons a1 (AtDs.cons a2 (AtDs.cons (slice_alike (by rw [rT_len]; exact e1) e3 a3) hu)))
      ·cases h
     ·cases h
   ·cases h
  refine ⟨h1, ?_⟩
  intro rows
  induction rows with
  | nil => intro ts m h; rw [unTys] at h; cases h; exact ⟨rfl, by rw [partsL]; rfl, fun i r r' h => by simp at h⟩
  | cons r rs ihr =>
   intro ts m h
   rw [unTys] at h
   split at h
   ·rename_i t m1 ht
    split at h
    ·rename_i ts' k hts
     cases h
     obtain ⟨e1, e2, e3⟩ := ihr _ _ hts
     obtain ⟨a1, a2⟩ := h1 _ _ _ ht
     refine ⟨by simp [e1], by rw [partsL, List.length_append, a2, e2], fun i r1 r2 hr1 hr2 => ?_⟩
     cases i with
     | zero =>
      simp at hr1
      subst hr1
      rw [rT] at hr2
      simp at hr2
      subst hr2
      refine ⟨a1, ?_⟩
      obtain ⟨op, nm, n, ks⟩ := t
      rw [cT]; rfl
     | succ i => rw [rT] at hr2; exact e3 i r1 r2 (by simpa using hr1) (by simpa using hr2)
    ·cases h
   ·cases h
theorem Spec.alike {f : Nat} {rs rs' q : List R} (h : Spec f rs' q) (ha : ∀ I w vs, AtRs I w vs rs → AtRs I w vs rs') : Spec f rs q := ⟨h.1, fun I w args hI hat => h.2 I w args hI (ha I w args hat)⟩
def copiedPF : List R → Option (List R)
 | [.ag ds] => match unTy 60 ds with
  | some (t, m) => match Nat.ble m 1048576 with
   | true => some [.ag (cT t)]
   | false => none
  | none => none
 | _ => none
theorem atR_ag {I : Nat → Nat → Prop} {w : World} {v : Value} {ds es : List D} (ha : Alike2 ds es) (h : AtR I w v (.ag ds)) : AtR I w v (.ag es) := by
 obtain ⟨us, e, hu⟩ := h
 exact ⟨us, e, ha I w us hu⟩
theorem copied_pure (rs q : List R) (h : copiedPF rs = some q) : Spec 89 rs q := by
 unfold copiedPF at h
 split at h
 ·rename_i ds
  split at h
  ·rename_i t m ht
   split at h
   ·rename_i hm
    cases h
    obtain ⟨h1, h2⟩ := (unTy_s 60).1 _ _ _ ht
    refine (copied_s t (by rw [h2]; exact Nat.le_of_ble_eq_true hm)).alike fun I w vs hv => ?_
    match vs, hv with
    | [v], hv => exact ⟨atR_ag h1 hv.1, trivial⟩
   ·cases h
  ·cases h
 ·cases h
def unFs : List (List D) → Option (List (ByteArray × Ty) × Nat)
 | [] => some ([], 0)
 | (.sc (.string nm) :: ds) :: rs => match unTy 60 ds with
  | some (t, m) => match Nat.ble m 1048576 with
   | true => match unFs rs with
    | some (fs, k) => some ((nm, t) :: fs, k + 1)
    | none => none
   | false => none
  | none => none
 | _ :: _ => none
theorem unFs_s : ∀ (rows : List (List D)) (fs : List (ByteArray × Ty)) (k : Nat), unFs rows = some (fs, k) → rows.length = fs.length ∧ fs.length = k ∧ (∀ f ∈ fs, f.2.parts.length ≤ 1048576) ∧ ∀ (i : Nat) (r r' : List D), rows[i]? = some r → (rF fs)[i]? = some r' → Alike2 r r' ∧ r'.length = 5
 | [], fs, k, h => by rw [unFs] at h; cases h; exact ⟨rfl, rfl, fun f hf => by simp at hf, fun i r r' h => by simp at h⟩
 | r :: rs, fs, k, h => by
  unfold unFs at h
  split at h
  ·rename_i e; cases e
  ·rename_i nm ds rs' e
   cases e
   split at h
   ·rename_i t m ht
    split at h
    ·rename_i hm
     split at h
     ·rename_i fs' k' hfs
      cases h
      obtain ⟨e1, e2, e3, e4⟩ := unFs_s _ _ _ hfs
      obtain ⟨a1, a2⟩ := (unTy_s 60).1 _ _ _ ht
      refine ⟨by simp [e1], by simp [e2], fun f hf => ?_, fun i r1 r2 h1 h2 => ?_⟩
      ·rcases List.mem_cons.1 hf with rfl | hf
       ·show t.parts.length ≤ _
        rw [a2]; exact Nat.le_of_ble_eq_true hm
       ·exact e3 f hf
      ·cases i with
       | zero =>
        simp at h1
        subst h1
        simp [rF] at h2
        subst h2
        refine ⟨fun I w us hu => ?_, ?_⟩
        ·obtain ⟨u0, us0, rfl, a0, hu⟩ := hu.uncons
         exact AtDs.cons a0 (a1 I w us0 hu)
        ·obtain ⟨op, nm, n, ks⟩ := t
         rw [cT]; rfl
       | succ i => exact e4 i r1 r2 (by simpa using h1) (by simpa [rF] using h2)
     ·cases h
    ·cases h
   ·cases h
  ·cases h
def joinPF : List R → Option (List R)
 | [.one (.sl sz rows), .ag tl] => match unFs rows with
  | some (fs, k) => match Nat.ble k 1000000, unTy 60 tl with
   | true, some (t, m) => match Nat.ble m 1048576 with
    | true => match fs with
     | [] => some [.ag (cT t)]
     | f :: fs => match natEq sz 5 with
      | true => some [.ag (joinD (rF (f :: fs)) (cT t))]
      | false => none
    | false => none
   | _, _ => none
  | none => none
 | _ => none
theorem join_ty (fs : List (ByteArray × Ty)) (t : Ty) (hk : fs.length ≤ 1000000) (hf : ∀ f ∈ fs, f.2.parts.length ≤ 1048576) (ht : t.parts.length ≤ 1048576) : Spec 75 [.one (.sl 5 (rF fs)), .ag (cT t)] [.ag (joinD (rF fs) (cT t))] := by
 have hc := copied_s t ht
 obtain ⟨op, nm, n, ks⟩ := t
 rw [cT] at hc ⊢
 refine join_s (rF fs) _ _ _ _ (by rw [rF, List.length_map]; omega) hc fun r hr => ?_
 rw [rF, List.mem_map] at hr
 obtain ⟨f, hf1, rfl⟩ := hr
 have hc2 := copied_s f.2 (hf f hf1)
 obtain ⟨nm, t⟩ := f
 obtain ⟨op, nm2, n, ks⟩ := t
 simp only at hc2 ⊢
 rw [cT] at hc2 ⊢
 exact ⟨_, _, _, _, _, rfl, hc2⟩
theorem join_pure (rs q : List R) (h : joinPF rs = some q) : Spec 75 rs q := by
 unfold joinPF at h
 split at h <;> try cases h
 rename_i sz rows tl
 split at h <;> try cases h
 rename_i fs k hfs
 split at h <;> try cases h
 rename_i t m hk ht
 split at h <;> try cases h
 rename_i hm
 obtain ⟨e1, e2, e3, e4⟩ := unFs_s _ _ _ hfs
 obtain ⟨a1, a2⟩ := (unTy_s 60).1 _ _ _ ht
 have hkk := Nat.le_of_ble_eq_true hk
 have hmm := Nat.le_of_ble_eq_true hm
 have hj := join_ty fs t (by omega) e3 (by omega)
 split at h
 ·cases h
  refine hj.alike fun I w vs hv => ?_
  match vs, hv with
  | [v1, v2], hv =>
   refine ⟨?_, atR_ag a1 hv.2.1, trivial⟩
   have h1 : AtD I w v1 (.sl sz rows) := hv.1
   rw [List.eq_nil_of_length_eq_zero (l := rows) (by simpa using e1)] at h1
   show AtD I w v1 (.sl 5 (rF []))
   cases h1 with
   | nil A cap => exact .nil _ _ _
   | sl b off cap _ _ us hcap hI hrl hl2 hc hd => exact .nil _ _ _
 ·split at h <;> try cases h
  rename_i hsz
  have hsz := natEq_eq hsz
  subst hsz
  refine hj.alike fun I w vs hv => ?_
  match vs, hv with
  | [v1, v2], hv => exact ⟨slice_alike (by rw [e1, rF, List.length_map]) e4 hv.1, atR_ag a1 hv.2.1, trivial⟩
end Go.Proofs.YtahpnackkmbmgaaGreatDoor.Vm
end
section
namespace Go.Proofs.YtahpnackkmbmgaaGreatDoor.Vm
open Go.RowKit
def dd : List Nat → List Nat
 | [] => []
 | x :: l => match l.any (Nat.beq x) with | true => dd l | false => x :: dd l
def SameM (a b : List (List Nat)) : Prop := a.length = b.length ∧ ∀ i j, j ∈ a.getD i [] ↔ j ∈ b.getD i []
theorem SameM.snoc {a b : List (List Nat)} (h : SameM a b) {x y : List Nat} (hx : ∀ j, j ∈ x ↔ j ∈ y) : SameM (a ++ [x]) (b ++ [y]) := by
 refine ⟨by simp [h.1], fun i j => ?_⟩
 rcases Nat.lt_trichotomy i a.length with hi | hi | hi
 ·have e1 : (a ++ [x]).getD i [] = a.getD i [] := by rw [List.getD_eq_getElem?_getD, List.getElem?_append_left hi, List.getD_eq_getElem?_getD]
  have e2 : (b ++ [y]).getD i [] = b.getD i [] := by rw [List.getD_eq_getElem?_getD, List.getElem?_append_left (by rw [← h.1]; exact hi), List.getD_eq_getElem?_getD]
  rw [e1, e2]
  exact h.2 i j
 ·have e1 : (a ++ [x]).getD i [] = x := by rw [List.getD_eq_getElem?_getD, hi]; simp
  have e2 : (b ++ [y]).getD i [] = y := by rw [List.getD_eq_getElem?_getD, hi, h.1]; simp
  rw [e1, e2]
  exact hx j
 ·have e1 : (a ++ [x]).getD i [] = [] := by rw [List.getD_eq_getElem?_getD, List.getElem?_eq_none (by simp; omega)]; rfl
  have e2 : (b ++ [y]).getD i [] = [] := by rw [List.getD_eq_getElem?_getD, List.getElem?_eq_none (by simp; have := h.1; omega)]; rfl
  rw [e1, e2]
end Go.Proofs.YtahpnackkmbmgaaGreatDoor.Vm
end
section
namespace Go.Proofs.YtahpnackkmbmgaaGreatDoor
section
variable {α : Type}
structure Swo (lt : α → α → Bool) : Prop where
 irr : ∀ x, lt x x = false
 tra : ∀ x y z, lt x y = true → lt y z = true → lt x z = true
 neg : ∀ x y z, lt x y = false → lt y z = false → lt x z = false
variable {lt : α → α → Bool}
def eqv (lt : α → α → Bool) (x y : α) : Bool := !lt x y && !lt y x
def Srt (lt : α → α → Bool) (l : List α) : Prop := l.Pairwise fun x y => lt y x = false
def Sta (lt : α → α → Bool) (l m : List α) : Prop := ∀ x, l.filter (eqv lt x) = m.filter (eqv lt x)
theorem Sta.refl (l : List α) : Sta lt l l := fun _ => rfl
theorem Sta.symm {l m : List α} (h : Sta lt l m) : Sta lt m l := fun x => (h x).symm
theorem Sta.trans {l m n : List α} (h : Sta lt l m) (k : Sta lt m n) : Sta lt l n := fun x => (h x).trans (k x)
theorem Sta.append {l m l' m' : List α} (h : Sta lt l l') (k : Sta lt m m') : Sta lt (l ++ m) (l' ++ m') := fun x => by rw [List.filter_append, List.filter_append, h x, k x]
theorem eqv_self (h : Swo lt) (x : α) : eqv lt x x = true := by unfold eqv; rw [h.irr]; rfl
theorem Sta.mem (h : Swo lt) {l m : List α} (s : Sta lt l m) {x : α} (hx : x ∈ l) : x ∈ m := by
 have : x ∈ l.filter (eqv lt x) := List.mem_filter.2 ⟨hx, eqv_self h x⟩
 rw [s x] at this
 exact (List.mem_filter.1 this).1
theorem Sta.swap (h : Swo lt) {u v : List α} (huv : ∀ x ∈ u, ∀ y ∈ v, lt y x = true) : Sta lt (u ++ v) (v ++ u) := fun z => by
 rw [List.filter_append, List.filter_append]
 by_cases hu : u.filter (eqv lt z) = []
 ·rw [hu]; simp
 ·by_cases hv : v.filter (eqv lt z) = []
  ·rw [hv]; simp
  ·exfalso
   obtain ⟨x, hx⟩ := List.exists_mem_of_ne_nil _ hu
   obtain ⟨y, hy⟩ := List.exists_mem_of_ne_nil _ hv
   obtain ⟨hx1, hx2⟩ := List.mem_filter.1 hx
   obtain ⟨hy1, hy2⟩ := List.mem_filter.1 hy
   have h1 := huv x hx1 y hy1
   unfold eqv at hx2 hy2
   simp only [Bool.and_eq_true, Bool.not_eq_true'] at hx2 hy2
   have := h.neg y z x hy2.2 hx2.1
   rw [h1] at this
   cases this
theorem srt_unique (h : Swo lt) : ∀ {l m : List α}, Srt lt l → Srt lt m → Sta lt l m → l = m
 | [], m, _, _, s => by
  cases m with
  | nil => rfl
  | cons y m => exact absurd (s.symm.mem h (List.mem_cons_self ..)) (by simp)
 | x :: l, [], _, _, s => absurd (s.mem h (List.mem_cons_self ..)) (by simp)
 | x :: l, y :: m, hl, hm, s => by
  have hxm := s.mem h (List.mem_cons_self (a := x) (l := l))
  have hyl := s.symm.mem h (List.mem_cons_self (a := y) (l := m))
  have hlx : ∀ z ∈ x :: l, lt z x = false := fun z hz => by
   rcases List.mem_cons.1 hz with rfl | hz
   ·exact h.irr _
   ·exact (List.pairwise_cons.1 hl).1 z hz
  have hmy : ∀ z ∈ y :: m, lt z y = false := fun z hz => by
   rcases List.mem_cons.1 hz with rfl | hz
   ·exact h.irr _
   ·exact (List.pairwise_cons.1 hm).1 z hz
  have e1 : eqv lt x y = true := by unfold eqv; rw [hmy x hxm, hlx y hyl]; rfl
  have s1 := s x
  rw [List.filter_cons, List.filter_cons, eqv_self h x, e1] at s1
  simp only [if_true] at s1
  injection s1 with s1 s2
  subst s1
  congr 1
  refine srt_unique h (List.pairwise_cons.1 hl).2 (List.pairwise_cons.1 hm).2 fun z => ?_
  have sz := s z
  rw [List.filter_cons, List.filter_cons] at sz
  by_cases hz : eqv lt z x = true
  ·rw [if_pos hz, if_pos hz] at sz
   injection sz
  ·rw [if_neg hz, if_neg hz] at sz
   exact sz
def insS (lt : α → α → Bool) (x : α) : List α → List α
 | [] => [x]
 | y :: l => if lt x y = true then x :: y :: l else y :: insS lt x l
def sortS (lt : α → α → Bool) (l : List α) : List α := l.foldl (fun acc x => insS lt x acc) []
theorem ins_sta (h : Swo lt) (x : α) : ∀ l : List α, Srt lt l → Sta lt (insS lt x l) (l ++ [x])
 | [], _ => .refl _
 | y :: l, hl => by
  unfold insS
  by_cases hx : lt x y = true
  ·rw [if_pos hx]
   have : Sta lt ([x] ++ (y :: l)) ((y :: l) ++ [x]) := (Sta.swap h (u := y :: l) (v := [x]) fun z hz w hw => by
    simp at hw
    subst hw
    rcases List.mem_cons.1 hz with rfl | hz
    ·exact hx
    ·have h1 := (List.pairwise_cons.1 hl).1 z hz
     cases hwz : lt w z
     ·have := h.neg w z y hwz h1
      rw [hx] at this
      cases this
     ·rfl).symm
   exact this
  ·rw [if_neg hx]
   exact Sta.append (.refl [y]) (ins_sta h x l (List.pairwise_cons.1 hl).2)
theorem ins_mem (x : α) : ∀ (l : List α) (z : α), z ∈ insS lt x l → z = x ∨ z ∈ l
 | [], z, hz => by simp [insS] at hz; exact .inl hz
 | y :: l, z, hz => by
  unfold insS at hz
  split at hz
  ·rcases List.mem_cons.1 hz with h | h
   ·exact .inl h
   ·exact .inr h
  ·rcases List.mem_cons.1 hz with h | h
   ·exact .inr (by rw [h]; exact List.mem_cons_self ..)
   ·rcases ins_mem x l z h with h | h
    ·exact .inl h
    ·exact .inr (List.mem_cons_of_mem _ h)
theorem ins_srt (h : Swo lt) (x : α) : ∀ l : List α, Srt lt l → Srt lt (insS lt x l)
 | [], _ => by unfold insS Srt; simp
 | y :: l, hl => by
  obtain ⟨h1, h2⟩ := List.pairwise_cons.1 hl
  unfold insS
  by_cases hx : lt x y = true
  ·rw [if_pos hx]
   refine List.pairwise_cons.2 ⟨fun z hz => ?_, hl⟩
   have hyx : lt y x = false := by
    cases hyx : lt y x
    ·rfl
    ·have := h.tra x y x hx hyx
     rw [h.irr] at this
     cases this
   rcases List.mem_cons.1 hz with rfl | hz
   ·exact hyx
   ·exact h.neg z y x (h1 z hz) hyx
  ·rw [if_neg hx]
   refine List.pairwise_cons.2 ⟨fun z hz => ?_, ins_srt h x l h2⟩
   rcases ins_mem x l z hz with rfl | hz
   ·simpa using hx
   ·exact h1 z hz
theorem sort_go (h : Swo lt) : ∀ (l acc : List α), Srt lt acc → Srt lt (l.foldl (fun acc x => insS lt x acc) acc) ∧ Sta lt (l.foldl (fun acc x => insS lt x acc) acc) (acc ++ l)
 | [], acc, ha => ⟨ha, by rw [List.append_nil]; exact .refl _⟩
 | x :: l, acc, ha => by
  obtain ⟨h1, h2⟩ := sort_go h l (insS lt x acc) (ins_srt h x acc ha)
  refine ⟨h1, h2.trans ?_⟩
  have := Sta.append (ins_sta h x acc ha) (.refl (lt := lt) l)
  rwa [List.append_assoc] at this
theorem sort_srt (h : Swo lt) (l : List α) : Srt lt (sortS lt l) := (sort_go h l [] List.Pairwise.nil).1
theorem sort_sta (h : Swo lt) (l : List α) : Sta lt (sortS lt l) l := (sort_go h l [] List.Pairwise.nil).2
theorem sort_is (h : Swo lt) {l m : List α} (hs : Srt lt m) (ht : Sta lt m l) : m = sortS lt l := srt_unique h hs (sort_srt h l) (ht.trans (sort_sta h l).symm)
theorem srt_append {l m : List α} : Srt lt (l ++ m) ↔ Srt lt l ∧ Srt lt m ∧ ∀ x ∈ l, ∀ y ∈ m, lt y x = false := List.pairwise_append
theorem lt_asymm (h : Swo lt) {x y : α} (hxy : lt x y = true) : lt y x = false := by
 cases hyx : lt y x
 ·rfl
 ·have := h.tra x y x hxy hyx
  rw [h.irr] at this
  cases this
theorem lt_of_lt_le (h : Swo lt) {x y z : α} (hxy : lt x y = true) (hyz : lt z y = false) : lt x z = true := by
 cases hxz : lt x z
 ·have := h.neg x z y hxz hyz
  rw [hxy] at this
  cases this
 ·rfl
theorem lt_of_le_lt (h : Swo lt) {x y z : α} (hxy : lt y x = false) (hyz : lt y z = true) : lt x z = true := by
 cases hxz : lt x z
 ·have := h.neg y x z hxy hxz
  rw [hyz] at this
  cases this
 ·rfl
theorem put_one_left (h : Swo lt) {x : α} {v1 v2 : List α} (hs : Srt lt (v1 ++ v2)) (h1 : ∀ y ∈ v1, lt y x = true) (h2 : ∀ y ∈ v2, lt y x = false) :
  Srt lt (v1 ++ (x :: v2)) ∧ Sta lt (v1 ++ (x :: v2)) (x :: (v1 ++ v2)) := by
 obtain ⟨s1, s2, s3⟩ := srt_append.1 hs
 refine ⟨srt_append.2 ⟨s1, List.pairwise_cons.2 ⟨h2, s2⟩, fun y hy z hz => ?_⟩, ?_⟩
 ·rcases List.mem_cons.1 hz with rfl | hz
  ·exact lt_asymm h (h1 y hy)
  ·exact s3 y hy z hz
 ·have := Sta.append (Sta.swap h (u := [x]) (v := v1) fun z hz y hy => by simp at hz; subst hz; exact h1 y hy) (.refl (lt := lt) v2)
  simpa using this.symm
theorem put_one_right (h : Swo lt) {x : α} {u1 u2 : List α} (hs : Srt lt (u1 ++ u2)) (h1 : ∀ y ∈ u1, lt x y = false) (h2 : ∀ y ∈ u2, lt x y = true) :
  Srt lt (u1 ++ (x :: u2)) ∧ Sta lt (u1 ++ (x :: u2)) ((u1 ++ u2) ++ [x]) := by
 obtain ⟨s1, s2, s3⟩ := srt_append.1 hs
 refine ⟨srt_append.2 ⟨s1, List.pairwise_cons.2 ⟨fun y hy => lt_asymm h (h2 y hy), s2⟩, fun y hy z hz => ?_⟩, ?_⟩
 ·rcases List.mem_cons.1 hz with rfl | hz
  ·exact h1 y hy
  ·exact s3 y hy z hz
 ·have := Sta.append (.refl (lt := lt) u1) (Sta.swap h (u := u2) (v := [x]) fun z hz y hy => by simp at hy; subst hy; exact h2 z hz)
  simpa using this.symm
theorem merge_halves (h : Swo lt) {L1 L2 u v P R : List α} (hl : Srt lt (L1 ++ u)) (hr : Srt lt (v ++ L2)) (huv : ∀ x ∈ u, ∀ y ∈ v, lt y x = true) (hL : ∀ x ∈ L1, ∀ y ∈ L2, lt y x = false)
  (hP : Srt lt P) (sP : Sta lt P (L1 ++ v)) (hR : Srt lt R) (sR : Sta lt R (u ++ L2)) : Srt lt (P ++ R) ∧ Sta lt (P ++ R) ((L1 ++ u) ++ (v ++ L2)) := by
 obtain ⟨a1, a2, a3⟩ := srt_append.1 hl
 obtain ⟨b1, b2, b3⟩ := srt_append.1 hr
 refine ⟨srt_append.2 ⟨hP, hR, fun x hx y hy => ?_⟩, ?_⟩
 ·have hx' := sP.mem h hx
  have hy' := sR.mem h hy
  rcases List.mem_append.1 hx' with hx' | hx' <;> rcases List.mem_append.1 hy' with hy' | hy'
  ·exact a3 x hx' y hy'
  ·exact hL x hx' y hy'
  ·exact lt_asymm h (huv y hy' x hx')
  ·exact b3 x hx' y hy'
 ·have s1 := (sP.append sR)
  have s2 : Sta lt ((L1 ++ v) ++ (u ++ L2)) ((L1 ++ u) ++ (v ++ L2)) := by
   have := Sta.append (Sta.append (.refl (lt := lt) L1) (Sta.swap h huv).symm) (.refl (lt := lt) L2)
   simpa using this
  exact s1.trans s2
end
end Go.Proofs.YtahpnackkmbmgaaGreatDoor
end
section
namespace Go.Proofs.YtahpnackkmbmgaaGreatDoor.Vm
open Go.RowKit
def rowS (fs : List (ByteArray × Ty)) (tail : Ty) : Ty := fs.foldr (fun f r => .mk 11 f.1 0 [f.2, r]) tail
def Spine : Ty → Prop
 | .mk op _ _ [_, r] => op = 11 → Spine r
 | .mk op _ _ _ => op ≠ 11
def fieldsS : Ty → List (ByteArray × Ty)
 | .mk op nm _ [x, r] => if op = 11 then (nm, x) :: fieldsS r else []
 | _ => []
def tailS : Ty → Ty
 | .mk op nm n [x, r] => if op = 11 then tailS r else .mk op nm n [x, r]
 | t => t
theorem fields_end : ∀ {t : Ty}, t.op ≠ 11 → fieldsS t = [] ∧ tailS t = t
 | .mk op nm n [], _ => ⟨rfl, rfl⟩
 | .mk op nm n [x], _ => ⟨rfl, rfl⟩
 | .mk op nm n [x, r], h => by
  have h' : op ≠ 11 := h
  unfold fieldsS tailS
  rw [if_neg h', if_neg h']
  exact ⟨rfl, rfl⟩
 | .mk op nm n (x :: y :: z :: l), _ => ⟨rfl, rfl⟩
theorem fields_step : ∀ {t : Ty}, Spine t → t.op = 11 → ∃ a b, t.kids = [a, b] ∧ Spine b ∧ fieldsS t = (t.name, a) :: fieldsS b ∧ tailS t = tailS b
 | .mk op nm n [], h, h' => absurd h' h
 | .mk op nm n [x], h, h' => absurd h' h
 | .mk op nm n [x, r], h, h' => by
  have e : op = 11 := h'
  subst e
  refine ⟨x, r, rfl, h rfl, ?_, ?_⟩
  ·conv => lhs; unfold fieldsS
   rw [if_pos rfl]; rfl
  ·conv => lhs; unfold tailS
   rw [if_pos rfl]
 | .mk op nm n (x :: y :: z :: l), h, h' => absurd h' h
def ltF (a b : ByteArray × Ty) : Bool := Op.bytesLess a.1.toList b.1.toList
theorem sort_snoc (ds : List (ByteArray × Ty)) (d : ByteArray × Ty) : sortS ltF (ds ++ [d]) = insS ltF d (sortS ltF ds) := by
 unfold sortS
 rw [List.foldl_append]
 rfl
theorem ins_len {α : Type} {lt : α → α → Bool} (x : α) : ∀ l : List α, (insS lt x l).length = l.length + 1
 | [] => rfl
 | y :: l => by
  unfold insS
  split
  ·rfl
  ·simp [ins_len x l]
def canonF : Nat → Ty → Ty
 | 0, t => t
 | m + 1, t => if t.op = 11 then rowS ((sortS ltF (fieldsS t)).map fun f => (f.1, canonF m f.2)) (tailS t) else .mk t.op t.name t.n (t.kids.map (canonF m))
def canonS (t : Ty) : Ty := canonF t.parts.length t
theorem fields_less : ∀ (n : Nat) (t : Ty), t.parts.length ≤ n → ∀ f ∈ fieldsS t, f.2.parts.length < t.parts.length := by
 intro n
 induction n with
 | zero => intro t h; have := parts_pos t; omega
 | succ n ih =>
  intro t h f hf
  obtain ⟨op, nm, k, ks⟩ := t
  match ks, hf with
  | [], hf => simp [fieldsS] at hf
  | [x], hf => simp [fieldsS] at hf
  | x :: y :: z :: l, hf => simp [fieldsS] at hf
  | [x, r], hf =>
   have hk := kids_le (.mk op nm k [x, r])
   have hx := hk.2 x (by simp [Ty.kids])
   have hr := hk.2 r (by simp [Ty.kids])
   unfold fieldsS at hf
   by_cases h11 : op = 11
   ·rw [if_pos h11] at hf
    rcases List.mem_cons.1 hf with rfl | hf
    ·exact hx
    ·have := ih r (by omega) f hf
     omega
   ·rw [if_neg h11] at hf; simp at hf
theorem sort_mem {α : Type} {lt : α → α → Bool} : ∀ (l acc : List α) (z : α), z ∈ l.foldl (fun acc x => insS lt x acc) acc → z ∈ acc ∨ z ∈ l
 | [], acc, z, h => .inl h
 | x :: l, acc, z, h => by
  rcases sort_mem l (insS lt x acc) z h with h | h
  ·rcases ins_mem x acc z h with rfl | h
   ·exact .inr (List.mem_cons_self ..)
   ·exact .inl h
  ·exact .inr (List.mem_cons_of_mem _ h)
theorem sortS_mem {α : Type} {lt : α → α → Bool} {l : List α} {z : α} (h : z ∈ sortS lt l) : z ∈ l := by
 rcases sort_mem l [] z h with h | h
 ·simp at h
 ·exact h
theorem canon_fuel : ∀ (n m : Nat) (t : Ty), t.parts.length ≤ n → t.parts.length ≤ m → canonF n t = canonF m t := by
 intro n
 induction n with
 | zero => intro m t h; have := parts_pos t; omega
 | succ n ih =>
  intro m t h h'
  obtain ⟨m, rfl⟩ : ∃ k, m = k + 1 := ⟨m - 1, by have := parts_pos t; omega⟩
  unfold canonF
  by_cases h11 : t.op = 11
  ·rw [if_pos h11, if_pos h11]
   congr 1
   apply List.map_congr_left
   intro f hf
   have := fields_less _ t (Nat.le_refl _) f (sortS_mem hf)
   rw [ih m f.2 (by omega) (by omega)]
  ·rw [if_neg h11, if_neg h11]
   congr 1
   apply List.map_congr_left
   intro x hx
   have := (kids_le t).2 x hx
   exact ih m x (by omega) (by omega)
theorem canon_row {t : Ty} (h : t.op = 11) : canonS t = rowS ((sortS ltF (fieldsS t)).map fun f => (f.1, canonS f.2)) (tailS t) := by
 unfold canonS
 obtain ⟨m, hm⟩ : ∃ m, t.parts.length = m + 1 := ⟨t.parts.length - 1, by have := parts_pos t; omega⟩
 rw [hm]
 conv => lhs; unfold canonF
 rw [if_pos h]
 congr 1
 apply List.map_congr_left
 intro f hf
 have := fields_less _ t (Nat.le_refl _) f (sortS_mem hf)
 rw [canon_fuel m f.2.parts.length f.2 (by omega) (Nat.le_refl _)]
theorem canon_node {t : Ty} (h : t.op ≠ 11) : canonS t = .mk t.op t.name t.n (t.kids.map canonS) := by
 unfold canonS
 obtain ⟨m, hm⟩ : ∃ m, t.parts.length = m + 1 := ⟨t.parts.length - 1, by have := parts_pos t; omega⟩
 rw [hm]
 conv => lhs; unfold canonF
 rw [if_neg h]
 congr 1
 apply List.map_congr_left
 intro x hx
 have := (kids_le t).2 x hx
 exact canon_fuel m x.parts.length x (by omega) (Nat.le_refl _)
theorem fields_mem : ∀ (n : Nat) (t : Ty), t.parts.length ≤ n → ∀ f ∈ fieldsS t, f.2 ∈ t.parts := by
 intro n
 induction n with
 | zero => intro t h; have := parts_pos t; omega
 | succ n ih =>
  intro t h f hf
  obtain ⟨op, nm, k, ks⟩ := t
  match ks, hf with
  | [], hf => simp [fieldsS] at hf
  | [x], hf => simp [fieldsS] at hf
  | x :: y :: z :: l, hf => simp [fieldsS] at hf
  | [x, r], hf =>
   have hk := kids_le (.mk op nm k [x, r])
   have hr := hk.2 r (by simp [Ty.kids])
   unfold fieldsS at hf
   by_cases h11 : op = 11
   ·rw [if_pos h11] at hf
    rw [parts_kids]
    simp only [Ty.kids, List.flatMap_cons, List.flatMap_nil, List.append_nil]
    rcases List.mem_cons.1 hf with rfl | hf
    ·refine List.mem_cons_of_mem _ (List.mem_append_left _ ?_)
     rw [parts_eq]; exact List.mem_cons_self ..
    ·exact List.mem_cons_of_mem _ (List.mem_append_right _ (ih r (by omega) f hf))
   ·rw [if_neg h11] at hf; simp at hf
theorem parts_trans {t x y : Ty} : y ∈ x.parts → x ∈ t.parts → y ∈ t.parts := by
 intro hy
 induction t using Ty.ind with
 | h t ih =>
  intro hx
  rw [parts_kids] at hx ⊢
  rcases List.mem_cons.1 hx with rfl | hx
  ·rwa [parts_kids] at hy
  ·obtain ⟨k, hk, hx⟩ := List.mem_flatMap.1 hx
   exact List.mem_cons_of_mem _ (List.mem_flatMap.2 ⟨k, hk, ih k hk hx⟩)
theorem fields_count : ∀ (n : Nat) (t : Ty), t.parts.length ≤ n → (fieldsS t).length ≤ t.parts.length := by
 intro n
 induction n with
 | zero => intro t h; have := parts_pos t; omega
 | succ n ih =>
  intro t h
  obtain ⟨op, nm, k, ks⟩ := t
  match ks with
  | [] => simp [fieldsS]
  | [x] => simp [fieldsS]
  | x :: y :: z :: l => simp [fieldsS]
  | [x, r] =>
   have hr := (kids_le (.mk op nm k [x, r])).2 r (by simp [Ty.kids])
   unfold fieldsS
   split
   ·have := ih r (by omega)
    simp only [List.length_cons]
    omega
   ·simp
theorem sort_len {α : Type} {lt : α → α → Bool} : ∀ (l acc : List α), (l.foldl (fun acc x => insS lt x acc) acc).length = acc.length + l.length
 | [], acc => rfl
 | x :: l, acc => by
  rw [List.foldl_cons, sort_len l]
  simp only [ins_len, List.length_cons]
  omega
theorem sortS_len {α : Type} {lt : α → α → Bool} (l : List α) : (sortS lt l).length = l.length := by
 unfold sortS
 rw [sort_len]
 simp
def c4B (op n : Int) : Bool := decide (0 ≤ n) && (decide (op = 7 ∨ op = 10) || decide (n = 0))
theorem shape_none {iw : ByteArray → Bool} {t : Ty} {s : Int} (h : kidsS t.op = none) : shapeB iw t s = false := by
 rw [shape_eq]; unfold headB; rw [h]; rfl
def c3B (iw : ByteArray → Bool) (op : Int) (nm : ByteArray) : Bool := if op = 11 then iw nm else decide (nm.toList = [])
theorem shape_some {iw : ByteArray → Bool} {op : Int} {nm : ByteArray} {n : Int} {kids : List Ty} {s : Int} {k : List Int} (h : kidsS op = some k) :
  shapeB iw (.mk op nm n kids) s = (((decide (8 ≤ op) == (s == 114)) && (decide (kids.length = k.length) && (c3B iw op nm && c4B op n))) && shapesB iw kids k) := by
 rw [shape_eq]; unfold headB c4B c3B; simp only [Ty.op, Ty.name, Ty.n, Ty.kids]; rw [h]; rfl
theorem ins_perm {α : Type} {lt : α → α → Bool} (x : α) : ∀ l : List α, (insS lt x l).Perm (x :: l)
 | [] => .refl _
 | y :: l => by
  unfold insS
  split
  ·exact .refl _
  ·exact ((ins_perm x l).cons y).trans (.swap x y l)
theorem sort_perm {α : Type} {lt : α → α → Bool} : ∀ (l acc : List α), (l.foldl (fun acc x => insS lt x acc) acc).Perm (acc ++ l)
 | [], acc => by simp
 | x :: l, acc => by
  rw [List.foldl_cons]
  refine (sort_perm l _).trans ?_
  have h1 : (insS lt x acc ++ l).Perm ((x :: acc) ++ l) := (ins_perm x acc).append_right l
  exact h1.trans List.perm_middle.symm
theorem sortS_perm {α : Type} (lt : α → α → Bool) (l : List α) : (sortS lt l).Perm l := by
 have := sort_perm (lt := lt) l []
 simpa [sortS] using this
def fldParts (fs : List (ByteArray × Ty)) : Nat := (fs.map fun f => 1 + f.2.parts.length).sum
theorem fldParts_perm {a b : List (ByteArray × Ty)} (h : a.Perm b) : fldParts a = fldParts b := (h.map _).sum_nat
theorem rowS_parts (tl : Ty) : ∀ fs : List (ByteArray × Ty), (rowS fs tl).parts.length = fldParts fs + tl.parts.length
 | [] => by simp [rowS, fldParts]
 | f :: fs => by
  have ih := rowS_parts tl fs
  unfold rowS at ih ⊢
  rw [List.foldr_cons, parts_kids]
  simp only [Ty.kids, List.length_cons, List.flatMap_cons, List.flatMap_nil, List.append_nil, List.length_append, ih, fldParts, List.map_cons, List.sum_cons]
  omega
theorem spine_parts : ∀ (n : Nat) (t : Ty), t.parts.length ≤ n → Spine t → t.parts.length = fldParts (fieldsS t) + (tailS t).parts.length := by
 intro n
 induction n with
 | zero => intro t h; have := parts_pos t; omega
 | succ n ih =>
  intro t hn hsp
  by_cases h11 : t.op = 11
  ·obtain ⟨a, b, hk, hsb, hf, ht⟩ := fields_step hsp h11
   have hb := (kids_le t).2 b (by rw [hk]; simp)
   have := ih b (by omega) hsb
   rw [hf, ht, parts_kids, hk]
   simp only [List.length_cons, List.flatMap_cons, List.flatMap_nil, List.append_nil, List.length_append, this, fldParts, List.map_cons, List.sum_cons]
   omega
  ·obtain ⟨h1, h2⟩ := fields_end h11
   rw [h1, h2]
   simp [fldParts]
theorem tail_not : ∀ {t : Ty}, Spine t → (tailS t).op ≠ 11 := by
 intro t
 induction t using Ty.ind with
 | h t ih =>
  intro hsp
  by_cases h11 : t.op = 11
  ·obtain ⟨a, b, hk, hsb, hf, ht⟩ := fields_step hsp h11
   rw [ht]
   exact ih b (by rw [hk]; simp) hsb
  ·rw [(fields_end h11).2]; exact h11
theorem tail_mem : ∀ {t : Ty}, Spine t → tailS t ∈ t.parts := by
 intro t
 induction t using Ty.ind with
 | h t ih =>
  intro hsp
  by_cases h11 : t.op = 11
  ·obtain ⟨a, b, hk, hsb, hf, ht⟩ := fields_step hsp h11
   rw [ht, parts_kids]
   exact List.mem_cons_of_mem _ (List.mem_flatMap.2 ⟨b, by rw [hk]; simp, ih b (by rw [hk]; simp) hsb⟩)
  ·rw [(fields_end h11).2, parts_eq]; exact List.mem_cons_self ..
theorem sum_map_congr {α : Type} {f g : α → Nat} : ∀ {l : List α}, (∀ x ∈ l, f x = g x) → (l.map f).sum = (l.map g).sum
 | [], _ => rfl
 | x :: l, h => by
  rw [List.map_cons, List.map_cons, List.sum_cons, List.sum_cons, h x (List.mem_cons_self ..), sum_map_congr fun y hy => h y (List.mem_cons_of_mem _ hy)]
theorem canon_len : ∀ (n : Nat) (t : Ty), t.parts.length ≤ n → (∀ x ∈ t.parts, Spine x) → (canonS t).parts.length = t.parts.length := by
 intro n
 induction n with
 | zero => intro t h; have := parts_pos t; omega
 | succ n ih =>
  intro t hn hsp
  have ht : Spine t := hsp t (by rw [parts_eq]; exact List.mem_cons_self ..)
  by_cases h11 : t.op = 11
  ·rw [canon_row h11, rowS_parts, spine_parts _ t (Nat.le_refl _) ht]
   congr 1
   rw [← fldParts_perm (sortS_perm ltF (fieldsS t))]
   unfold fldParts
   rw [List.map_map]
   refine sum_map_congr fun f hf => ?_
   have h1 := fields_less _ t (Nat.le_refl _) f (sortS_mem hf)
   have h2 := fields_mem _ t (Nat.le_refl _) f (sortS_mem hf)
   simp only [Function.comp]
   rw [ih f.2 (by omega) fun x hx => hsp x (parts_trans hx h2)]
  ·rw [canon_node h11, parts_kids, parts_kids t]
   simp only [Ty.kids, List.length_cons, List.length_flatMap, List.map_map]
   congr 1
   refine sum_map_congr fun x hx => ?_
   have h1 := (kids_le t).2 x hx
   simp only [Function.comp]
   exact ih x (by omega) fun y hy => hsp y (by rw [parts_kids]; exact List.mem_cons_of_mem _ (List.mem_flatMap.2 ⟨x, hx, hy⟩))
def SpineAll (t : Ty) : Prop := ∀ x ∈ t.parts, Spine x
theorem SpineAll.kid {t x : Ty} (h : SpineAll t) (hx : x ∈ t.kids) : SpineAll x := fun y hy => h y (by rw [parts_kids]; exact List.mem_cons_of_mem _ (List.mem_flatMap.2 ⟨x, hx, hy⟩))
theorem SpineAll.part {t x : Ty} (h : SpineAll t) (hx : x ∈ t.parts) : SpineAll x := fun y hy => h y (parts_trans hy hx)
theorem SpineAll.self {t : Ty} (h : SpineAll t) : Spine t := h t (by rw [parts_eq]; exact List.mem_cons_self ..)
theorem SpineAll.mk {t : Ty} (h : Spine t) (hk : ∀ x ∈ t.kids, SpineAll x) : SpineAll t := fun y hy => by
 rw [parts_kids] at hy
 rcases List.mem_cons.1 hy with rfl | hy
 ·exact h
 ·obtain ⟨x, hx, hy⟩ := List.mem_flatMap.1 hy
  exact hk x hx y hy
theorem rowS_op_ne (f : ByteArray × Ty) (fs : List (ByteArray × Ty)) (tl : Ty) : rowS (f :: fs) tl = .mk 11 f.1 0 [f.2, rowS fs tl] := rfl
theorem rowS_fields {tl : Ty} (ht : tl.op ≠ 11) : ∀ fs : List (ByteArray × Ty), fieldsS (rowS fs tl) = fs ∧ tailS (rowS fs tl) = tl
 | [] => by have := fields_end ht; exact ⟨this.1, this.2⟩
 | f :: fs => by
  have ih := rowS_fields ht fs
  rw [rowS_op_ne]
  constructor
  ·conv => lhs; unfold fieldsS
   rw [if_pos rfl, ih.1]
  ·conv => lhs; unfold tailS
   rw [if_pos rfl, ih.2]
theorem rowS_len_op {tl : Ty} {fs : List (ByteArray × Ty)} (h : fs ≠ []) : (rowS fs tl).op = 11 := by
 cases fs with
 | nil => exact absurd rfl h
 | cons f fs => rfl
theorem fields_ne {t : Ty} (hsp : Spine t) (h : t.op = 11) : fieldsS t ≠ [] := by
 obtain ⟨a, b, hk, hsb, hf, ht⟩ := fields_step hsp h
 rw [hf]; simp
theorem sortS_ne {α : Type} {lt : α → α → Bool} {l : List α} (h : l ≠ []) : sortS lt l ≠ [] := by
 intro e
 have := congrArg List.length e
 rw [sortS_len] at this
 exact h (List.eq_nil_of_length_eq_zero (by simpa using this))
theorem canon_op11 {t : Ty} (hsp : Spine t) (h : t.op = 11) : (canonS t).op = 11 := by
 rw [canon_row h]
 exact rowS_len_op (by
  intro e
  exact sortS_ne (lt := ltF) (fields_ne hsp h) (List.map_eq_nil_iff.1 e))
theorem canon_op_any {t : Ty} (hsp : Spine t) : (canonS t).op = t.op := by
 by_cases h : t.op = 11
 ·rw [canon_op11 hsp h, h]
 ·rw [canon_node h]; rfl
theorem shapes_mem (iw : ByteArray → Bool) : ∀ (ts : List Ty) (ks : List Int), shapesB iw ts ks = true → ∀ x ∈ ts, ∃ c, shapeB iw x c = true
 | [], _, _, x, hx => by simp at hx
 | t :: ts, [], h, x, hx => by rw [shapesB] at h; cases h
 | t :: ts, k :: ks, h, x, hx => by
  rw [shapesB, Bool.and_eq_true] at h
  rcases List.mem_cons.1 hx with rfl | hx
  ·exact ⟨k, h.1⟩
  ·exact shapes_mem iw ts ks h.2 x hx
theorem shape_spine (iw : ByteArray → Bool) (t : Ty) : ∀ s, shapeB iw t s = true → ∀ x ∈ t.parts, Spine x := by
 induction t using Ty.ind with
 | h t ih =>
  intro s hs x hx
  cases hko : kidsS t.op with
  | none => rw [shape_none hko] at hs; cases hs
  | some k =>
   obtain ⟨op, nm, n, kids⟩ := t
   rw [shape_some (k := k) (by exact hko)] at hs
   simp only [Bool.and_eq_true, decide_eq_true_eq] at hs
   obtain ⟨⟨_, hlen, _⟩, hss⟩ := hs
   rw [parts_kids] at hx
   rcases List.mem_cons.1 hx with rfl | hx
   ·simp only [Ty.op] at hko
    by_cases h11 : op = 11
    ·subst h11
     have hk : k.length = 2 := by
      have : kidsS 11 = some [116, 114] := by decide
      rw [this] at hko
      injection hko with hko
      rw [← hko]; rfl
     rw [hk] at hlen
     match kids, hlen, ih, hss with
     | [a, b], _, ih, hss =>
      obtain ⟨c, hc⟩ := shapes_mem iw _ _ hss b (by simp)
      exact fun _ => ih b (by simp [Ty.kids]) c hc b (by rw [parts_eq]; exact List.mem_cons_self ..)
    ·match kids with
     | [] => exact h11
     | [a] => exact h11
     | [a, b] => exact fun h => absurd h h11
     | a :: b :: c :: l => exact h11
   ·obtain ⟨y, hy, hx⟩ := List.mem_flatMap.1 hx
    obtain ⟨c, hc⟩ := shapes_mem iw _ _ hss y hy
    exact ih y hy c hc x hx
def isVar (t : Ty) : Bool := (t.op == 7) || (t.op == 10)
def varsL : List Ty → List Int → List Int
 | [], acc => acc
 | t :: ts, acc => varsL ts (if isVar t = true ∧ t.n ∉ acc then acc ++ [t.n] else acc)
def varsS (t : Ty) : List Int := varsL (canonS t).parts []
end Go.Proofs.YtahpnackkmbmgaaGreatDoor.Vm
end
section
namespace Go.Proofs.YtahpnackkmbmgaaGreatDoor.Vm
open Go.RowKit
set_option maxRecDepth 100000
set_option maxHeartbeats 4000000
def putS (d : ByteArray × Ty) (p : Bool × List (ByteArray × Ty)) (y : ByteArray × Ty) : Bool × List (ByteArray × Ty) :=
 match p.1 with
 | true => (true, p.2 ++ [y])
 | false => match ltF d y with | true => (true, p.2 ++ [d] ++ [y]) | false => (false, p.2 ++ [y])
theorem put_true (d : ByteArray × Ty) : ∀ (l acc : List (ByteArray × Ty)), l.foldl (putS d) (true, acc) = (true, acc ++ l)
 | [], acc => by simp
 | y :: l, acc => by rw [List.foldl_cons, show putS d (true, acc) y = (true, acc ++ [y]) from rfl, put_true d l]; simp
theorem put_false (d : ByteArray × Ty) : ∀ (l acc : List (ByteArray × Ty)), (l.foldl (putS d) (false, acc)).2 ++ (if (l.foldl (putS d) (false, acc)).1 = true then [] else [d]) = acc ++ insS ltF d l
 | [], acc => by simp [insS]
 | y :: l, acc => by
  rw [List.foldl_cons, insS]
  cases h : ltF d y with
  | true =>
   rw [show putS d (false, acc) y = (true, acc ++ [d] ++ [y]) by unfold putS; rw [h], put_true]
   simp
  | false =>
   rw [show putS d (false, acc) y = (false, acc ++ [y]) by unfold putS; rw [h], put_false d l]
   simp
theorem put_len (d : ByteArray × Ty) (l : List (ByteArray × Ty)) : ∀ (p : Bool × List (ByteArray × Ty)), (l.foldl (putS d) p).2.length ≤ p.2.length + l.length + 1 := by
 have h1 : ∀ (l : List (ByteArray × Ty)) (acc : List (ByteArray × Ty)), (l.foldl (putS d) (true, acc)).2.length = acc.length + l.length := fun l acc => by rw [put_true]; simp
 induction l with
 | nil => intro p; simp
 | cons y l ih =>
  intro p
  obtain ⟨b, acc⟩ := p
  rw [List.foldl_cons]
  cases b with
  | true => rw [show putS d (true, acc) y = (true, acc ++ [y]) from rfl, h1]; simp; omega
  | false =>
   cases h : ltF d y with
   | true => rw [show putS d (false, acc) y = (true, acc ++ [d] ++ [y]) by unfold putS; rw [h], h1]; simp; omega
   | false =>
    rw [show putS d (false, acc) y = (false, acc ++ [y]) by unfold putS; rw [h]]
    have := ih (false, acc ++ [y])
    simp at this ⊢
    omega
theorem put_take (d : ByteArray × Ty) (l : List (ByteArray × Ty)) {k : Nat} {y : ByteArray × Ty} (h : l[k]? = some y) (p : Bool × List (ByteArray × Ty)) : (l.take (k + 1)).foldl (putS d) p = putS d ((l.take k).foldl (putS d) p) y := by
 rw [List.take_add_one, h, List.foldl_append]
 rfl
theorem rF_app (a b : List (ByteArray × Ty)) : rF (a ++ b) = rF a ++ rF b := by unfold rF; rw [List.map_append]
theorem rF_one (x : ByteArray × Ty) : rF [x] = [.sc (.string x.1) :: cT x.2] := rfl
theorem Fields_s (t : Ty) (hs : Spine t) (hN : t.parts.length ≤ 1048576) : Spec 41 [.ag (cT t)] [.one (.sl 5 (rF (sortS ltF (fieldsS t)))), .ag (cT (tailS t))] := by
 obtain ⟨Q, hQ⟩ : ∃ Q, Q = rF (sortS ltF (fieldsS t)) := ⟨_, rfl⟩
 rw [← hQ]
 obtain ⟨q0, q1, q2, q3, hq⟩ := cT_four (tailS t)
 rw [hq]
 obtain ⟨op, nm, n, ks⟩ := t
 generalize ht : Ty.mk op nm n ks = t at *
 have hc : cT t = [.sc (.int .u8 op), .sc (.string nm), .sc (.int .i64 n), .sl 4 (rT ks)] := by rw [← ht, cT]
 obtain ⟨K0, hK0⟩ : ∃ K, K = rT ks := ⟨_, rfl⟩
 rw [hc, ← hK0]
 refine spec_of Tryz.func41 rfl (by kernel_rfl) (by kernel_rfl) (by kernel_rfl) fun qa qb qc qd qe qf qg qh qi qj qk ql qm qo qp qq qs qt qu qv qw qx qy qz va vc vd ve vf vg vh vj vk vl vm vn vo vp vq vr vt vu hA => ?_
 cbv
 repeat (with_reducible apply next_at hA; cbv)
 obtain ⟨e1, e2, e3, e4, e5, e6, e7, e8, e9⟩ := ar_at hA
 obtain ⟨s1, s2, s3, s4, s5, s6, -⟩ := str_at hA
 obtain ⟨r1, r2, r3, r4⟩ := row_at hA
 refine loop_at hA (γ := Ty × Int × ByteArray × Int × List (List D) × List (List D) × V) (fun x => [(4, x.2.2.2.2.2.2)]) (fun x => [(0, .box [.d (.sc (.int .u8 x.2.1)), .d (.sc (.string x.2.2.1)), .d (.sc (.int .i64 x.2.2.2.1)), .d (.sl 4 x.2.2.2.2.1)])])
  (fun x => ∃ ks fs, x.1 = .mk x.2.1 x.2.2.1 x.2.2.2.1 ks ∧ x.2.2.2.2.1 = rT ks ∧ Spine x.1 ∧ x.2.2.2.2.2.1 = rF (sortS ltF fs) ∧ fs ++ fieldsS x.1 = fieldsS t ∧ tailS x.1 = tailS t ∧ fs.length + x.1.parts.length ≤ 1048576 ∧ (x.2.2.2.2.2.1 = [] ∧ x.2.2.2.2.2.2 = .em ∨ x.2.2.2.2.2.2 = .d (.sl 5 x.2.2.2.2.2.1))) (fun x => x.1.parts.length) (t, op, nm, n, K0, [], .em) ?_ ?_ ?_
 ·exact ⟨ks, [], ht.symm, hK0, hs, rfl, rfl, rfl, by simpa using hN, .inl ⟨rfl, rfl⟩⟩
 ·cbv
 ·intro x hinv
  obtain ⟨r, op, nm, n, K, L, v⟩ := x
  cbv
  repeat ((with_reducible apply next_at hA); cbv)
  obtain ⟨ks, fs, hr, hK, hsr, hL, hfs, htl, hlen, hv⟩ := hinv
  replace hr : r = .mk op nm n ks := hr
  replace hK : K = rT ks := hK
  replace hsr : Spine r := hsr
  replace hL : L = rF (sortS ltF fs) := hL
  replace hfs : fs ++ fieldsS r = fieldsS t := hfs
  replace htl : tailS r = tailS t := htl
  replace hlen : fs.length + r.parts.length ≤ 1048576 := hlen
  replace hv : L = [] ∧ v = .em ∨ v = .d (.sl 5 L) := hv
  have h11 : qj op 11 = decide (op = 11) := e9 _ _
  by_cases hop : op = 11
  ·rw [decide_eq_true hop] at h11
   obtain ⟨a, b, hk, hsb, hfb, htb⟩ := fields_step hsr (by rw [hr]; exact hop)
   have hnmr : r.name = nm := by rw [hr]; rfl
   rw [hnmr] at hfb
   have hks : ks = [a, b] := by rw [← hk, hr]; rfl
   obtain ⟨a0, a1, a2, a3, ha⟩ := cT_four a
   obtain ⟨op', nm', n', ks'⟩ := b
   generalize hb : Ty.mk op' nm' n' ks' = b at *
   have hcb : cT b = [.sc (.int .u8 op'), .sc (.string nm'), .sc (.int .i64 n'), .sl 4 (rT ks')] := by rw [← hb, cT]
   obtain ⟨K', hK'⟩ : ∃ K, K = rT ks' := ⟨_, rfl⟩
   rw [← hK'] at hcb
   have g0 : qz K 0 = some [a0, a1, a2, a3] := by rw [r2, if_pos (by omega), hK, hks]; exact congrArg some ha
   have g1 : qz K 1 = some [.sc (.int .u8 op'), .sc (.string nm'), .sc (.int .i64 n'), .sl 4 K'] := by rw [r2, if_pos (by omega), hK, hks]; exact congrArg some hcb
   rw [h11]
   rcases hv with ⟨hL0, rfl⟩ | rfl
   ·cbv
    refine nil_at hA 4 5 L hL0 rfl ?_
    cbv
    clear hL0
    rw [g0]
    cbv
    repeat (first | (refine own_at hA 6 85 true rfl ?_; cbv) | (with_reducible apply next_at hA; cbv))
    refine loop_at hA (γ := Int × Bool × List (List D)) (fun x => [(8, vi .i64 x.1), (7, vb x.2.1), (6, .own 3)]) (fun x => [(3, .row true 85 x.2.2)])
     (fun x => ∃ k : Nat, x.1 = (k : Int) ∧ k ≤ (sortS ltF fs).length ∧ x.2.1 = (((sortS ltF fs).take k).foldl (putS (nm, a)) (false, [])).1 ∧ x.2.2 = rF (((sortS ltF fs).take k).foldl (putS (nm, a)) (false, [])).2) (fun x => (sortS ltF fs).length - x.1.toNat) (0, false, []) ?_ ?_ ?_
    ·exact ⟨0, rfl, Nat.zero_le _, rfl, rfl⟩
    ·cbv
    ·intro x hinv
     obtain ⟨z, inn, M⟩ := x
     cbv
     repeat ((with_reducible apply next_at hA); cbv)
     obtain ⟨k, hz, hk2, hin, hM⟩ := hinv
     replace hz : z = (k : Int) := hz
     replace hin : inn = (((sortS ltF fs).take k).foldl (putS (nm, a)) (false, [])).1 := hin
     replace hM : M = rF (((sortS ltF fs).take k).foldl (putS (nm, a)) (false, [])).2 := hM
     have hsn : (sortS ltF fs).length = fs.length := sortS_len fs
     have hll : qy L = (((sortS ltF fs).length : Nat) : Int) := by rw [r1, hL, rF_len]
     have hlt : qh z (qy L) = decide (k < (sortS ltF fs).length) := by rw [e7, hll, hz]; exact decide_eq_decide.2 (by omega)
     by_cases h9 : k < (sortS ltF fs).length
     ·rw [decide_eq_true h9] at hlt
      obtain ⟨x, hx⟩ : ∃ x, (sortS ltF fs)[k]? = some x := ⟨_, List.getElem?_eq_getElem h9⟩
      have hpt := put_take (nm, a) (sortS ltF fs) hx (false, [])
      generalize hPk : ((sortS ltF fs).take k).foldl (putS (nm, a)) (false, []) = P at *
      obtain ⟨xn, xt⟩ := x
      obtain ⟨x0, x1, x2, x3, hxx⟩ := cT_four xt
      have gx : qz L z = some [.sc (.string xn), x0, x1, x2, x3] := by rw [r2, hz, if_pos (by omega), hL, show ((k : Int)).toNat = k by omega, rF_get hx, hxx]
      have hsl : qm (qo nm) (qo xn) = ltF (nm, a) (xn, xt) := by rw [s2, s3, s3]; rfl
      rw [hlt]
      obtain ⟨Pb, Pl⟩ := P
      simp only at hin hM
      subst hin
      have hz1 : qa .i64 (qb z 1) = ((k + 1 : Nat) : Int) := by rw [e1, e2, hz, IntWalk.i64_in _ (by omega)]; omega
      have hmu : (sortS ltF fs).length - (qa .i64 (qb z 1)).toNat < (sortS ltF fs).length - z.toNat := by rw [hz1, hz]; omega
      have hMl : M.length ≤ 1048577 := by
       have h := put_len (nm, a) ((sortS ltF fs).take k) (false, [])
       rw [hPk, List.length_take] at h
       rw [hM, rF_len]
       simp only [List.length_nil] at h
       omega
      cases inn
      ·cases hlx : ltF (nm, a) (xn, xt)
       ·have hput : putS (nm, a) (false, Pl) (xn, xt) = (false, Pl ++ [(xn, xt)]) := by unfold putS; rw [hlx]
        rw [hlx] at hsl
        rw [hput] at hpt
        cbv; repeat (first | (with_reducible apply next_at hA; cbv) | (rw [gx]; cbv) | (rw [hsl]; cbv) | (refine lit_at hA true ?_; cbv) | (refine room_at hA (by simp only [r4, List.length_append, List.length_cons, List.length_nil]; omega) ?_; cbv))
        refine ⟨(qa .i64 (qb z 1), false, vc M [[.sc (.string xn), x0, x1, x2, x3]]), ⟨k + 1, hz1, h9, by rw [hpt], by rw [hpt]; show vc M _ = rF (Pl ++ [(xn, xt)]); rw [r4, hM, rF_app, rF_one, hxx]⟩, hmu, ?_⟩
        cbv
       ·have hput : putS (nm, a) (false, Pl) (xn, xt) = (true, Pl ++ [(nm, a)] ++ [(xn, xt)]) := by unfold putS; rw [hlx]
        rw [hlx] at hsl
        rw [hput] at hpt
        cbv; repeat (first | (with_reducible apply next_at hA; cbv) | (rw [gx]; cbv) | (rw [hsl]; cbv) | (refine lit_at hA true ?_; cbv) | (refine room_at hA (by simp only [r4, List.length_append, List.length_cons, List.length_nil]; omega) ?_; cbv))
        refine ⟨(qa .i64 (qb z 1), true, vc (vc M [[.sc (.string nm), a0, a1, a2, a3]]) [[.sc (.string xn), x0, x1, x2, x3]]), ⟨k + 1, hz1, h9, by rw [hpt], by rw [hpt]; show vc (vc M _) _ = rF (Pl ++ [(nm, a)] ++ [(xn, xt)]); rw [r4, r4, hM, rF_app, rF_app, rF_one, rF_one, hxx, ha]⟩, hmu, ?_⟩
        cbv
      ·have hput : putS (nm, a) (true, Pl) (xn, xt) = (true, Pl ++ [(xn, xt)]) := rfl
       rw [hput] at hpt
       cbv; repeat (first | (with_reducible apply next_at hA; cbv) | (rw [gx]; cbv) | (rw [hsl]; cbv) | (refine lit_at hA true ?_; cbv) | (refine room_at hA (by simp only [r4, List.length_append, List.length_cons, List.length_nil]; omega) ?_; cbv))
       refine ⟨(qa .i64 (qb z 1), true, vc M [[.sc (.string xn), x0, x1, x2, x3]]), ⟨k + 1, hz1, h9, by rw [hpt], by rw [hpt]; show vc M _ = rF (Pl ++ [(xn, xt)]); rw [r4, hM, rF_app, rF_one, hxx]⟩, hmu, ?_⟩
       cbv
     ·rw [decide_eq_false h9] at hlt
      have hins := put_false (nm, a) (sortS ltF fs) []
      rw [List.take_of_length_le (by omega)] at hin hM
      have hMl : M.length ≤ 1048577 := by
       have h := put_len (nm, a) (sortS ltF fs) (false, [])
       rw [hM, rF_len]
       simp only [List.length_nil] at h
       omega
      generalize hPk : (sortS ltF fs).foldl (putS (nm, a)) (false, []) = P at *
      obtain ⟨Pb, Pl⟩ := P
      simp only at hin hM hins
      subst hin
      rw [List.nil_append, ← sort_snoc] at hins
      have hbl : b.parts.length < r.parts.length := (kids_le r).2 b (by rw [hk]; simp)
      have hfs2 : (fs ++ [(nm, a)]) ++ fieldsS b = fieldsS t := by rw [List.append_assoc, ← hfs, hfb]; rfl
      rw [hlt]
      cases inn
      ·cbv; repeat (first | (refine reado_at hA 4 3 _ rfl rfl ?_; cbv) | (with_reducible apply next_at hA; cbv) | (rw [g1]; cbv) | (refine lit_at hA true ?_; cbv) | (refine room_at hA (by simp only [r4, List.length_append, List.length_cons, List.length_nil]; omega) ?_; cbv))
       have hnew : vc M [[.sc (.string nm), a0, a1, a2, a3]] = rF (sortS ltF (fs ++ [(nm, a)])) := by rw [← hins, if_neg (by decide), r4, hM, rF_app, rF_one, ha]
       refine ⟨(b, op', nm', n', K', vc M [[.sc (.string nm), a0, a1, a2, a3]], .d (.sl 5 (vc M [[.sc (.string nm), a0, a1, a2, a3]]))), ⟨ks', fs ++ [(nm, a)], hb.symm, hK', hsb, hnew, hfs2, by rw [← htl, htb], by rw [List.length_append]; show fs.length + 1 + b.parts.length ≤ _; omega, .inr rfl⟩, hbl, ?_⟩
       cbv
      ·cbv; repeat (first | (refine reado_at hA 4 3 _ rfl rfl ?_; cbv) | (with_reducible apply next_at hA; cbv) | (rw [g1]; cbv) | (refine lit_at hA true ?_; cbv) | (refine room_at hA (by simp only [r4, List.length_append, List.length_cons, List.length_nil]; omega) ?_; cbv))
       have hnew : M = rF (sortS ltF (fs ++ [(nm, a)])) := by rw [← hins, if_pos rfl, List.append_nil, hM]
       refine ⟨(b, op', nm', n', K', M, .d (.sl 5 M)), ⟨ks', fs ++ [(nm, a)], hb.symm, hK', hsb, hnew, hfs2, by rw [← htl, htb], by rw [List.length_append]; show fs.length + 1 + b.parts.length ≤ _; omega, .inr rfl⟩, hbl, ?_⟩
       cbv
   ·cbv
    with_reducible apply next_at hA
    cbv
    rw [g0]
    cbv
    repeat (first | (refine own_at hA 6 85 true rfl ?_; cbv) | (with_reducible apply next_at hA; cbv))
    refine loop_at hA (γ := Int × Bool × List (List D)) (fun x => [(8, vi .i64 x.1), (7, vb x.2.1), (6, .own 3)]) (fun x => [(3, .row true 85 x.2.2)])
     (fun x => ∃ k : Nat, x.1 = (k : Int) ∧ k ≤ (sortS ltF fs).length ∧ x.2.1 = (((sortS ltF fs).take k).foldl (putS (nm, a)) (false, [])).1 ∧ x.2.2 = rF (((sortS ltF fs).take k).foldl (putS (nm, a)) (false, [])).2) (fun x => (sortS ltF fs).length - x.1.toNat) (0, false, []) ?_ ?_ ?_
    ·exact ⟨0, rfl, Nat.zero_le _, rfl, rfl⟩
    ·cbv
    ·intro x hinv
     obtain ⟨z, inn, M⟩ := x
     cbv
     repeat ((with_reducible apply next_at hA); cbv)
     obtain ⟨k, hz, hk2, hin, hM⟩ := hinv
     replace hz : z = (k : Int) := hz
     replace hin : inn = (((sortS ltF fs).take k).foldl (putS (nm, a)) (false, [])).1 := hin
     replace hM : M = rF (((sortS ltF fs).take k).foldl (putS (nm, a)) (false, [])).2 := hM
     have hsn : (sortS ltF fs).length = fs.length := sortS_len fs
     have hll : qy L = (((sortS ltF fs).length : Nat) : Int) := by rw [r1, hL, rF_len]
     have hlt : qh z (qy L) = decide (k < (sortS ltF fs).length) := by rw [e7, hll, hz]; exact decide_eq_decide.2 (by omega)
     by_cases h9 : k < (sortS ltF fs).length
     ·rw [decide_eq_true h9] at hlt
      obtain ⟨x, hx⟩ : ∃ x, (sortS ltF fs)[k]? = some x := ⟨_, List.getElem?_eq_getElem h9⟩
      have hpt := put_take (nm, a) (sortS ltF fs) hx (false, [])
      generalize hPk : ((sortS ltF fs).take k).foldl (putS (nm, a)) (false, []) = P at *
      obtain ⟨xn, xt⟩ := x
      obtain ⟨x0, x1, x2, x3, hxx⟩ := cT_four xt
      have gx : qz L z = some [.sc (.string xn), x0, x1, x2, x3] := by rw [r2, hz, if_pos (by omega), hL, show ((k : Int)).toNat = k by omega, rF_get hx, hxx]
      have hsl : qm (qo nm) (qo xn) = ltF (nm, a) (xn, xt) := by rw [s2, s3, s3]; rfl
      rw [hlt]
      obtain ⟨Pb, Pl⟩ := P
      simp only at hin hM
      subst hin
      have hz1 : qa .i64 (qb z 1) = ((k + 1 : Nat) : Int) := by rw [e1, e2, hz, IntWalk.i64_in _ (by omega)]; omega
      have hmu : (sortS ltF fs).length - (qa .i64 (qb z 1)).toNat < (sortS ltF fs).length - z.toNat := by rw [hz1, hz]; omega
      have hMl : M.length ≤ 1048577 := by
       have h := put_len (nm, a) ((sortS ltF fs).take k) (false, [])
       rw [hPk, List.length_take] at h
       rw [hM, rF_len]
       simp only [List.length_nil] at h
       omega
      cases inn
      ·cases hlx : ltF (nm, a) (xn, xt)
       ·have hput : putS (nm, a) (false, Pl) (xn, xt) = (false, Pl ++ [(xn, xt)]) := by unfold putS; rw [hlx]
        rw [hlx] at hsl
        rw [hput] at hpt
        cbv; repeat (first | (with_reducible apply next_at hA; cbv) | (rw [gx]; cbv) | (rw [hsl]; cbv) | (refine lit_at hA true ?_; cbv) | (refine room_at hA (by simp only [r4, List.length_append, List.length_cons, List.length_nil]; omega) ?_; cbv))
        refine ⟨(qa .i64 (qb z 1), false, vc M [[.sc (.string xn), x0, x1, x2, x3]]), ⟨k + 1, hz1, h9, by rw [hpt], by rw [hpt]; show vc M _ = rF (Pl ++ [(xn, xt)]); rw [r4, hM, rF_app, rF_one, hxx]⟩, hmu, ?_⟩
        cbv
       ·have hput : putS (nm, a) (false, Pl) (xn, xt) = (true, Pl ++ [(nm, a)] ++ [(xn, xt)]) := by unfold putS; rw [hlx]
        rw [hlx] at hsl
        rw [hput] at hpt
        cbv; repeat (first | (with_reducible apply next_at hA; cbv) | (rw [gx]; cbv) | (rw [hsl]; cbv) | (refine lit_at hA true ?_; cbv) | (refine room_at hA (by simp only [r4, List.length_append, List.length_cons, List.length_nil]; omega) ?_; cbv))
        refine ⟨(qa .i64 (qb z 1), true, vc (vc M [[.sc (.string nm), a0, a1, a2, a3]]) [[.sc (.string xn), x0, x1, x2, x3]]), ⟨k + 1, hz1, h9, by rw [hpt], by rw [hpt]; show vc (vc M _) _ = rF (Pl ++ [(nm, a)] ++ [(xn, xt)]); rw [r4, r4, hM, rF_app, rF_app, rF_one, rF_one, hxx, ha]⟩, hmu, ?_⟩
        cbv
      ·have hput : putS (nm, a) (true, Pl) (xn, xt) = (true, Pl ++ [(xn, xt)]) := rfl
       rw [hput] at hpt
       cbv; repeat (first | (with_reducible apply next_at hA; cbv) | (rw [gx]; cbv) | (rw [hsl]; cbv) | (refine lit_at hA true ?_; cbv) | (refine room_at hA (by simp only [r4, List.length_append, List.length_cons, List.length_nil]; omega) ?_; cbv))
       refine ⟨(qa .i64 (qb z 1), true, vc M [[.sc (.string xn), x0, x1, x2, x3]]), ⟨k + 1, hz1, h9, by rw [hpt], by rw [hpt]; show vc M _ = rF (Pl ++ [(xn, xt)]); rw [r4, hM, rF_app, rF_one, hxx]⟩, hmu, ?_⟩
       cbv
     ·rw [decide_eq_false h9] at hlt
      have hins := put_false (nm, a) (sortS ltF fs) []
      rw [List.take_of_length_le (by omega)] at hin hM
      have hMl : M.length ≤ 1048577 := by
       have h := put_len (nm, a) (sortS ltF fs) (false, [])
       rw [hM, rF_len]
       simp only [List.length_nil] at h
       omega
      generalize hPk : (sortS ltF fs).foldl (putS (nm, a)) (false, []) = P at *
      obtain ⟨Pb, Pl⟩ := P
      simp only at hin hM hins
      subst hin
      rw [List.nil_append, ← sort_snoc] at hins
      have hbl : b.parts.length < r.parts.length := (kids_le r).2 b (by rw [hk]; simp)
      have hfs2 : (fs ++ [(nm, a)]) ++ fieldsS b = fieldsS t := by rw [List.append_assoc, ← hfs, hfb]; rfl
      rw [hlt]
      cases inn
      ·cbv; repeat (first | (refine reado_at hA 4 3 _ rfl rfl ?_; cbv) | (with_reducible apply next_at hA; cbv) | (rw [g1]; cbv) | (refine lit_at hA true ?_; cbv) | (refine room_at hA (by simp only [r4, List.length_append, List.length_cons, List.length_nil]; omega) ?_; cbv))
       have hnew : vc M [[.sc (.string nm), a0, a1, a2, a3]] = rF (sortS ltF (fs ++ [(nm, a)])) := by rw [← hins, if_neg (by decide), r4, hM, rF_app, rF_one, ha]
       refine ⟨(b, op', nm', n', K', vc M [[.sc (.string nm), a0, a1, a2, a3]], .d (.sl 5 (vc M [[.sc (.string nm), a0, a1, a2, a3]]))), ⟨ks', fs ++ [(nm, a)], hb.symm, hK', hsb, hnew, hfs2, by rw [← htl, htb], by rw [List.length_append]; show fs.length + 1 + b.parts.length ≤ _; omega, .inr rfl⟩, hbl, ?_⟩
       cbv
      ·cbv; repeat (first | (refine reado_at hA 4 3 _ rfl rfl ?_; cbv) | (with_reducible apply next_at hA; cbv) | (rw [g1]; cbv) | (refine lit_at hA true ?_; cbv) | (refine room_at hA (by simp only [r4, List.length_append, List.length_cons, List.length_nil]; omega) ?_; cbv))
       have hnew : M = rF (sortS ltF (fs ++ [(nm, a)])) := by rw [← hins, if_pos rfl, List.append_nil, hM]
       refine ⟨(b, op', nm', n', K', M, .d (.sl 5 M)), ⟨ks', fs ++ [(nm, a)], hb.symm, hK', hsb, hnew, hfs2, by rw [← htl, htb], by rw [List.length_append]; show fs.length + 1 + b.parts.length ≤ _; omega, .inr rfl⟩, hbl, ?_⟩
       cbv
  ·rw [decide_eq_false hop] at h11
   obtain ⟨hf0, ht0⟩ := fields_end (t := r) (by rw [hr]; exact hop)
   rw [hf0, List.append_nil] at hfs
   have hLQ : L = Q := by rw [hL, hfs, hQ]
   rw [ht0, hr] at htl
   rw [← htl, cT, ← hK] at hq
   rw [h11]
   rcases hv with ⟨hL0, rfl⟩ | rfl
   ·cbv
    refine nil_at hA 4 5 L hL0 rfl ?_
    rw [hLQ]
    cases hq
    cbv
    repeat ((with_reducible apply next_at hA); cbv)
   ·rw [hLQ]
    cases hq
    cbv
    repeat ((with_reducible apply next_at hA); cbv)
end Go.Proofs.YtahpnackkmbmgaaGreatDoor.Vm
end
section
namespace Go.Proofs.YtahpnackkmbmgaaGreatDoor.Vm
open Go.RowKit
set_option maxRecDepth 100000
set_option maxHeartbeats 4000000
end Go.Proofs.YtahpnackkmbmgaaGreatDoor.Vm
end
section
namespace Go.Proofs.YtahpnackkmbmgaaGreatDoor.Vm
def swapL {α : Type} (a b : Nat) : Nat → List α → List α
 | 0, l => l
 | k + 1, l => match (swapL a b k l)[a + k]?, (swapL a b k l)[b + k]? with
  | some x, some y => ((swapL a b k l).set (a + k) y).set (b + k) x
  | _, _ => swapL a b k l
theorem swapL_len {α : Type} (a b : Nat) : ∀ (k : Nat) (l : List α), (swapL a b k l).length = l.length
 | 0, l => rfl
 | k + 1, l => by
  unfold swapL
  split
  ·rw [List.length_set, List.length_set, swapL_len]
  ·exact swapL_len a b k l
theorem swapL_get {α : Type} (a b : Nat) : ∀ (k : Nat) (l : List α), a + k ≤ b → b + k ≤ l.length → ∀ i, (swapL a b k l)[i]? = if a ≤ i ∧ i < a + k then l[i - a + b]? else if b ≤ i ∧ i < b + k then l[i - b + a]? else l[i]?
 | 0, l, _, _, i => by
  rw [if_neg (by omega), if_neg (by omega)]
  rfl
 | k + 1, l, h1, h2, i => by
  have ih := swapL_get a b k l (by omega) (by omega)
  have ea := ih (a + k)
  have eb := ih (b + k)
  rw [if_neg (by omega), if_neg (by omega)] at ea eb
  have hla : a + k < l.length := by omega
  have hlb : b + k < l.length := by omega
  rw [List.getElem?_eq_getElem hla] at ea
  rw [List.getElem?_eq_getElem hlb] at eb
  unfold swapL
  rw [ea, eb]
  simp only
  have hsl := swapL_len a b k l
  by_cases e1 : i = b + k
  ·subst e1
   rw [List.getElem?_set_self (by rw [List.length_set, hsl]; omega), if_neg (by omega), if_pos (by omega), show b + k - b + a = a + k by omega, List.getElem?_eq_getElem hla]
  ·rw [List.getElem?_set_ne (by omega)]
   by_cases e2 : i = a + k
   ·subst e2
    rw [List.getElem?_set_self (by rw [hsl]; omega), if_pos (by omega), show a + k - a + b = b + k by omega, List.getElem?_eq_getElem hlb]
   ·rw [List.getElem?_set_ne (by omega), ih i]
    by_cases c1 : a ≤ i ∧ i < a + k
    ·rw [if_pos c1, if_pos (by omega)]
    ·rw [if_neg c1]
     by_cases c2 : b ≤ i ∧ i < b + k
     ·rw [if_pos c2, if_neg (by omega), if_pos (by omega)]
     ·rw [if_neg c2, if_neg (by omega), if_neg (by omega)]
theorem swapL_split {α : Type} (P X M Y S : List α) (h : X.length = Y.length) : swapL P.length (P.length + X.length + M.length) X.length (P ++ (X ++ (M ++ (Y ++ S)))) = P ++ (Y ++ (M ++ (X ++ S))) := by
 apply List.ext_getElem?
 intro i
 rw [swapL_get _ _ _ _ (by omega) (by simp only [List.length_append]; omega)]
 simp only [List.getElem?_append]
 repeat' split
 all_goals first
  | rfl
  | omega
  | (congr 1; omega)
theorem split_at {α : Type} {l : List α} {n : Nat} (h : n ≤ l.length) : ∃ a b, l = a ++ b ∧ a.length = n := ⟨l.take n, l.drop n, (List.take_append_drop n l).symm, by simp; omega⟩
theorem take_one {α : Type} {xs : List α} {k : Nat} {y : α} (h : xs[k]? = some y) : xs.take (k + 1) = xs.take k ++ [y] := by
 obtain ⟨hi, e⟩ := List.getElem?_eq_some_iff.1 h
 rw [List.take_succ_eq_append_getElem hi, e]
theorem bytes_irr : ∀ l : List UInt8, Op.bytesLess l l = false
 | [] => rfl
 | a :: l => by simp [Op.bytesLess, bytes_irr l]
theorem bytes_tra : ∀ x y z : List UInt8, Op.bytesLess x y = true → Op.bytesLess y z = true → Op.bytesLess x z = true
 | x, [], _, h, _ => by cases x <;> simp [Op.bytesLess] at h
 | _, _ :: _, [], _, h => by simp [Op.bytesLess] at h
 | [], _ :: _, _ :: _, _, _ => by simp [Op.bytesLess]
 | a :: x, b :: y, c :: z, h1, h2 => by
  simp only [Op.bytesLess, Bool.or_eq_true, decide_eq_true_eq, Bool.and_eq_true, beq_iff_eq] at h1 h2 ⊢
  rcases h1 with h1 | ⟨rfl, h1⟩
  ·rcases h2 with h2 | ⟨rfl, h2⟩
   ·exact .inl (UInt8.lt_trans h1 h2)
   ·exact .inl h1
  ·rcases h2 with h2 | ⟨rfl, h2⟩
   ·exact .inl h2
   ·exact .inr ⟨rfl, bytes_tra x y z h1 h2⟩
theorem bytes_neg : ∀ x y z : List UInt8, Op.bytesLess x y = false → Op.bytesLess y z = false → Op.bytesLess x z = false
 | x, _, [], _, _ => by cases x <;> simp [Op.bytesLess]
 | _, [], _ :: _, _, h => by simp [Op.bytesLess] at h
 | [], _ :: _, _, h, _ => by simp [Op.bytesLess] at h
 | a :: x, b :: y, c :: z, h1, h2 => by
  simp only [Op.bytesLess, Bool.or_eq_false_iff, decide_eq_false_iff_not, Bool.and_eq_false_iff, beq_eq_false_iff_ne, ne_eq] at h1 h2 ⊢
  obtain ⟨h1, h1'⟩ := h1
  obtain ⟨h2, h2'⟩ := h2
  have h3 : ¬ a < c := fun h => by
   rw [UInt8.lt_iff_toNat_lt] at h h1 h2
   omega
  refine ⟨h3, ?_⟩
  by_cases hac : a = c
  ·subst hac
   right
   have hab : a = b := by
    rw [UInt8.lt_iff_toNat_lt] at h1 h2
    exact UInt8.toNat_inj.1 (by omega)
   subst hab
   exact bytes_neg x y z (by simpa using h1') (by simpa using h2')
  ·exact .inl hac
abbrev Rw := List D
def keyR : Rw → List UInt8
 | .sc (.string a) :: _ => a.toList
 | _ => []
def ltR (x y : Rw) : Bool := Op.bytesLess (keyR x) (keyR y)
theorem swoR : Swo ltR := ⟨fun _ => bytes_irr _, fun _ _ _ => bytes_tra _ _ _, fun _ _ _ => bytes_neg _ _ _⟩
theorem insS_map {α β : Type} {f : α → β} {lt : α → α → Bool} {lt2 : β → β → Bool} (h : ∀ x y, lt2 (f x) (f y) = lt x y) (x : α) : ∀ l : List α, insS lt2 (f x) (l.map f) = (insS lt x l).map f
 | [] => rfl
 | y :: l => by
  rw [List.map_cons, insS, insS, h]
  split
  ·rfl
  ·rw [List.map_cons, insS_map h x l]
theorem sortS_map {α β : Type} {f : α → β} {lt : α → α → Bool} {lt2 : β → β → Bool} (h : ∀ x y, lt2 (f x) (f y) = lt x y) (l : List α) : sortS lt2 (l.map f) = (sortS lt l).map f := by
 have key : ∀ (l acc : List α), (l.map f).foldl (fun acc x => insS lt2 x acc) (acc.map f) = (l.foldl (fun acc x => insS lt x acc) acc).map f := by
  intro l
  induction l with
  | nil => intro acc; rfl
  | cons x l ih => intro acc; rw [List.map_cons, List.foldl_cons, List.foldl_cons, insS_map h, ih]
 exact key l []
theorem all_le {x : Rw} {L : List Rw} {y : Rw} (hs : Srt ltR (L ++ [y])) (h : ltR x y = false) : ∀ z ∈ L ++ [y], ltR x z = false := by
 intro z hz
 rcases List.mem_append.1 hz with hz | hz
 ·exact swoR.neg x y z h ((srt_append.1 hs).2.2 z hz y (by simp))
 ·simp at hz; subst hz; exact h
theorem swap_adj {α : Type} (A R : List α) (x y : α) {k : Nat} (h : A.length = k) : ((A ++ y :: x :: R).set (k + 1) y).set k x = A ++ x :: y :: R := by
 subst h
 rw [List.set_append_right _ _ (by omega), show A.length + 1 - A.length = 1 by omega, List.set_append_right _ _ (Nat.le_refl _), Nat.sub_self]
 rfl
theorem half_in {V : List Rw} {h : Nat} {y : Rw} (hs : Srt ltR V) (hy : V[h]? = some y) : (∀ z ∈ V.take h, ltR y z = false) ∧ ∀ z ∈ V.drop (h + 1), ltR z y = false := by
 obtain ⟨hh, e⟩ := List.getElem?_eq_some_iff.1 hy
 have hsp : V = V.take h ++ y :: V.drop (h + 1) := by
  conv => lhs; rw [← List.take_append_drop h V, List.drop_eq_getElem_cons hh, e]
 rw [hsp] at hs
 obtain ⟨_, h2, h3⟩ := srt_append.1 hs
 exact ⟨fun z hz => h3 z hz y (List.mem_cons_self ..), fun z hz => (List.pairwise_cons.1 h2).1 z hz⟩
theorem search_up {V : List Rw} {h : Nat} {y u : Rw} (hs : Srt ltR V) (hy : V[h]? = some y) (hl : ltR y u = true) : ∀ z ∈ V.take (h + 1), ltR z u = true := by
 intro z hz
 rw [take_one hy] at hz
 rcases List.mem_append.1 hz with hz | hz
 ·exact lt_of_le_lt swoR ((half_in hs hy).1 z hz) hl
 ·simp at hz; subst hz; exact hl
theorem search_down {V : List Rw} {h : Nat} {y u : Rw} (hs : Srt ltR V) (hy : V[h]? = some y) (hl : ltR y u = false) : ∀ z ∈ V.drop h, ltR z u = false := by
 intro z hz
 obtain ⟨hh, e⟩ := List.getElem?_eq_some_iff.1 hy
 rw [List.drop_eq_getElem_cons hh, e] at hz
 rcases List.mem_cons.1 hz with rfl | hz
 ·exact hl
 ·exact swoR.neg z y u ((half_in hs hy).2 z hz) hl
theorem swap_adj2 {α : Type} (A R : List α) (x y : α) {k : Nat} (h : A.length = k) : ((A ++ x :: y :: R).set k y).set (k + 1) x = A ++ y :: x :: R := by
 subst h
 rw [List.set_append_right _ _ (Nat.le_refl _), Nat.sub_self, List.set_cons_zero, List.set_append_right _ _ (by omega), show A.length + 1 - A.length = 1 by omega]
 rfl
theorem search_up2 {V : List Rw} {h : Nat} {y u : Rw} (hs : Srt ltR V) (hy : V[h]? = some y) (hl : ltR u y = false) : ∀ z ∈ V.take (h + 1), ltR u z = false := by
 intro z hz
 rw [take_one hy] at hz
 rcases List.mem_append.1 hz with hz | hz
 ·exact swoR.neg u y z hl ((half_in hs hy).1 z hz)
 ·simp at hz; subst hz; exact hl
theorem search_down2 {V : List Rw} {h : Nat} {y u : Rw} (hs : Srt ltR V) (hy : V[h]? = some y) (hl : ltR u y = true) : ∀ z ∈ V.drop h, ltR u z = true := by
 intro z hz
 obtain ⟨hh, e⟩ := List.getElem?_eq_some_iff.1 hy
 rw [List.drop_eq_getElem_cons hh, e] at hz
 rcases List.mem_cons.1 hz with rfl | hz
 ·exact hl
 ·exact lt_of_lt_le swoR hl ((half_in hs hy).2 z hz)
theorem srt_at {l : List Rw} (h : Srt ltR l) {i j : Nat} {x y : Rw} (hij : i ≤ j) (hx : l[i]? = some x) (hy : l[j]? = some y) : ltR y x = false := by
 rcases Nat.lt_or_ge i j with hlt | hge
 ·obtain ⟨hi, ei⟩ := List.getElem?_eq_some_iff.1 hx
  obtain ⟨hj, ej⟩ := List.getElem?_eq_some_iff.1 hy
  have := List.pairwise_iff_getElem.1 h i j hi hj hlt
  rw [ei, ej] at this
  exact this
 ·obtain rfl : i = j := by omega
  rw [hx] at hy
  injection hy with hy
  subst hy
  exact swoR.irr x
def Window (a m b mid s0 r0 : Nat) : Prop := (m ≤ mid ∧ s0 = a ∧ r0 = m) ∨ (mid < m ∧ s0 + b = mid + m ∧ r0 = mid)
def Lows (U V : List Rw) (a m p s0 s : Nat) : Prop := ∀ c x y, s0 ≤ c → c < s → U[c - a]? = some x → V[p - c - m]? = some y → ltR y x = false
def Highs (U V : List Rw) (a m p r r0 : Nat) : Prop := ∀ c x y, r ≤ c → c < r0 → U[c - a]? = some x → V[p - c - m]? = some y → ltR y x = true
section
variable {U V : List Rw} {a m b mid p s0 r0 : Nat}
theorem window_bounds (hw : Window a m b mid s0 r0) (hmid : mid = (a + b) / 2) (ham : a < m) (hmb : m < b) {s : Nat} (h1 : s0 ≤ s) (h2 : s ≤ r0) : a ≤ s ∧ s ≤ m ∧ s ≤ mid ∧ m ≤ mid + m - s ∧ mid + m - s ≤ b ∧ mid ≤ mid + m - s := by
 rcases hw with ⟨h, rfl, rfl⟩ | ⟨h, h3, rfl⟩ <;> omega
theorem lows_up (hU : Srt ltR U) (hV : Srt ltR V) (hw : Window a m b mid s0 r0) (hmid : mid = (a + b) / 2) (ham : a < m) (hmb : m < b) (hp : p + 1 = mid + m) {c : Nat} {x y : Rw} (hc0 : s0 ≤ c) (hc : c < r0) (hx : U[c - a]? = some x) (hy : V[p - c - m]? = some y) (hl : ltR y x = false) :
  Lows U V a m p s0 (c + 1) := by
 intro d x' y' hd hdc hx' hy'
 have b1 := window_bounds hw hmid ham hmb hc0 (Nat.le_of_lt hc)
 have b2 := window_bounds hw hmid ham hmb hd (by omega)
 have h1 := srt_at hU (show d - a ≤ c - a by omega) hx' hx
 have h2 := srt_at hV (show p - c - m ≤ p - d - m by omega) hy hy'
 exact swoR.neg _ _ _ (swoR.neg _ _ _ h2 hl) h1
theorem highs_down (hU : Srt ltR U) (hV : Srt ltR V) (hw : Window a m b mid s0 r0) (hmid : mid = (a + b) / 2) (ham : a < m) (hmb : m < b) (hp : p + 1 = mid + m) {c : Nat} {x y : Rw} (hc0 : s0 ≤ c) (hc : c < r0) (hx : U[c - a]? = some x) (hy : V[p - c - m]? = some y) (hl : ltR y x = true) :
  Highs U V a m p c r0 := by
 intro d x' y' hd hdr hx' hy'
 have b1 := window_bounds hw hmid ham hmb hc0 (Nat.le_of_lt hc)
 have h1 := srt_at hU (show c - a ≤ d - a by omega) hx hx'
 have h2 := srt_at hV (show p - d - m ≤ p - c - m by omega) hy' hy
 exact lt_of_lt_le swoR (lt_of_le_lt swoR h2 hl) h1
theorem parted (hU : Srt ltR U) (hV : Srt ltR V) (hUl : U.length = m - a) (hVl : V.length = b - m) (hw : Window a m b mid s0 r0) (hmid : mid = (a + b) / 2) (ham : a < m) (hmb : m < b) (hp : p + 1 = mid + m) {s : Nat} (h1 : s0 ≤ s) (h2 : s ≤ r0) (hlo : Lows U V a m p s0 s) (hhi : Highs U V a m p s r0) :
  (∀ x ∈ U.drop (s - a), ∀ y ∈ V.take (mid + m - s - m), ltR y x = true) ∧ ∀ x ∈ U.take (s - a), ∀ y ∈ V.drop (mid + m - s - m), ltR y x = false := by
 have b0 := window_bounds hw hmid ham hmb h1 h2
 constructor
 ·intro x hx y hy
  obtain ⟨i, hi⟩ := List.mem_iff_getElem?.1 hx
  obtain ⟨j, hj⟩ := List.mem_iff_getElem?.1 hy
  rw [List.getElem?_drop] at hi
  have hj2 : j < mid + m - s - m ∧ V[j]? = some y := by
   rw [List.getElem?_take] at hj
   split at hj
   ·exact ⟨by omega, hj⟩
   ·cases hj
  have hiu : s - a + i < U.length := (List.getElem?_eq_some_iff.1 hi).1
  by_cases hs : s < r0
  ·obtain ⟨x0, hx0⟩ : ∃ x0, U[s - a]? = some x0 := ⟨_, List.getElem?_eq_getElem (by omega)⟩
   obtain ⟨y0, hy0⟩ : ∃ y0, V[p - s - m]? = some y0 := ⟨_, List.getElem?_eq_getElem (by omega)⟩
   have h := hhi s x0 y0 (Nat.le_refl _) hs hx0 hy0
   exact lt_of_lt_le swoR (lt_of_le_lt swoR (srt_at hV (show j ≤ p - s - m by omega) hj2.2 hy0) h) (srt_at hU (show s - a ≤ s - a + i by omega) hx0 hi)
  ·rcases hw with ⟨h, rfl, rfl⟩ | ⟨h, h3, rfl⟩ <;> omega
 ·intro x hx y hy
  obtain ⟨i, hi⟩ := List.mem_iff_getElem?.1 hx
  obtain ⟨j, hj⟩ := List.mem_iff_getElem?.1 hy
  rw [List.getElem?_drop] at hj
  have hi2 : i < s - a ∧ U[i]? = some x := by
   rw [List.getElem?_take] at hi
   split at hi
   ·exact ⟨by omega, hi⟩
   ·cases hi
  have hjv : mid + m - s - m + j < V.length := (List.getElem?_eq_some_iff.1 hj).1
  by_cases hs : s0 < s
  ·have b1 := window_bounds hw hmid ham hmb (s := s - 1) (by omega) (by omega)
   obtain ⟨x0, hx0⟩ : ∃ x0, U[s - 1 - a]? = some x0 := ⟨_, List.getElem?_eq_getElem (by omega)⟩
   obtain ⟨y0, hy0⟩ : ∃ y0, V[p - (s - 1) - m]? = some y0 := ⟨_, List.getElem?_eq_getElem (by omega)⟩
   have h := hlo (s - 1) x0 y0 (by omega) (by omega) hx0 hy0
   exact swoR.neg _ _ _ (swoR.neg _ _ _ (srt_at hV (show p - (s - 1) - m ≤ mid + m - s - m + j by omega) hy0 hj) h) (srt_at hU (show i ≤ s - 1 - a by omega) hi2.2 hx0)
  ·rcases hw with ⟨h, rfl, rfl⟩ | ⟨h, h3, rfl⟩ <;> omega
end
def BlksOk (bs : Nat) (bl : List (List Rw)) : Prop := ∀ x ∈ bl, x.length = bs ∧ Srt ltR x
theorem blks_len {bs : Nat} : ∀ {bl : List (List Rw)}, BlksOk bs bl → bl.flatten.length = bl.length * bs
 | [], _ => by simp
 | x :: bl, h => by
  rw [List.flatten_cons, List.length_append, (h x (List.mem_cons_self ..)).1, blks_len fun y hy => h y (List.mem_cons_of_mem _ hy), List.length_cons, Nat.succ_mul]
  omega
theorem BlksOk.snoc {bs : Nat} {bl : List (List Rw)} {x : List Rw} (h : BlksOk bs bl) (hx : x.length = bs ∧ Srt ltR x) : BlksOk bs (bl ++ [x]) := fun y hy => by
 rcases List.mem_append.1 hy with hy | hy
 ·exact h y hy
 ·simp at hy; subst hy; exact hx
end Go.Proofs.YtahpnackkmbmgaaGreatDoor.Vm
end
section
namespace Go.Proofs.YtahpnackkmbmgaaGreatDoor.Vm
open Go.RowKit
set_option maxRecDepth 100000
set_option maxHeartbeats 4000000
theorem nc (n : Nat) : @NatCast.natCast Int instNatCastInt n = (n : Int) := rfl
theorem five {x : Rw} (h : x.length = 5) : ∃ x0 x1 x2 x3 x4, x = [x0, x1, x2, x3, x4] := by
 match x, h with
 | [x0, x1, x2, x3, x4], _ => exact ⟨x0, x1, x2, x3, x4, rfl⟩
theorem swapL_mem {α : Type} (a b : Nat) : ∀ (k : Nat) (l : List α), ∀ x ∈ swapL a b k l, x ∈ l
 | 0, l, x, h => h
 | k + 1, l, x, h => by
  unfold swapL at h
  split at h
  ·rename_i y z h1 h2
   rcases List.mem_or_eq_of_mem_set h with h | rfl
   ·rcases List.mem_or_eq_of_mem_set h with h | rfl
    ·exact swapL_mem a b k l x h
    ·exact swapL_mem a b k l _ (List.mem_of_getElem? h2)
   ·exact swapL_mem a b k l _ (List.mem_of_getElem? h1)
  ·exact swapL_mem a b k l x h
theorem swap_s (rows : List Rw) (h5 : ∀ x ∈ rows, x.length = 5) (a b k fid : Nat) (hN : rows.length ≤ 1048576) (hab : a + k ≤ b) (hb : b + k ≤ rows.length) :
  SpecS 127 [.own 0, vi .i64 a, vi .i64 b, vi .i64 k, .cl fid []] [.row false 85 rows] (fun res os => res = [] ∧ os = [.row false 85 (swapL a b k rows)]) := by
 obtain ⟨za, hza⟩ : ∃ z : Int, z = (a : Int) := ⟨_, rfl⟩
 obtain ⟨zb, hzb⟩ : ∃ z : Int, z = (b : Int) := ⟨_, rfl⟩
 obtain ⟨zk, hzk⟩ : ∃ z : Int, z = (k : Int) := ⟨_, rfl⟩
 rw [← hza, ← hzb, ← hzk]
 obtain ⟨S, hS⟩ : ∃ S, S = swapL a b k rows := ⟨_, rfl⟩
 rw [← hS]
 refine specs_of Tryz.func127 rfl (by kernel_rfl) (by kernel_rfl) (by kernel_rfl) rfl rfl (by rintro _ _ ⟨_, rfl⟩; rfl) fun qa qb qc qd qe qf qg qh qi qj qk ql qm qo qp qq qs qt qu qv qw qx qy qz va vc vd ve vf vg vh vj vk vl vm vn vo vp vq vr vt vu hA K hK => ?_
 cbv
 repeat ((with_reducible apply next_at hA); cbv)
 obtain ⟨e1, e2, e3, e4, e5, e6, e7, e8, e9⟩ := ar_at hA
 obtain ⟨r1, r2, r3, r4⟩ := row_at hA
 obtain ⟨m1, m2, m3, m4⟩ := map_at hA
 replace hza : za = (a : Int) := hza
 replace hzb : zb = (b : Int) := hzb
 replace hzk : zk = (k : Int) := hzk
 refine loop_at hA (γ := Int × List (List D)) (fun x => [(10, vi .i64 x.1), (29, .jk), (35, .jk)]) (fun x => [(0, .row false 85 x.2)]) (fun x => ∃ j : Nat, x.1 = (j : Int) ∧ j ≤ k ∧ x.2 = swapL a b j rows) (fun x => k - x.1.toNat) (0, rows) ?_ ?_ ?_
 ·exact ⟨0, rfl, Nat.zero_le _, rfl⟩
 ·cbv
 ·intro x hinv
  obtain ⟨z, L⟩ := x
  cbv
  repeat ((with_reducible apply next_at hA); cbv)
  obtain ⟨j, hz, hj, hL⟩ := hinv
  replace hz : z = (j : Int) := hz
  replace hza : za = (a : Int) := hza
  replace hzb : zb = (b : Int) := hzb
  replace hzk : zk = (k : Int) := hzk
  replace hL : L = swapL a b j rows := hL
  have hlt : qh z zk = decide (j < k) := by rw [e7, hz, hzk]; exact decide_eq_decide.2 (by omega)
  by_cases h9 : j < k
  ·rw [decide_eq_true h9] at hlt
   have hLl : L.length = rows.length := by rw [hL, swapL_len]
   obtain ⟨x, hx⟩ : ∃ x, L[a + j]? = some x := ⟨_, List.getElem?_eq_getElem (by omega)⟩
   obtain ⟨y, hy⟩ : ∃ y, L[b + j]? = some y := ⟨_, List.getElem?_eq_getElem (by omega)⟩
   have hx5 := h5 x (swapL_mem a b j rows x (by rw [← hL]; exact List.mem_of_getElem? hx))
   have hy5 := h5 y (swapL_mem a b j rows y (by rw [← hL]; exact List.mem_of_getElem? hy))
   obtain ⟨x0, x1, x2, x3, x4, rfl⟩ := five hx5
   obtain ⟨y0, y1, y2, y3, y4, rfl⟩ := five hy5
   have wa : qa .i64 (qb za z) = ((a + j : Nat) : Int) := by rw [e1, e2, hza, hz, IntWalk.i64_in _ (by omega)]; omega
   have wb : qa .i64 (qb zb z) = ((b + j : Nat) : Int) := by rw [e1, e2, hzb, hz, IntWalk.i64_in _ (by omega)]; omega
   have g1 : qz L (qa .i64 (qb zb z)) = some [y0, y1, y2, y3, y4] := by rw [wb, r2, if_pos (by omega), Int.toNat_natCast]; exact hy
   have g2 : qz L (qa .i64 (qb za z)) = some [x0, x1, x2, x3, x4] := by rw [wa, r2, if_pos (by omega), Int.toNat_natCast]; exact hx
   have g3 : ∀ v, qz (vd L (qa .i64 (qb za z)) v) (qa .i64 (qb zb z)) = some [y0, y1, y2, y3, y4] := fun v => by rw [wb, wa, r2, if_pos (by omega), m4, Int.toNat_natCast, Int.toNat_natCast, List.getElem?_set_ne (by omega)]; exact hy
   have hsw : swapL a b (j + 1) rows = (L.set (a + j) [y0, y1, y2, y3, y4]).set (b + j) [x0, x1, x2, x3, x4] := by
    rw [swapL, ← hL, hx, hy]
   rw [hlt]
   cbv
   repeat ((with_reducible apply next_at hA); cbv)
   repeat (first | (rw [g1]; cbv) | (rw [g2]; cbv) | (rw [g3]; cbv) | (with_reducible apply next_at hA; cbv))
   replace hz : z = (j : Int) := hz
   have hz1 : qa .i64 (qb z 1) = ((j + 1 : Nat) : Int) := by rw [e1, e2, hz, IntWalk.i64_in _ (by omega)]; omega
   refine ⟨(qa .i64 (qb z 1), vd (vd L (qa .i64 (qb za z)) [y0, y1, y2, y3, y4]) (qa .i64 (qb zb z)) [x0, x1, x2, x3, x4]), ⟨j + 1, hz1, h9, ?_⟩, ?_, ?_⟩
   ·show vd (vd L _ _) _ _ = _
    rw [m4, m4, wa, wb, Int.toNat_natCast, Int.toNat_natCast, hsw]
   ·show k - (qa .i64 (qb z 1)).toNat < k - z.toNat
    rw [hz1, hz]
    omega
   ·cbv
  ·rw [decide_eq_false h9] at hlt
   rw [hlt]
   cbv
   repeat ((with_reducible apply next_at hA); cbv)
   have hjk : j = k := by omega
   exact hK [] [.row false 85 L] ⟨rfl, by rw [hS, ← hjk, ← hL]⟩
theorem rotate_s (P X Y S : List Rw) (h5 : ∀ x ∈ P ++ (X ++ (Y ++ S)), x.length = 5) (fid : Nat) (hN : (P ++ (X ++ (Y ++ S))).length ≤ 1048576) (hx : 0 < X.length) (hy : 0 < Y.length) :
  SpecS 126 [.own 0, vi .i64 P.length, vi .i64 (P.length + X.length : Nat), vi .i64 (P.length + X.length + Y.length : Nat), .cl fid []] [.row false 85 (P ++ (X ++ (Y ++ S)))] (fun res os => res = [] ∧ os = [.row false 85 (P ++ (Y ++ (X ++ S)))]) := by
 obtain ⟨za, hza⟩ : ∃ z : Int, z = (P.length : Int) := ⟨_, rfl⟩
 obtain ⟨zm, hzm⟩ : ∃ z : Int, z = ((P.length + X.length : Nat) : Int) := ⟨_, rfl⟩
 obtain ⟨zb, hzb⟩ : ∃ z : Int, z = ((P.length + X.length + Y.length : Nat) : Int) := ⟨_, rfl⟩
 obtain ⟨L, hL⟩ : ∃ L, L = P ++ (X ++ (Y ++ S)) := ⟨_, rfl⟩
 obtain ⟨M, hM⟩ : ∃ M, M = P ++ (Y ++ (X ++ S)) := ⟨_, rfl⟩
 rw [← hza, ← hzm, ← hzb, ← hM, ← hL]
 rw [← hL] at h5 hN
 have hLl : L.length = P.length + X.length + Y.length + S.length := by rw [hL]; simp only [List.length_append]; omega
 refine specs_of Tryz.func126 rfl (by kernel_rfl) (by kernel_rfl) (by kernel_rfl) rfl rfl (by rintro _ _ ⟨_, rfl⟩; rfl) fun qa qb qc qd qe qf qg qh qi qj qk ql qm qo qp qq qs qt qu qv qw qx qy qz va vc vd ve vf vg vh vj vk vl vm vn vo vp vq vr vt vu hA K hK => ?_
 cbv
 repeat ((with_reducible apply next_at hA); cbv)
 try simp (maxSteps := 4000000) only [nc] at *
 obtain ⟨e1, e2, e3, e4, e5, e6, e7, e8, e9⟩ := ar_at hA
 have wi : qa .i64 (qc zm za) = (X.length : Int) := by rw [e1, e3, hza, hzm, IntWalk.i64_in _ (by omega)]; omega
 have wj : qa .i64 (qc zb zm) = (Y.length : Int) := by rw [e1, e3, hzb, hzm, IntWalk.i64_in _ (by omega)]; omega
 refine loop_at hA (γ := Int × Int × List (List D)) (fun x => [(10, vi .i64 x.1), (11, vi .i64 x.2.1)]) (fun x => [(0, .row false 85 x.2.2)])
  (fun x => ∃ P' X' Y' S' : List Rw, 0 < X'.length ∧ 0 < Y'.length ∧ P'.length + X'.length = P.length + X.length ∧ x.1 = (X'.length : Int) ∧ x.2.1 = (Y'.length : Int) ∧ P' ++ (Y' ++ (X' ++ S')) = M ∧ x.2.2 = P' ++ (X' ++ (Y' ++ S')) ∧ x.2.2.length = L.length ∧ ∀ r ∈ x.2.2, r.length = 5) (fun x => x.1.toNat + x.2.1.toNat) (qa .i64 (qc zm za), qa .i64 (qc zb zm), L) ?_ ?_ ?_
 ·exact ⟨P, X, Y, S, hx, hy, rfl, wi, wj, hM.symm, hL, rfl, h5⟩
 ·cbv
 ·intro x hinv
  obtain ⟨zi, zj, Q⟩ := x
  cbv
  repeat ((with_reducible apply next_at hA); cbv)
  try simp (maxSteps := 4000000) only [nc] at *
  obtain ⟨P', X', Y', S', hx', hy', hm, hi, hj, he, hQ, hQl, hQ5⟩ := hinv
  replace hQ : Q = P' ++ (X' ++ (Y' ++ S')) := hQ
  replace hQl : Q.length = L.length := hQl
  have hQl2 : Q.length = P'.length + X'.length + Y'.length + S'.length := by rw [hQ]; simp only [List.length_append]; omega
  have heq : qj zi zj = (zi == zj) := e9 _ _
  have hgt : qh zj zi = decide (Y'.length < X'.length) := by rw [e7, hi, hj]; exact decide_eq_decide.2 (by omega)
  have wp : qa .i64 (qc zm zi) = (P'.length : Int) := by rw [e1, e3, hzm, hi, IntWalk.i64_in _ (by omega)]; omega
  by_cases hij : X'.length = Y'.length
  ·have h1 : qj zi zj = true := by rw [heq, hi, hj, hij]; exact beq_self_eq_true _
   have hsp := swapL_split P' X' [] Y' S' hij
   rw [List.nil_append, List.nil_append, ← hQ, he, List.length_nil, Nat.add_zero] at hsp
   have hsw := swap_s Q hQ5 P'.length (P'.length + X'.length) X'.length fid (by omega) (Nat.le_refl _) (by omega)
   rw [hsp, ← wp, hm, ← hzm, ← hi] at hsw
   rw [h1]
   cbv
   repeat ((with_reducible apply next_at hA); cbv)
   try simp (maxSteps := 4000000) only [nc] at *
   refine calls_at hA [0] hsw ⟨rfl, rfl, rfl, rfl, rfl, rfl, rfl⟩ ?_
   rintro res os2 ⟨rfl, rfl⟩
   cbv
   repeat ((with_reducible apply next_at hA); cbv)
   try simp (maxSteps := 4000000) only [nc] at *
   exact hK [] [.row false 85 M] ⟨rfl, rfl⟩
  ·have h1 : qj zi zj = false := by rw [heq, hi, hj, beq_eq_false_iff_ne]; omega
   rw [h1]
   cbv
   repeat ((with_reducible apply next_at hA); cbv)
   try simp (maxSteps := 4000000) only [nc] at *
   by_cases hlt : Y'.length < X'.length
   ·rw [decide_eq_true hlt] at hgt
    obtain ⟨X1, X2, hX, hX1⟩ := split_at (l := X') (n := Y'.length) (by omega)
    have hX2 : Y'.length + X2.length = X'.length := by rw [hX, List.length_append]; omega
    have hsp := swapL_split P' X1 X2 Y' S' hX1
    have hQ2 : P' ++ (X1 ++ (X2 ++ (Y' ++ S'))) = Q := by rw [hQ, hX]; simp only [List.append_assoc]
    rw [hQ2, hX1] at hsp
    have hsw := swap_s Q hQ5 P'.length (P'.length + Y'.length + X2.length) Y'.length fid (by omega) (by omega) (by omega)
    rw [hsp, show P'.length + Y'.length + X2.length = P.length + X.length by omega, ← wp, ← hzm, ← hj] at hsw
    rw [hgt]
    cbv
    repeat ((with_reducible apply next_at hA); cbv)
    try simp (maxSteps := 4000000) only [nc] at *
    refine calls_at hA [0] hsw ⟨rfl, rfl, rfl, rfl, rfl, rfl, rfl⟩ ?_
    rintro res os2 ⟨rfl, rfl⟩
    cbv
    repeat ((with_reducible apply next_at hA); cbv)
    try simp (maxSteps := 4000000) only [nc] at *
    have wz : qa .i64 (qc zi zj) = (X2.length : Int) := by rw [e1, e3, hi, hj, IntWalk.i64_in _ (by omega)]; omega
    have hmu : (qa .i64 (qc zi zj)).toNat + zj.toNat < zi.toNat + zj.toNat := by rw [wz, hi, hj]; omega
    refine ⟨(qa .i64 (qc zi zj), zj, P' ++ (Y' ++ (X2 ++ (X1 ++ S')))), ⟨P' ++ Y', X2, X1, S', by omega, by omega, by rw [List.length_append]; omega, wz, by rw [hX1]; exact hj, ?_, by simp only [List.append_assoc], ?_, ?_⟩, hmu, ?_⟩
    ·rw [← he, hX]; simp only [List.append_assoc]
    ·show (P' ++ (Y' ++ (X2 ++ (X1 ++ S')))).length = L.length
     rw [← hQl, ← hQ2]; simp only [List.length_append]; omega
    ·intro r hr
     refine hQ5 r ?_
     rw [← hQ2]
     simp only [List.mem_append] at hr ⊢
     grind
    ·cbv
   ·rw [decide_eq_false hlt] at hgt
    obtain ⟨Y1, Y2, hY, hY1⟩ := split_at (l := Y') (n := Y'.length - X'.length) (by omega)
    have hY2 : Y2.length = X'.length := by have := congrArg List.length hY; rw [List.length_append] at this; omega
    have hsp := swapL_split P' X' Y1 Y2 S' hY2.symm
    have hQ2 : P' ++ (X' ++ (Y1 ++ (Y2 ++ S'))) = Q := by rw [hQ, hY]; simp only [List.append_assoc]
    rw [hQ2] at hsp
    have hsw := swap_s Q hQ5 P'.length (P'.length + X'.length + Y1.length) X'.length fid (by omega) (by omega) (by omega)
    have wq : qa .i64 (qc (qa .i64 (qb zm zj)) zi) = ((P'.length + X'.length + Y1.length : Nat) : Int) := by
     have h2 : qa .i64 (qb zm zj) = ((P.length + X.length + Y'.length : Nat) : Int) := by rw [e1, e2, hzm, hj, IntWalk.i64_in _ (by omega)]; omega
     rw [h2, e1, e3, hi, IntWalk.i64_in _ (by omega)]; omega
    rw [hsp, ← wp, ← wq, ← hi] at hsw
    rw [hgt]
    cbv
    repeat ((with_reducible apply next_at hA); cbv)
    try simp (maxSteps := 4000000) only [nc] at *
    refine calls_at hA [0] hsw ⟨rfl, rfl, rfl, rfl, rfl, rfl, rfl⟩ ?_
    rintro res os2 ⟨rfl, rfl⟩
    cbv
    repeat ((with_reducible apply next_at hA); cbv)
    try simp (maxSteps := 4000000) only [nc] at *
    have wz : qa .i64 (qc zj zi) = (Y1.length : Int) := by rw [e1, e3, hi, hj, IntWalk.i64_in _ (by omega)]; omega
    have hmu : zi.toNat + (qa .i64 (qc zj zi)).toNat < zi.toNat + zj.toNat := by rw [wz, hi, hj]; omega
    refine ⟨(zi, qa .i64 (qc zj zi), P' ++ (Y2 ++ (Y1 ++ (X' ++ S')))), ⟨P', Y2, Y1, X' ++ S', by omega, by omega, by omega, by rw [hY2]; exact hi, wz, ?_, rfl, ?_, ?_⟩, hmu, ?_⟩
    ·rw [← he, hY]; simp only [List.append_assoc]
    ·show (P' ++ (Y2 ++ (Y1 ++ (X' ++ S')))).length = L.length
     rw [← hQl, ← hQ2]; simp only [List.length_append]; omega
    ·intro r hr
     refine hQ5 r ?_
     rw [← hQ2]
     simp only [List.mem_append] at hr ⊢
     grind
    ·cbv
end Go.Proofs.YtahpnackkmbmgaaGreatDoor.Vm
end
section
namespace Go.Proofs.YtahpnackkmbmgaaGreatDoor.Vm
open Go.RowKit
set_option maxRecDepth 100000
set_option maxHeartbeats 4000000
def cmpB (a b : List UInt8) : Int := if Op.bytesLess a b = true then -1 else if Op.bytesLess b a = true then 1 else 0
theorem cmpB_neg (a b : List UInt8) : decide (cmpB a b < 0) = Op.bytesLess a b := by
 unfold cmpB
 split
 ·simp_all
 ·split <;> simp_all
def CmpS (fid : Nat) : Prop := ∀ (n m : ByteArray) (x1 x2 x3 x4 y1 y2 y3 y4 : D), Spec fid [.ag [.sc (.string n), x1, x2, x3, x4], .ag [.sc (.string m), y1, y2, y3, y4]] [.one (.sc (.int .i64 (cmpB n.toList m.toList)))]
def Ok5 (x : Rw) : Prop := ∃ n x1 x2 x3 x4, x = [.sc (.string n), x1, x2, x3, x4]
theorem Ok5.len {x : Rw} (h : Ok5 x) : x.length = 5 := by obtain ⟨n, x1, x2, x3, x4, rfl⟩ := h; rfl
theorem sortS_snoc (l : List Rw) (x : Rw) {m : List Rw} (hs : Srt ltR m) (ht : Sta ltR m (sortS ltR l ++ [x])) : m = sortS ltR (l ++ [x]) := sort_is swoR hs (ht.trans (Sta.append (sort_sta swoR l) (.refl _)))
theorem insert_s (fid : Nat) (hc : CmpS fid) (P D S : List Rw) (h5 : ∀ x ∈ P ++ (D ++ S), Ok5 x) (hN : (P ++ (D ++ S)).length ≤ 1048576) :
  SpecS 121 [.own 0, vi .i64 P.length, vi .i64 (P.length + D.length : Nat), .cl fid []] [.row false 85 (P ++ (D ++ S))] (fun res os => res = [] ∧ os = [.row false 85 (P ++ (sortS ltR D ++ S))]) := by
 obtain ⟨za, hza⟩ : ∃ z : Int, z = (P.length : Int) := ⟨_, rfl⟩
 obtain ⟨zb, hzb⟩ : ∃ z : Int, z = ((P.length + D.length : Nat) : Int) := ⟨_, rfl⟩
 obtain ⟨L, hL⟩ : ∃ L, L = P ++ (D ++ S) := ⟨_, rfl⟩
 obtain ⟨M, hM⟩ : ∃ M, M = P ++ (sortS ltR D ++ S) := ⟨_, rfl⟩
 rw [← hza, ← hzb, ← hM, ← hL]
 rw [← hL] at h5 hN
 have hLl : L.length = P.length + D.length + S.length := by rw [hL]; simp only [List.length_append]; omega
 refine specs_of Tryz.func121 rfl (by kernel_rfl) (by kernel_rfl) (by kernel_rfl) rfl rfl (by rintro _ _ ⟨_, rfl⟩; rfl) fun qa qb qc qd qe qf qg qh qi qj qk ql qm qo qp qq qs qt qu qv qw qx qy qz va vc vd ve vf vg vh vj vk vl vm vn vo vp vq vr vt vu hA K hK => ?_
 cbv
 repeat ((with_reducible apply next_at hA); cbv)
 try simp (maxSteps := 4000000) only [nc] at *
 obtain ⟨e1, e2, e3, e4, e5, e6, e7, e8, e9⟩ := ar_at hA
 obtain ⟨r1, r2, r3, r4⟩ := row_at hA
 obtain ⟨m1, m2, m3, m4⟩ := map_at hA
 have wi : qa .i64 (qb za 1) = ((P.length + 1 + 0 : Nat) : Int) := by rw [e1, e2, hza, IntWalk.i64_in _ (by omega)]; omega
 refine loop_at hA (γ := Int × List Rw) (fun x => [(8, vi .i64 x.1)]) (fun x => [(0, .row false 85 x.2)])
  (fun x => ∃ k : Nat, x.1 = ((P.length + 1 + k : Nat) : Int) ∧ (k = 0 ∨ k + 1 ≤ D.length) ∧ x.2 = P ++ (sortS ltR (D.take (k + 1)) ++ (D.drop (k + 1) ++ S)) ∧ x.2.length = L.length ∧ ∀ r ∈ x.2, r ∈ L) (fun x => L.length + 1 - x.1.toNat) (qa .i64 (qb za 1), L) ?_ ?_ ?_
 ·refine ⟨0, wi, .inl rfl, ?_, rfl, fun r h => h⟩
  have : sortS ltR (D.take 1) = D.take 1 := by
   cases D with
   | nil => rfl
   | cons d D => rfl
  show L = _
  rw [this, hL, ← List.append_assoc (D.take 1), List.take_append_drop]
 ·cbv
 ·intro x hinv
  obtain ⟨z, Q⟩ := x
  cbv
  repeat ((with_reducible apply next_at hA); cbv)
  try simp (maxSteps := 4000000) only [nc] at *
  obtain ⟨k, hz, hk, hQ, hQl, hQm⟩ := hinv
  have hlt : qh z zb = decide (k + 1 < D.length) := by rw [e7, hz, hzb]; exact decide_eq_decide.2 (by omega)
  by_cases h9 : k + 1 < D.length
  ·rw [decide_eq_true h9] at hlt
   obtain ⟨x, hx⟩ : ∃ x, D[k + 1]? = some x := ⟨_, List.getElem?_eq_getElem h9⟩
   obtain ⟨hxi, hxe⟩ := List.getElem?_eq_some_iff.1 hx
   obtain ⟨D1, hD1⟩ : ∃ D1, D1 = D.take (k + 1) := ⟨_, rfl⟩
   obtain ⟨D2, hD2⟩ : ∃ D2, D2 = D.drop (k + 1 + 1) := ⟨_, rfl⟩
   have hdrop : D.drop (k + 1) = x :: D2 := by rw [hD2, List.drop_eq_getElem_cons hxi, hxe]
   have htake : D.take (k + 1 + 1) = D1 ++ [x] := by rw [hD1]; exact take_one hx
   rw [← hD1, hdrop] at hQ
   obtain ⟨E, hE⟩ : ∃ E, E = sortS ltR D1 := ⟨_, rfl⟩
   rw [← hE] at hQ
   have hEl : E.length = k + 1 := by rw [hE, sortS_len, hD1, List.length_take]; omega
   have hEs : Srt ltR E := by rw [hE]; exact sort_srt swoR D1
   have hxm : x ∈ L := hQm x (by rw [hQ]; simp)
   obtain ⟨nx, x1, x2, x3, x4, hxx⟩ := h5 x hxm
   rw [hlt]
   cbv
   repeat ((with_reducible apply next_at hA); cbv)
   try simp (maxSteps := 4000000) only [nc] at *
   refine loop_at hA (γ := Int × List Rw) (fun x => [(9, vi .i64 x.1)]) (fun x => [(0, .row false 85 x.2)])
    (fun y => ∃ L1 L2 : List Rw, y.1 = ((P.length + L1.length : Nat) : Int) ∧ E = L1 ++ L2 ∧ (∀ r ∈ L2, ltR x r = true) ∧ y.2 = P ++ (L1 ++ (x :: (L2 ++ (D2 ++ S)))) ∧ y.2.length = L.length ∧ ∀ r ∈ y.2, r ∈ L) (fun y => y.1.toNat) (z, Q) ?_ ?_ ?_
   ·exact ⟨E, [], by rw [hEl]; show z = _; rw [hz]; congr 1; omega, by simp, by simp, by rw [hQ]; simp, hQl, hQm⟩
   ·cbv
   ·intro y hinv
    obtain ⟨zj, N⟩ := y
    cbv
    repeat ((with_reducible apply next_at hA); cbv)
    try simp (maxSteps := 4000000) only [nc] at *
    obtain ⟨L1, L2, hj, hEE, hL2, hNN, hNl, hNm⟩ := hinv
    have hLAST := fun (h1 : ∀ y ∈ L1, ltR x y = false) => put_one_right swoR (x := x) (u1 := L1) (u2 := L2) (by rw [← hEE]; exact hEs) h1 hL2
    have hNl2 : N.length = P.length + L1.length + 1 + L2.length + D2.length + S.length := by rw [hNN]; simp only [List.length_append, List.length_cons]; omega
    have hz1 : qa .i64 (qb z 1) = ((P.length + 1 + (k + 1) : Nat) : Int) := by rw [e1, e2, hz, IntWalk.i64_in _ (by omega)]; omega
    have hmz : L.length + 1 - (qa .i64 (qb z 1)).toNat < L.length + 1 - z.toNat := by rw [hz1, hz]; omega
    have hdone : (∀ y ∈ L1, ltR x y = false) → N = P ++ (sortS ltR (D.take (k + 1 + 1)) ++ (D.drop (k + 1 + 1) ++ S)) := fun h => by
     obtain ⟨h1, h2⟩ := hLAST h
     have h3 : L1 ++ x :: L2 = sortS ltR (D1 ++ [x]) := sortS_snoc D1 x h1 (by rw [← hE, hEE]; exact h2)
     rw [htake, ← hD2, ← h3, hNN]
     simp
    rcases (show L1 = [] ∨ ∃ L y, L1 = L ++ [y] by simpa [List.concat_eq_append] using List.eq_nil_or_concat L1) with hnil | ⟨L0, y, hsn⟩
    ·have hlt2 : qh za zj = false := by rw [e7, hza, hj, hnil]; simp
     rw [hlt2]
     cbv
     repeat ((with_reducible apply next_at hA); cbv)
     try simp (maxSteps := 4000000) only [nc] at *
     refine ⟨(qa .i64 (qb z 1), N), ⟨k + 1, hz1, .inr h9, hdone (by rw [hnil]; simp), hNl, hNm⟩, hmz, ?_⟩
     cbv
    ·have hl1 : L1.length = L0.length + 1 := by rw [hsn]; simp
     have hlt2 : qh za zj = true := by rw [e7, hza, hj]; exact decide_eq_true (by omega)
     have hym : y ∈ L := hNm y (by rw [hNN, hsn]; simp)
     obtain ⟨ny, y1, y2, y3, y4, hyy⟩ := h5 y hym
     have wj : qa .i64 (qc zj 1) = ((P.length + L0.length : Nat) : Int) := by rw [e1, e3, hj, IntWalk.i64_in _ (by omega)]; omega
     have hNP : N = (P ++ L0) ++ y :: x :: (L2 ++ (D2 ++ S)) := by rw [hNN, hsn]; simp
     have hpl : (P ++ L0).length = P.length + L0.length := List.length_append
     have gx : qz N zj = some [.sc (.string nx), x1, x2, x3, x4] := by
      rw [r2, if_pos (by omega), hj, Int.toNat_natCast, hNP, List.getElem?_append_right (by omega), hpl, show P.length + L1.length - (P.length + L0.length) = 1 by omega, ← hxx]
      rfl
     have gy : qz N (qa .i64 (qc zj 1)) = some [.sc (.string ny), y1, y2, y3, y4] := by
      rw [wj, r2, if_pos (by omega), Int.toNat_natCast, hNP, List.getElem?_append_right (by omega), hpl, Nat.sub_self, ← hyy]
      rfl
     have gy2 : ∀ v, qz (vd N zj v) (qa .i64 (qc zj 1)) = some [.sc (.string ny), y1, y2, y3, y4] := fun v => by
      rw [← gy, r2, r2, m4, wj, hj, Int.toNat_natCast, Int.toNat_natCast, List.getElem?_set_ne (by omega)]
     have hcmp := hc nx ny x1 x2 x3 x4 y1 y2 y3 y4
     have hneg : qh (cmpB nx.toList ny.toList) 0 = ltR x y := by rw [e7, cmpB_neg, hxx, hyy]; rfl
     generalize cmpB nx.toList ny.toList = cv at *
     rw [hlt2]
     cbv
     repeat ((with_reducible apply next_at hA); cbv)
     try simp (maxSteps := 4000000) only [nc] at *
     repeat (first | (rw [gx]; cbv) | (rw [gy]; cbv) | (with_reducible apply next_at hA; cbv))
     refine calm_at hA _ hcmp ?_
     cbv
     cases hb : ltR x y
     ·rw [hb] at hneg
      rw [hneg]
      cbv
      repeat ((with_reducible apply next_at hA); cbv)
      try simp (maxSteps := 4000000) only [nc] at *
      refine ⟨(qa .i64 (qb z 1), N), ⟨k + 1, hz1, .inr h9, hdone ?_, hNl, hNm⟩, hmz, ?_⟩
      ·rw [hsn]
       exact all_le (by rw [← hsn]; exact (srt_append.1 (by rw [← hEE]; exact hEs)).1) hb
      ·cbv
     ·rw [hb] at hneg
      rw [hneg]
      cbv
      repeat ((with_reducible apply next_at hA); cbv)
      try simp (maxSteps := 4000000) only [nc] at *
      repeat (first | (rw [gx]; cbv) | (rw [gy]; cbv) | (rw [gy2]; cbv) | (with_reducible apply next_at hA; cbv))
      try simp only [nc] at *
      refine ⟨(qa .i64 (qc zj 1), vd (vd N zj [.sc (.string ny), y1, y2, y3, y4]) (qa .i64 (qc zj 1)) [.sc (.string nx), x1, x2, x3, x4]), ⟨L0, y :: L2, wj, by rw [hEE, hsn]; simp, ?_, ?_, ?_, ?_⟩, ?_, ?_⟩
      ·intro r hr
       rcases List.mem_cons.1 hr with rfl | hr
       ·exact hb
       ·exact hL2 r hr
      ·show vd (vd N zj _) _ _ = _
       rw [m4, m4, wj, hj, Int.toNat_natCast, Int.toNat_natCast, hNP, ← hxx, ← hyy, show P.length + L1.length = P.length + L0.length + 1 by omega, swap_adj _ _ _ _ hpl]
       simp
      ·show (vd (vd N zj _) _ _).length = _
       rw [m4, m4, List.length_set, List.length_set]
       exact hNl
      ·intro r hr
       have hr : r ∈ vd (vd N zj [.sc (.string ny), y1, y2, y3, y4]) (qa .i64 (qc zj 1)) [.sc (.string nx), x1, x2, x3, x4] := hr
       rw [m4, m4, ← hxx, ← hyy] at hr
       rcases List.mem_or_eq_of_mem_set hr with hr | rfl
       ·rcases List.mem_or_eq_of_mem_set hr with hr | rfl
        ·exact hNm r hr
        ·exact hym
       ·exact hxm
      ·show (qa .i64 (qc zj 1)).toNat < zj.toNat
       rw [wj, hj]
       omega
      ·cbv
  ·rw [decide_eq_false h9] at hlt
   rw [hlt]
   cbv
   repeat ((with_reducible apply next_at hA); cbv)
   try simp (maxSteps := 4000000) only [nc] at *
   have e : Q = M := by rw [hQ, hM, List.take_of_length_le (by omega), List.drop_eq_nil_of_le (by omega)]; rfl
   rw [e]
   exact hK [] [.row false 85 M] ⟨rfl, rfl⟩
end Go.Proofs.YtahpnackkmbmgaaGreatDoor.Vm
end

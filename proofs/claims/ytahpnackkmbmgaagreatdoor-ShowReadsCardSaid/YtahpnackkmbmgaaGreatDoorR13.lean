/- Part 13 of the proof: LTok4, LTokens, VTok, VRd, VEye1, ShBld, VItoa, SortLaw, VCanLaw, VShL, VDraw2, VDraw3, VSh1, VShB, VFld, VSh2, VSh3, VRFields, VRFieldsO, VSLaw, VSort1, VSort2. Conditions: none. -/
import Derived.Test.YtahpnackkmbmgaaGreatDoorR1
import Derived.Test.YtahpnackkmbmgaaGreatDoorR3
import Derived.Test.YtahpnackkmbmgaaGreatDoorR7
import Derived.Test.YtahpnackkmbmgaaGreatDoorR12
import Derived.IntWalk
import Derived.Shelf.Strings.Builder1
import Derived.Shelf.Small.Strs
import Derived.Shelf.Strconv.Itoa0
import Derived.Shelf.Strconv.Itoa1
import Derived.Shelf.LaysM
import Derived.Shelf.Strconv.Itoa2
import Derived.Shelf.Strconv.Itoa3
import Derived.Test.YtahpnackkmbmgaaGreatDoorProg
import Derived.Lib.ItoaNum
import Derived.Lib.ItoaLen
set_option linter.all false
set_option linter.unusedVariables false
set_option linter.unusedSimpArgs false
section
namespace Go.Proofs.YtahpnackkmbmgaaGreatDoor
open Go.RowKit
section
theorem token_any (g len cap a:Nat) (A:Option Addr) (l:List Int) (w:World) (hl:l.length = len) (hcap:len ≤ cap) (hm:len ≤ 9223372036854775807) (hb:Byt l) (hs:SliceAt w .u8 A l) (hne:∀ b off,A = some ⟨b,off,none⟩ → l ≠ [] → b ≠ g)
  (hg:Scn w g A len cap a) (ha:a < len) (hbl:blankB (gb l a) = false) (h35:gb l a ≠ 35) :
  Calls Tryz.prog 55 #[.pointer (some ⟨g,0,none⟩)] w (TokLeft w g A len cap a l):=by
 obtain ⟨b,off,rfl,hlb,hc⟩:=hs.cells (by omega)
 cases hr:runsB (gb l a)
 ·by_cases hz:signS (l.drop a) = 0
  ·exact token_none g len cap a b off l w hl hcap hm hb hc hlb hg ha hbl h35 hr hz
  ·exact token_sign g len cap a b off l w hl hcap hm hb hc hlb hg ha hbl h35 hr hz
 ·exact token_run g len cap a b off l w hl hcap hm hb hc hlb (hne b off rfl (by rintro rfl;simp at hl;omega)) hg ha hr
def OwnT (w:World) (base:Nat) (v:Value) (ts:List Tok):Prop:=w.ownsRow base 47 4 v ts.length (ts.flatMap Tok.cells)
section
variable {w w':World} {base:Nat} {v:Value} {ts:List Tok}
theorem OwnT.below (h:OwnT w base v ts) (hb:Below w.heap.size w w'):OwnT w' base v ts:=by
 refine ⟨h.1,?_⟩
 rcases h.2 with h2 | ⟨g,cap,cur,hv,hg,hh,r⟩
 ·exact .inl h2
 ·exact .inr ⟨g,cap,cur,hv,hg,(hb.block g (Array.getElem?_eq_some_iff.1 hh).1).trans hh,r⟩
theorem OwnT.kept {row:Option Nat} (h:OwnT w base v ts) (hg:w.grownBy w' row) (hne:v.ownBlock = none ∨ v.ownBlock ≠ row):OwnT w' base v ts:=World.ownsRow.kept h hg hne
theorem OwnT.nil (w:World) (base:Nat):OwnT w base (.slice none 0 0) []:=World.ownsRow_nil _ _ _ _
theorem OwnT.alloc (h:OwnT w base v ts) (o:Obj):OwnT (w.alloc o) base v ts:=World.ownsRow.alloc h o
theorem OwnT.one {t:Tok} (h:w'.ownsRow base 47 4 v (ts.length + 1) (ts.flatMap Tok.cells ++ t.cells)):OwnT w' base v (ts ++ [t]):=by
 unfold OwnT
 rw [List.length_append,List.flatMap_append]
 simpa using h
theorem OwnT.mono {base':Nat} (h:OwnT w base v ts) (hb:base' ≤ base):OwnT w base' v ts:=by
 refine ⟨h.1,?_⟩
 rcases h.2 with h2 | ⟨g,cap,cur,hv,hg,r⟩
 ·exact .inl h2
 ·exact .inr ⟨g,cap,cur,hv,by omega,r⟩
end
end
theorem tok_info:(Tryz.prog.info? 47).map (fun i=>(i.zero,i.size,i.bytes)) = some (some (.agg #[.int .u8 0,.string ⟨#[]⟩,.int .i64 0,.int .i64 0]),4,40):=by kernel_rfl
def TksTold (k:IntKind) (l:List Int) (w:World) (e:Ending) (w':World):Prop :=
 ∃ v,e = .returned (.tuple #[v,.int .i64 (scanS l 0 false []).2.1,.int k (scanS l 0 false []).2.2]) ∧ OwnT w' w.heap.size v (scanS l 0 false []).1 ∧ Below w.heap.size w w'
theorem tks_of {k:IntKind} {l:List Int} {w w':World} {e:Ending} {v:Value} {ts:List Tok} {p c:Int} (h:scanS l 0 false [] = (ts,p,c)) (he:e = .returned (.tuple #[v,.int .i64 p,.int k c])) (ho:OwnT w' w.heap.size v ts) (hb:Below w.heap.size w w'):TksTold k l w e w':=by
 unfold TksTold
 rw [h]
 exact ⟨v,he,ho,hb⟩
set_option maxRecDepth 100000 in
set_option maxHeartbeats 4000000 in
theorem Tokens_any (A:Option Addr) (len cap:Nat) (l:List Int) (w:World) (hl:l.length = len) (hcap:len ≤ cap) (hm:len ≤ 9223372036854775807) (hb:Byt l) (hs:SliceAt w .u8 A l) (hmax:len ≤ 65536) :
  Calls Tryz.prog 32 #[.slice A len cap] w (TksTold .u8 l w):=by
 have hne:∀ b off,A = some ⟨b,off,none⟩ → l ≠ [] → b ≠ w.heap.size:=by
  rintro b off rfl hn
  rcases hs with h | ⟨b',off',h,hlt,_⟩
  ·exact absurd h hn
  ·injection h with h
   injection h with h
   omega
 have h6':(len:Int) ≤ 65536:=by omega
 have h6'':¬ (65536:Int) < (len:Int):=by omega
 obtain ⟨i0,hi,hz0,hz1,hz2⟩:=info_parts tok_info
 have HL:=Lib.hid hl
 have HB:=Lib.hid hb
 have HS:=Lib.hid hs
 have HNE:=Lib.hid hne
 clear hl hb hs hne
 go_enter Tryz.func32,Tryz.ntmps32
 go_wp2_with fail
 have CB:=fun a wr hs hg ha=>Lib.hid (blanks_any w.heap.size len cap a A l wr HL.out hcap hm HB.out hs HNE.out hg ha)
 have CT:=fun a wr hs hg ha h1 h2=>Lib.hid (token_any w.heap.size len cap a A l wr HL.out hcap hm HB.out hs HNE.out hg ha h1 h2)
 go_loopg [6] len (fun n v wr=>∃ (k:Nat) (ts:List Tok),n = len - k ∧ k ≤ len ∧ ts.length ≤ k ∧ scanS l 0 false [] = scanS l k false ts ∧ Below w.heap.size w wr ∧ w.heap.size + 1 ≤ wr.heap.size ∧ Scn wr w.heap.size A len cap k ∧ OwnT wr (w.heap.size + 1) v ts)
 case atStart=>exact ⟨0,[],by omega,Nat.zero_le _,Nat.le_refl _,rfl,(Below.refl _ _).alloc (Nat.le_refl _) _,by simp,Blk.new _ _ _,OwnT.nil _ _⟩
 case round =>
  obtain ⟨k,ts,rfl,hk,htl,hE,hbel,hsz,hg,ho⟩:=hrel
  have HE:=Lib.hid hE
  have HW:=Lib.hid hbel
  have HO:=Lib.hid ho
  have CBB:=CB k wr (HS.out.below_all hbel) hg hk
  clear hE hbel hg ho CB
  go_wp2_with fail
  refine CBB.out.mono ?_
  rintro e w1 ⟨a',ok,rfl,h1,h2,h3,h4,h5,h6,h7⟩
  have hb1:Below w.heap.size w w1:=HW.out.grown h5 (by omega) (fun k hk=>by injection hk with hk;omega)
  have ho1:OwnT w1 (w.heap.size + 1) u6 ts:=HO.out.kept h5 (by
   right
   intro h
   have:=World.ownsRow.lt HO.out _ h
   omega)
  have HB1:=Lib.hid hb1
  have HO1:=Lib.hid ho1
  have H3:=Lib.hid h3
  have H4:=Lib.hid h4
  have H7:=Lib.hid h7
  have hsz1:w.heap.size + 1 ≤ w1.heap.size:=by omega
  obtain ⟨kc0,kc1,kf⟩:=h7.cells
  clear h3 h4 h5 h6 h7 CBB hb1 ho1 HO
  cases ok
  ·go_wp2_with fail
   go_quiet (fail)
   go_wp2_with fail
   refine bodyPost_ret (v:=.tuple #[.slice none 0 0,.int .i64 (a':Int),.int .u8 3]) (by simp [results,Tryz.results32,go_sem]) rfl ?_
   exact tks_of (HE.out.trans (H4.out (by trivial) ts)) rfl (OwnT.nil _ _) (below_drewN HB1.out _)
  ·by_cases hend:a' = len
   ·have e1:((a':Int) == (len:Int)) = true:=by rw [hend];exact beq_self_eq_true _
    have e2:((a' == len) = true):=by rw [hend];exact beq_self_eq_true _
    have hsc:scanS l 0 false [] = (ts ++ [⟨4,⟨#[]⟩,0,a'⟩],0,0):=by
     rw [HE.out,(H3.out (by trivial)).2 ts,scan_end (by rw [HL.out];omega),HL.out,hend]
    have HSC:=Lib.hid hsc
    have HEND:=Lib.hid hend
    clear hsc hend CT
    go_wp2_with (at_builtin;refine wpList_append_own _ rfl _ _ 39 rfl (w.heap.size + 1) 47 i0 _ 4 40 Tryz.underlying39 hi hz0 hz1 hz2 rfl (by decide) _ _ _ rfl (OwnT.alloc HO1.out _) ⟨w1.heap.size,0,none⟩ 1 1 (Tok.cells ⟨4,⟨#[]⟩,0,a'⟩) rfl rfl ?c1 ?c2 ?c3 ?c4 ?c5 ?_)
    case c1 =>
     intro j u hj
     match j,hj with
     | 0,hj=>simp [Tok.cells] at hj;subst hj;simp [Addr.add]
     | 1,hj=>simp [Tok.cells] at hj;subst hj;simp [Addr.add]
     | 2,hj=>simp [Tok.cells] at hj;subst hj;simp [Addr.add]
     | 3,hj=>simp [Tok.cells] at hj;subst hj;simp [Addr.add]
    case c2=>intro u hu;simp [Tok.cells] at hu;rcases hu with rfl | rfl | rfl | rfl <;> rfl
    case c3=>unfold maxLen;omega
    case c4=>omega
    case c5=>first | omega | (simp;omega)
    intro v' w2 hown' hgrow _
    have ho2:=Lib.hid ((OwnT.one hown').mono (Nat.le_succ _))
    have hb2:=Lib.hid ((HB1.out.alloc (by omega) _).grown hgrow (by first | omega | (simp;omega)) (fun k hk=>Nat.le_trans (Nat.le_succ _) (World.ownsRow.lt HO1.out k hk).1))
    clear hown' hgrow
    go_wp2_with fail
    refine bodyPost_ret (v:=.tuple #[_,.int .i64 0,.int .u8 0]) (by simp [results,Tryz.results32,go_sem];rfl) rfl ?_
    exact tks_of HSC.out rfl ho2.out hb2.out
   ·have e1:((a':Int) == (len:Int)) = false:=by rw [beq_eq_false_iff_ne];omega
    have e2:((a' == len) = false):=by rw [beq_eq_false_iff_ne];omega
    have hx:=(H3.out (by trivial)).1 (by omega)
    have CTT:=CT a' w1 (HS.out.below_all HB1.out) H7.out (by omega) hx.1 hx.2
    clear CT hx
    have HLT:=Lib.hid (show a' < len by omega)
    go_wp2_with fail
    refine CTT.out.mono ?_
    rintro e w2 ⟨⟨kd,tx,n,at_⟩,c,a2,rfl,q1,q2,q3,q4,q5⟩
    simp only [Tok.val]
    have hb2:Below w.heap.size w w2:=HB1.out.grown q4 (by omega) (fun k hk=>by injection hk with hk;omega)
    have ho2:OwnT w2 (w.heap.size + 1) u6 ts:=HO1.out.kept q4 (by
     right
     intro h
     have:=World.ownsRow.lt HO1.out _ h
     omega)
    have hsz2:w.heap.size + 1 ≤ w2.heap.size:=Nat.le_trans hsz1 q4.size
    have HB2:=Lib.hid hb2
    have HO2:=Lib.hid ho2
    have Q2:=Lib.hid q2
    have Q3:=Lib.hid q3
    have Q5:=Lib.hid (q5.alloc (.cells #[.int .u8 kd,.string tx,.int .i64 n,.int .i64 at_] 47))
    obtain ⟨kd0,kd1,_⟩:=q5.cells
    have hgl:w.heap.size < w2.heap.size:=by omega
    clear q2 q3 q4 q5 hb2 ho2 kc0 kc1 kf
    by_cases hc:c = 0
    ·subst hc
     have Q2':=Lib.hid (Q2.out rfl)
     go_wp2_with (at_builtin;refine wpList_append_own _ rfl _ _ 39 rfl (w.heap.size + 1) 47 i0 _ 4 40 Tryz.underlying39 hi hz0 hz1 hz2 rfl (by decide) _ _ _ rfl (OwnT.alloc (OwnT.alloc HO2.out _) _) ⟨w2.heap.size + 1,0,none⟩ 1 1 (Tok.cells ⟨kd,tx,n,at_⟩) rfl rfl ?c1 ?c2 ?c3 ?c4 ?c5 ?_)
     case c1 =>
      intro j u hj
      match j,hj with
      | 0,hj=>simp [Tok.cells] at hj;subst hj;simp
      | 1,hj=>simp [Tok.cells] at hj;subst hj;simp
      | 2,hj=>simp [Tok.cells] at hj;subst hj;simp
      | 3,hj=>simp [Tok.cells] at hj;subst hj;simp
     case c2=>intro u hu;simp [Tok.cells] at hu;rcases hu with rfl | rfl | rfl | rfl <;> rfl
     case c3=>unfold maxLen;omega
     case c4=>omega
     case c5=>first | omega | (simp;omega)
     intro v' w3 hown' hgrow _
     have ho3:=Lib.hid (OwnT.one hown')
     have hb3:=Lib.hid (((HB2.out.alloc (by omega) _).alloc (by first | omega | (simp;omega)) _).grown hgrow (by first | omega | (simp;omega)) (fun k hk=>Nat.le_trans (Nat.le_succ _) (World.ownsRow.lt HO2.out k hk).1))
     have hs3:=Lib.hid (show w.heap.size + 1 ≤ w3.heap.size by have:=hgrow.size;(try simp at this);omega)
     have hq3:Scn w3 w.heap.size A len cap a2:=Blk.grown (Blk.alloc Q5.out _) hgrow (by
      intro h
      have:=World.ownsRow.lt HO2.out _ h.symm
      omega)
     have HQ3:=Lib.hid hq3
     clear hown' hgrow hq3
     go_wp2_with fail
     go_roundg (len - a2)
     case measure=>have:=HLT.out;have:=Q2'.out.1;omega
     case rel=>exact ⟨a2,ts ++ [⟨kd,tx,n,at_⟩],rfl,q1,by (have:=Q2'.out.1;simp;omega),by rw [HE.out,(H3.out (by trivial)).2 ts,Q2'.out.2 ts],hb3.out,hs3.out,HQ3.out,ho3.out⟩
    ·have g0:(c != 0) = true:=bne_iff_ne.2 hc
     have Q3':=Lib.hid (Q3.out hc)
     go_wp2_with fail
     go_quiet (fail)
     go_wp2_with fail
     refine bodyPost_ret (v:=.tuple #[.slice none 0 0,.int .i64 (a2:Int),.int .u8 c]) (by simp [results,Tryz.results32,go_sem]) rfl ?_
     exact tks_of (HE.out.trans (((H3.out (by trivial)).2 ts).trans (Q3'.out ts))) rfl (OwnT.nil _ _) (below_drewN (HB2.out.alloc (by omega) _) _)
end Go.Proofs.YtahpnackkmbmgaaGreatDoor
end
section
namespace Go.Proofs.YtahpnackkmbmgaaGreatDoor.Vm
open Go.RowKit
def tkD (t:Tok):List D:=[.sc (.int .u8 t.kind),.sc (.string t.text),.sc (.int .i64 t.n),.sc (.int .i64 t.at_)]
def rTk (ts:List Tok):List (List D):=ts.map tkD
def numsU (l:List UInt8):List Int:=l.map fun c=>(c.toNat:Int)
theorem rTk_len (ts:List Tok):(rTk ts).length = ts.length:=by unfold rTk;rw [List.length_map]
theorem rTk_get {ts:List Tok} {k:Nat} {t:Tok} (h:ts[k]? = some t):(rTk ts)[k]? = some (tkD t):=by unfold rTk;rw [List.getElem?_map,h];rfl
theorem gb_nums (l:List UInt8) (i:Nat) (c:UInt8) (h:l[i]? = some c):gb (numsU l) i = (c.toNat:Int):=by
 unfold gb numsU
 rw [List.getD_eq_getElem?_getD,List.getElem?_map,h]
 rfl
theorem byt_nums (l:List UInt8):Byt (numsU l):=fun x hx=>by
 unfold numsU at hx
 obtain ⟨c,_,rfl⟩:=List.mem_map.1 hx
 have:=c.toNat_lt
 omega
theorem tks_at_ds {I:Nat → Nat → Prop} {w:World}:∀ ts:List Tok,AtDs I w (ts.flatMap Tok.cells) (rTk ts).flatten
 | []=>.nil I w
 | t :: ts=>.cons (.sc _ rfl) (.cons (.sc _ rfl) (.cons (.sc _ rfl) (.cons (.sc _ rfl) (tks_at_ds ts))))
theorem toks_spec {f:Nat} {k:IntKind} (l:List UInt8) (hf:fnOk Tryz.prog f = true) (h:∀ (A:Option Addr) (cap:Nat) (w:World),l.length ≤ cap → SliceAt w .u8 A (numsU l) → Calls Tryz.prog f #[.slice A l.length cap] w (TksTold k (numsU l) w)) :
  Spec f [.one (.sl 1 (rU l))] [.one (.sl 4 (rTk (scanS (numsU l) 0 false []).1)),.one (.sc (.int .i64 (scanS (numsU l) 0 false []).2.1)),.one (.sc (.int k (scanS (numsU l) 0 false []).2.2))]:=by
 refine ⟨hf,fun I w args hI hat=>?_⟩
 match args,hat with
 | [v1],⟨h1,_⟩ =>
  have h1:AtD I w v1 (.sl 1 (rU l)):=h1
  obtain ⟨A,cap,rfl,hcap,hrows⟩:=h1.slice
  rw [rU_len] at hcap
  rw [rU_len]
  have hs:SliceAt w .u8 A (numsU l):=by
   rcases hrows with h0 | ⟨b,off,us,rfl,hup,hr,hlen,hc,hd⟩
   ·have:l = []:=by
     have:=congrArg List.length h0
     rw [rU_len] at this
     exact List.eq_nil_of_length_eq_zero this
    subst this
    exact .inl rfl
   ·by_cases hl:l = []
    ·subst hl;exact .inl rfl
    have hus:=row_cells l hd
    obtain ⟨hh,_,hib⟩:=hup
    refine .inr ⟨b,off,rfl,hI.1 _ _ hib,fun i hi=>?_⟩
    have hi':i < l.length:=by unfold numsU at hi;rw [List.length_map] at hi;exact hi
    have hg:l[i]? = some l[i]:=List.getElem?_eq_getElem hi'
    rw [hc i (.int .u8 (l[i].toNat:Int)) (by rw [hus,List.getElem?_map,hg];rfl),gb_nums l i _ hg]
  refine (h A cap w hcap hs).mono ?_
  rintro e w' ⟨v,rfl,ho,hb⟩
  refine ⟨_,rfl,?_,hb⟩
  refine ⟨[v,.int .i64 (scanS (numsU l) 0 false []).2.1,.int k (scanS (numsU l) 0 false []).2.2],rfl,?_,⟨.sc _ rfl,⟨.sc _ rfl,trivial⟩⟩⟩
  show AtD (nxt I w w') w' v (.sl 4 (rTk (scanS (numsU l) 0 false []).1))
  generalize (scanS (numsU l) 0 false []).1 = ts at *
  rcases ho.2 with ⟨e0,hz⟩ | ⟨g,cap',cur,e0,hbase,hg,hnc,hcm,hcs,htake⟩
  ·have:ts = []:=List.eq_nil_of_length_eq_zero hz
   subst this
   rw [e0]
   exact .nil _ _ _
  ·rw [e0,← rTk_len]
   refine .sl g 0 cap' 4 (rTk ts) (ts.flatMap Tok.cells) (by rw [rTk_len];exact hnc) ⟨_,Nat.le_refl _,.inr ⟨hbase,(Array.getElem?_eq_some_iff.1 hg).1⟩⟩ (fun r hr=>?_) ?_ (fun i u hu=>?_) ((tks_at_ds ts).2)
   ·unfold rTk at hr
    obtain ⟨t,_,rfl⟩:=List.mem_map.1 hr
    rfl
   ·rw [rTk_len];exact ho.1
   ·rw [Nat.zero_add,cell_get hg]
    have h5:(cur.toList.take (ts.length * 4))[i]? = some u:=by rw [htake];exact hu
    rw [List.getElem?_take] at h5
    split at h5
    ·simpa using h5
    ·cases h5
theorem Tokens_s (l:List UInt8) (hl:l.length ≤ 65536):Spec 32 [.one (.sl 1 (rU l))] [.one (.sl 4 (rTk (scanS (numsU l) 0 false []).1)),.one (.sc (.int .i64 (scanS (numsU l) 0 false []).2.1)),.one (.sc (.int .u8 (scanS (numsU l) 0 false []).2.2))] :=
 toks_spec l (by kernel_rfl) fun A cap w hcap hs=>Tokens_any A l.length cap (numsU l) w (by unfold numsU;rw [List.length_map]) hcap (by omega) (byt_nums l) hs hl
section
def plainO:List O → Bool
 | []=>true
 | .box _ :: l=>plainO l
 | .row _ _ _ :: l=>plainO l
 | .mp _ _ :: l=>plainO l
 | _=>false
theorem plainO_at:∀ {l:List O},plainO l = true → ∀ {i:Nat} {o:O},l[i]? = some o → (∃ cs,o = .box cs) ∨ (∃ z e r,o = .row z e r) ∨ ∃ k es,o = .mp k es
 | [],_,i,o,h=>by simp at h
 | x :: l,hp,i,o,h=>by
  cases x with
  | box cs=>cases i with
   | zero=>simp at h;exact .inl ⟨cs,h.symm⟩
   | succ i=>exact plainO_at (l:=l) hp (i:=i) (by simpa using h)
  | row z e r=>cases i with
   | zero=>simp at h;exact .inr (.inl ⟨z,e,r,h.symm⟩)
   | succ i=>exact plainO_at (l:=l) hp (i:=i) (by simpa using h)
  | mp k es=>cases i with
   | zero=>simp at h;exact .inr (.inr ⟨k,es,h.symm⟩)
   | succ i=>exact plainO_at (l:=l) hp (i:=i) (by simpa using h)
  | _=>cases hp
def selfK (k:Nat):Option O → V
 | some (.row _ _ _)=>.own k
 | _=>.jk
def selfV (os:List O):List V:=(List.range os.length).map fun k=>selfK k os[k]?
theorem specs_of_sound {f:Nat} {vs:List V} {os:List O} {Q:List V → Prop} (hos:plainO os = true) (h:SoundO f vs os fun x o' ks=>ks = [] ∧ o' = os ∧ ∃ res,x = pkgV res ∧ Q res):SpecS f vs os (fun res o2=>Q res ∧ o2 = os):=by
 refine ⟨h.1,fun I w g args hrel=>?_⟩
 have hargs:AtVs I w g args vs:=hrel.tmp
 have hself:AtVs I w g ((List.range os.length).map fun k=>gv (g k)) (selfV os):=by
  refine ⟨by unfold selfV;simp,fun i u c hu hc=>?_⟩
  unfold selfV at hc
  rw [List.getElem?_map] at hu hc
  cases hr:(List.range os.length)[i]? with
  | none=>rw [hr] at hu;cases hu
  | some k =>
   rw [hr] at hu hc
   simp only [Option.map_some,Option.some.injEq] at hu hc
   subst hu
   subst hc
   have hk:k < os.length:=by
    have:=List.mem_of_getElem? hr
    simpa using this
   cases ho:os[k]? with
   | none=>exact AtV.jk _
   | some o =>
    cases o with
    | row z e rows =>
     obtain ⟨us,hw,_⟩:=hrel.obj k _ ho
     have e:=own_gv hw
     obtain ⟨A,cap,hs⟩:=own_slice hw
     show AtV I w g (gv (g k)) (.own k)
     rw [e,hs]
     exact .own _ _ _ _ (by rw [e,hs])
    | box cs=>exact AtV.jk _
    | mp kt es=>exact AtV.jk _
    | kl js=>exact AtV.jk _
    | it P=>exact AtV.jk _
    | ob T vs=>exact AtV.jk _
    | dead=>exact AtV.jk _
 have hrel':RelI I (Xof g os) ⟨w,g,os.length,[]⟩ I g ⟨vs ++ selfV os,os⟩ { tmps:=(args ++ (List.range os.length).map fun k=>gv (g k)).toArray,defers:=[] } w :=
  ⟨hrel.im,hrel.lt,hrel.fr,hrel.kp,hrel.lo,hrel.st,hrel.obj,hrel.dis,hrel.out,hargs.append hself,rfl,hrel.dfr.2⟩
 refine (h.2 I (Xof g os) ⟨w,g,os.length,[]⟩ I g _ _ w args hrel' hargs).mono ?_
 rintro e w' ⟨v,x,o',ks,I',g',rfl,h',hv,rfl,rfl,res,rfl,hQ⟩
 obtain ⟨us,rfl,hus⟩:=unpkg hv
 refine ⟨us,res,_,I',g',rfl,⟨⟨hQ,rfl⟩,fun i hi=>?_⟩,⟨h'.im,h'.lt,h'.fr,h'.kp,h'.lo,h'.st,h'.obj,h'.dis,h'.out,hus,rfl,h'.dfr.2⟩⟩
 have ho:o'[i]? = some o'[i]:=List.getElem?_eq_getElem hi
 rcases plainO_at hos ho with ⟨cs,e⟩ | ⟨z,et,r,e⟩ | ⟨k,es,e⟩
 ·rw [e] at ho
  obtain ⟨b,us,t,h1,_⟩:=hrel.obj i _ ho
  exact h'.st i hi (by show isRef (g i) = true;rw [h1];rfl)
 ·rw [e] at ho
  obtain ⟨us1,hw1,_⟩:=hrel.obj i _ ho
  obtain ⟨us2,hw2,_⟩:=h'.obj i _ ho
  have e2:AtVs I' w' g' (args ++ (List.range o'.length).map fun k=>gv (g k)) (vs ++ selfV o'):=h'.tmp
  have e3:=e2.2 (args.length + i) (gv (g i)) (.own i) (by rw [List.getElem?_append_right (by omega)];simp [hi]) (by
   rw [hargs.1,List.getElem?_append_right (by omega)]
   unfold selfV
   simp [hi,e,selfK])
  rw [← own_gv hw1,← own_gv hw2]
  exact e3.unown.1.symm
 ·rw [e] at ho
  obtain ⟨b,us,t,h1,_⟩:=hrel.obj i _ ho
  exact h'.st i hi (by show isRef (g i) = true;rw [h1];rfl)
def coerV (os:List O) (x:V):V:=match toR os x with | some r=>resR r | none=>x
def coerL (os:List O):List V → List V
 | []=>[]
 | x :: l=>coerV os x :: coerL os l
theorem coer_at {I0:Nat → Nat → Prop} {X:Nat → Prop} {w0:W0} {I:Nat → Nat → Prop} {g:Nat → Value} {s:S} {a:Act} {w:World} (h:RelI I0 X w0 I g s a w):∀ {us:List Value} {vs:List V},AtVs I w g us vs → AtVs I w g us (coerL s.o vs)
 | us,[],hv=>hv
 | us,x :: vs,hv=>by
  obtain ⟨u,us',rfl,h1,h2⟩:=hv.uncons
  refine .cons ?_ (coer_at h h2)
  unfold coerV
  split
  ·rename_i r hr
   exact resR_at g (toR_at h h1 hr)
  ·exact h1
def doneR (n:Nat) (K:List V → List O → Prop) (res:List V) (s:S):Prop:=match getO (trimK 0 s.o) n with
 | .kl []=>match low3 n (pkgV (coerL s.o res)) with | true=>K (coerL s.o res) (takeO n (trimK 0 s.o)) | false=>False
 | _=>False
def retR (a:Ar) (n:Nat) (K:List V → List O → Prop) (l:List ResultVar):Vm.X → S → Prop
 | .exit _,_=>False
 | .normal,s=>resO a s l (fun vs=>doneR n K vs s)
 | .ret,s=>resO a s l (fun vs=>doneR n K vs s)
theorem rin_ok {f:Nat} {fn:Func} {c:Code} {vs:List V} {o:List O} {Q:List V → Prop} (ho:plainO o = true) (hf:Tryz.prog.funcs[f]? = some fn) (hb:fn.body = some c) (hn:(fn.name != "runtime.NumGoroutine") = true) (hc:okCode Tryz.prog c = true) (hr:okRes fn.results.toList = true)
  (h:exec real c (startI vs o (fn.ntmps - lenL vs)) (fun x s=>retR real (lenO o) (fun res o'=>o' = o ∧ Q res) fn.results.toList x s)):SoundO f vs o fun x o' ks=>ks = [] ∧ o' = o ∧ ∃ res,x = pkgV res ∧ Q res:=by
 refine ⟨by unfold fnOk;rw [hf];simp only [hn,hb];rfl,?_⟩
 intro I0 X w0 I g t a w us hrel hv
 refine calls_of_wp hf hb ?_
 have hsz:us.toArray.size = lenL vs:=by rw [lenL_is];simp [hv.1]
 rw [hsz]
 obtain ⟨g',hg,hgn,h1⟩:=hrel.rebase hv
 have hstart:RelI I (Xof g' (snocO o (.kl []))) ⟨w,g',o.length + 1,[]⟩ I g' (startI vs o (fn.ntmps - lenL vs)) { tmps:=us.toArray ++ Array.replicate (fn.ntmps - lenL vs) undef,defers:=[] } w:=by
  refine ⟨h1.im,h1.lt,h1.fr,h1.kp,h1.lo,h1.st,h1.obj,h1.dis,h1.out,?_,rfl,h1.dfr.2⟩
  show AtVs I w _ (us.toArray ++ Array.replicate (fn.ntmps - lenL vs) undef).toList (appV vs (uns (fn.ntmps - lenL vs)))
  rw [appV_is,Array.toList_append,uns_is]
  refine AtVs.append h1.tmp ?_
  rw [Array.toList_replicate]
  refine ⟨by simp,fun i u c hu hc=>?_⟩
  rw [List.getElem?_replicate] at hu hc
  split at hu
  ·rename_i hi
   rw [if_pos hi] at hc
   injection hu with hu
   injection hc with hc
   subst hu;subst hc
   exact .tu [] [] rfl fun i u c hu _=>by simp at hu
  ·cases hu
 refine exec_ok c _ _ _ _ _ hc ⟨I,_,hstart⟩ h fun e s' a' w' hrel2 hk=>?_
 have key:resO real s' fn.results.toList (fun res=>doneR (lenO o) (fun res o'=>o' = o ∧ Q res) res s') → a'.defers = [] ∧ ∃ v,(results fn a'.tmps).run Tryz.prog w' = .ok v w' ∧ ∃ v' x o' ks I' g',Ending.returned v = .returned v' ∧ RelI I0 X w0 I' g' ⟨killTs ks t,o'⟩ a w' ∧ AtV I' w' g' v' x ∧ ks = [] ∧ o' = o ∧ ∃ res,x = pkgV res ∧ Q res:=fun hk=>by
  obtain ⟨I2,g2,h2⟩:=hrel2
  obtain ⟨us2,res,r1,r2,r3⟩:=resultsO_at h2 hr hk
  unfold doneR at r3
  split at r3 <;> try exact r3.elim
  rename_i hks
  split at r3 <;> try exact r3.elim
  rename_i hlow
  obtain ⟨r4,hQ⟩:=r3
  have hks':=getO_some hks (by simp)
  rw [lenO_is] at hks' r4 hlow
  rw [takeO_is] at r4
  have h2':=h2.trimKl
  obtain ⟨hcut,h3⟩:=hrel.unbase hg hgn h2' hks'
  have e:((trimK 0 s'.o).set o.length .dead).take o.length = o:=by
   rw [List.take_set_of_le (Nat.le_refl _),r4]
  have h4:=h3.trim (n:=o.length) hrel.lo (by show o.length ≤ ((trimK 0 s'.o).set _ _).length;rw [List.length_set,trimK_len];have:=h2.lo;show o.length ≤ s'.o.length;have h5:o.length + 1 ≤ s'.o.length:=h2.lo;omega) hcut (by show lowO _ (((trimK 0 s'.o).set _ _).take _) = true;rw [e];have:=hrel.low;exact this)
  have h5:(⟨killTs [] t,((trimK 0 s'.o).set o.length .dead).take o.length⟩:S) = ⟨t,o⟩:=by rw [e];rfl
  refine ⟨h2.dfr.1,_,r1,pkg us2,pkgV (coerL s'.o res),o,[],I2,cutG o.length g2,rfl,?_,low3_at (fun k hk=>if_pos hk) (pkg_at' (coer_at h2 r2)) hlow,rfl,rfl,_,rfl,hQ⟩
  show RelI I0 X w0 I2 _ ⟨t,o⟩ a w'
  rw [← h5]
  exact h4
 cases e with
 | normal=>exact key hk
 | exit i=>exact hk.elim
 | ret=>exact key hk
theorem specr_of {f:Nat} {fn:Func} {c:Code} {vs:List V} {os:List O} {Q:List V → Prop} (hf:Tryz.prog.funcs[f]? = some fn) (hb:fn.body = some c) (hn:(fn.name != "runtime.NumGoroutine") = true) (hc:okCode Tryz.prog c = true) (hr:okRes fn.results.toList = true) (hos:plainO os = true)
  (h:∀ qa qb qc qd qe qg qh qi qj qk ql qm qn qo qp qq qt qu qv qw qx qy qz va vc vd ve vf vg vh vj vk vl vm vn vo vp vq vr vt vu vv vw,Ar.mk qa qb qc qd qe qg qh qi qj qk ql qm qn qo qp qq qt qu qv qw qx qy qz va vc vd ve vf vg vh vj vk vl vm vn vo vp vq vr vt vu vv vw = real → ∀ K:List V → List O → Prop,(∀ res,Q res → K res os) → exec (Ar.mk qa qb qc qd qe qg qh qi qj qk ql qm qn qo qp qq qt qu qv qw qx qy qz va vc vd ve vf vg vh vj vk vl vm vn vo vp vq vr vt vu vv vw) c (startI vs os (fn.ntmps - lenL vs)) (fun x s=>retR (Ar.mk qa qb qc qd qe qg qh qi qj qk ql qm qn qo qp qq qt qu qv qw qx qy qz va vc vd ve vf vg vh vj vk vl vm vn vo vp vq vr vt vu vv vw) (lenO os) K fn.results.toList x s)):SpecS f vs os (fun res o2=>Q res ∧ o2 = os) :=
 specs_of_sound hos (rin_ok hos hf hb hn hc hr (h _ _ _ _ _ _ _ _ _ _ _ _ _ _ _ _ _ _ _ _ _ _ _ _ _ _ _ _ _ _ _ _ _ _ _ _ _ _ _ _ _ _ _ (show Ar.mk real.wrap real.add real.sub real.mul real.quo real.rem real.bits real.lt real.le real.eq real.nz real.seq real.slt real.bytes real.cat real.fits real.slen real.sget real.ssub real.txt real.byt real.nat real.len real.get real.sub2 real.app real.set real.room real.mlook real.mput real.deq real.rep real.call real.calld real.callo real.callx real.new real.lit real.keep real.next real.ext real.reg real.loop = real from rfl) _ fun res hq=>⟨rfl,hq⟩))
theorem soundq_of {f:Nat} {vs vs':List V} {os':List O} {o:List O} {ks:List Nat} {r:List V} (h:SpecS f vs' os' (fun res o2=>res = r ∧ o2 = os')) (hs:SubOk ks vs' os' vs ⟨[],o⟩) (hb:backO ks (upOs ks (lenO o) os') o = o):SoundQ f vs o (pkgV (upT ks (lenO o) r)):=by
 have h1:=sound_specs h hs
 refine ⟨h1.1,fun I0 X w0 I g t a w us hrel hv=>(h1.2 I0 X w0 I g t a w us hrel hv).mono ?_⟩
 rintro e w' ⟨v,x,o',ks',I',g',rfl,h2,h3,rfl,res,os2,⟨rfl,rfl⟩,rfl,rfl⟩
 rw [hb] at h2
 exact ⟨_,I',g',rfl,h2,h3⟩
section
variable {qa:IntKind → Int → Int} {qb:Int → Int → Int} {qc:Int → Int → Int} {qd:Int → Int → Int} {qe:Int → Int → Int} {qg:Int → Int → Int} {qh:BinOp → IntKind → Int → IntKind → Int → Option Int} {qi:Int → Int → Bool} {qj:Int → Int → Bool} {qk:Int → Int → Bool} {ql:Int → Prop → Prop} {qm:List UInt8 → List UInt8 → Bool} {qn:List UInt8 → List UInt8 → Bool} {qo:ByteArray → List UInt8} {qp:ByteArray → ByteArray → ByteArray} {qq:ByteArray → ByteArray → Prop → Prop} {qt:ByteArray → Int} {qu:ByteArray → Int → Option Int} {qv:ByteArray → Int → Int → Option ByteArray} {qw:List (List D) → Option ByteArray} {qx:ByteArray → List (List D)} {qy:Int → Nat → Option Nat} {qz:List (List D) → Int} {va:List (List D) → Int → Option (List D)} {vc:List (List D) → Int → Int → Option (List (List D))} {vd:List (List D) → List (List D) → List (List D)} {ve:List (List D) → Int → List D → List (List D)} {vf:List (List D) → List (List D) → Prop → Prop} {vg:List (R × R) → R → Option R} {vh:List (R × R) → R → R → List (R × R)} {vj:List D → List D → Bool} {vk:Int → List D → (List (List D) → Prop) → Prop} {vl:Nat → List R → (List R → Prop) → Prop} {vm:Nat → List V → List O → (V → Prop) → Prop} {vn:Nat → List V → S → (V → S → Prop) → Prop} {vo:Nat → List V → List Nat → S → (V → S → Prop) → Prop} {vp:Nat → (Bool → Prop) → Prop} {vq:Nat → (Bool → Prop) → Prop} {vr:Nat → (List V → List O → Prop) → List V → S → Prop} {vt:(S → Prop) → S → Prop} {vu:Op → Option Nat → S → (S → Prop) → Prop} {vv:Array Oper → S → (S → Prop) → Prop} {vw:Code → (S → (X → S → Prop) → Prop) → S → (X → S → Prop) → Prop}
theorem rd_at (hA:Ar.mk qa qb qc qd qe qg qh qi qj qk ql qm qn qo qp qq qt qu qv qw qx qy qz va vc vd ve vf vg vh vj vk vl vm vn vo vp vq vr vt vu vv vw = real) {f:Nat} {vs:List V} {s:S} {K:V → S → Prop} (ks:List Nat) {vs':List V} {os':List O} {Q:List V → Prop} (h:SpecS f vs' os' (fun res o2=>Q res ∧ o2 = os')) (hs:SubOk ks vs' os' vs s) (hb:backO ks (upOs ks (lenO s.o) os') s.o = s.o) (hK:∀ res,Q res → K (pkgV (upT ks (lenO s.o) res)) s):vn f vs s K :=
 calls_at hA ks h hs fun res os2 ⟨hq,e⟩=>by subst e;rw [hb];exact hK res hq
theorem rdq_at (hA:Ar.mk qa qb qc qd qe qg qh qi qj qk ql qm qn qo qp qq qt qu qv qw qx qy qz va vc vd ve vf vg vh vj vk vl vm vn vo vp vq vr vt vu vv vw = real) {f:Nat} {vs:List V} {o:List O} {K:V → Prop} (ks:List Nat) {vs':List V} {os':List O} {r:List V} (h:SpecS f vs' os' (fun res o2=>res = r ∧ o2 = os')) (hs:SubOk ks vs' os' vs ⟨[],o⟩) (hb:backO ks (upOs ks (lenO o) os') o = o) (hK:K (pkgV (upT ks (lenO o) r))):vm f vs o K:=by
 have e:vm = real.calld:=congrArg Ar.calld hA
 rw [e]
 exact ⟨_,soundq_of h hs hb,hK⟩
end
end
end Go.Proofs.YtahpnackkmbmgaaGreatDoor.Vm
end
section
namespace Go.Proofs.YtahpnackkmbmgaaGreatDoor.Vm
open Go.RowKit
set_option maxRecDepth 100000
set_option maxHeartbeats 4000000
def rdB (T:List (List D)) (a:Int):List O:=[.box [.d (.sl 4 T),.d (.sc (.int .i64 a))]]
def eyB (e p:Int) (T:List (List D)) (a:Int):List O:=[.box [.ptr 1 0,.d (.sc (.int .u8 e)),.d (.sc (.int .i64 p))],.box [.d (.sl 4 T),.d (.sc (.int .i64 a))]]
def isG (t:Tok) (s:ByteArray):Bool:=(t.kind == 3) && (t.text.toList == s.toList)
theorem Clone_s (T:List (List D)) (hne:T ≠ []) (hl:T.length ≤ 1048576):Spec 37 [.one (.sl 4 T)] [.one (.sl 4 T)]:=by
 refine spec_of Tryz.func37 rfl (by kernel_rfl) (by kernel_rfl) (by kernel_rfl) fun qa qb qc qd qe qg qh qi qj qk ql qm qn qo qp qq qt qu qv qw qx qy qz va vc vd ve vf vg vh vj vk vl vm vn vo vp vq vr vt vu vv vw hA=>?_
 obtain ⟨r1,r2,r3,r4⟩:=row_at hA
 have q:qz T ≠ 0:=by
  rw [r1]
  cases T with
  | nil=>exact absurd rfl hne
  | cons x T=>simp;omega
 have q4:vd [] T = T:=by rw [r4];rfl
 iterate 2 (try cbv;repeat ((first | with_reducible apply next_at hA | rw [q4] | refine nz_at hA q ?_ | refine new_at hA true ?_ | (refine room_at hA (by simp only [List.length_nil];omega) ?_));cbv))
 try simp (maxSteps:=4000000) only [nc] at *
theorem NewReader_s (T:List (List D)) (hne:T ≠ []) (hl:T.length ≤ 1048576):SpecO 16 [.d (.sl 4 T)] [] (fun res os=>res = [.ptr 0 0] ∧ os = rdB T 0):=by
 have h1:=Clone_s T hne hl
 unfold rdB
 refine speco_of Tryz.func16 rfl (by kernel_rfl) (by kernel_rfl) (by kernel_rfl) fun qa qb qc qd qe qg qh qi qj qk ql qm qn qo qp qq qt qu qv qw qx qy qz va vc vd ve vf vg vh vj vk vl vm vn vo vp vq vr vt vu vv vw hA=>?_
 iterate 2 (try cbv;repeat ((first | with_reducible apply next_at hA | refine call_at hA _ h1 rfl ?_ | refine calm_at hA _ h1 ?_);cbv))
 try simp (maxSteps:=4000000) only [nc] at *
 exact keep_is hA [0] (res':=[.ptr 0 0]) ⟨rfl,rfl,rfl,rfl,rfl,rfl,rfl,rfl⟩ ⟨rfl,rfl⟩
theorem Peek_s (ts:List Tok) (t:Tok) (a:Nat) (ht:ts[a]? = some t) (hl:ts.length ≤ 1048576):SpecS 19 [.ptr 0 0] (rdB (rTk ts) (a:Int)) (fun res os=>res = [.ag (ofD (tkD t))] ∧ os = rdB (rTk ts) (a:Int)):=by
 have hg:=rTk_get ht
 have hlt:=(List.getElem?_eq_some_iff.1 ht).1
 have hln:=rTk_len ts
 unfold tkD at hg ⊢
 unfold rdB
 generalize rTk ts = T at *
 generalize t.kind = tk at *
 generalize t.text = tx at *
 generalize t.n = tn at *
 generalize t.at_ = ta at *
 obtain ⟨z,hz⟩:∃ z,z = (a:Int):=⟨_,rfl⟩
 rw [← hz]
 refine specr_of Tryz.func19 rfl (by kernel_rfl) (by kernel_rfl) (by kernel_rfl) rfl fun qa qb qc qd qe qg qh qi qj qk ql qm qn qo qp qq qt qu qv qw qx qy qz va vc vd ve vf vg vh vj vk vl vm vn vo vp vq vr vt vu vv vw hA K hK=>?_
 obtain ⟨e1,e2,e3,e4,e5,e6,e7,e8,e9⟩:=ar_at hA
 obtain ⟨r1,r2,r3,r4⟩:=row_at hA
 have q1:qk (qz T) 0 = false:=by rw [e9,r1,hln];simp;intro h;rw [h] at hlt;simp at hlt
 have q2:qi z (qz T) = true:=by rw [e7,r1,hln,hz];exact decide_eq_true (by omega)
 have g:va T z = some [.sc (.int .u8 tk),.sc (.string tx),.sc (.int .i64 tn),.sc (.int .i64 ta)]:=by rw [r2,hz,if_pos (by omega),show ((a:Int)).toNat = a by omega];exact hg
 iterate 2 (try cbv;repeat ((first | with_reducible apply next_at hA | rw [q1] | rw [q2] | rw [g]);cbv))
 try simp (maxSteps:=4000000) only [nc] at *
 exact hK _ rfl
theorem Is_s (ts:List Tok) (t:Tok) (a:Nat) (ht:ts[a]? = some t) (hl:ts.length ≤ 1048576) (s:ByteArray):SpecS 104 [.ptr 0 0,vs s] (rdB (rTk ts) (a:Int)) (fun res os=>res = [vb (isG t s)] ∧ os = rdB (rTk ts) (a:Int)):=by
 have hp:=Peek_s ts t a ht hl
 unfold isG
 unfold tkD rdB at hp
 unfold rdB
 generalize rTk ts = T at *
 generalize t.kind = tk at *
 generalize t.text = tx at *
 generalize t.n = tn at *
 generalize t.at_ = ta at *
 obtain ⟨z,hz⟩:∃ z,z = (a:Int):=⟨_,rfl⟩
 rw [← hz] at hp ⊢
 obtain ⟨b,hb⟩:∃ b,b = (tx.toList == s.toList):=⟨_,rfl⟩
 obtain ⟨c,hc⟩:∃ c,c = (tk == 3):=⟨_,rfl⟩
 rw [← hb,← hc]
 refine specr_of Tryz.func104 rfl (by kernel_rfl) (by kernel_rfl) (by kernel_rfl) rfl fun qa qb qc qd qe qg qh qi qj qk ql qm qn qo qp qq qt qu qv qw qx qy qz va vc vd ve vf vg vh vj vk vl vm vn vo vp vq vr vt vu vv vw hA K hK=>?_
 obtain ⟨e1,e2,e3,e4,e5,e6,e7,e8,e9⟩:=ar_at hA
 obtain ⟨s1,s2,s3,s4,s5,s6,s7⟩:=str_at hA
 have q1:qk tk 3 = c:=by rw [e9,hc]
 have q2:qm (qo tx) (qo s) = b:=by rw [s1,s3,s3,hb]
 cases c
 ·iterate 2 (try cbv;repeat ((first | with_reducible apply next_at hA | rw [q1] | (refine rd_at hA [0] hp ⟨rfl,rfl,rfl,rfl,rfl,rfl,rfl⟩ rfl ?_;rintro _ rfl));cbv))
  try simp (maxSteps:=4000000) only [nc] at *
  exact hK _ rfl
 ·iterate 2 (try cbv;repeat ((first | with_reducible apply next_at hA | rw [q1] | rw [q2] | (refine rd_at hA [0] hp ⟨rfl,rfl,rfl,rfl,rfl,rfl,rfl⟩ rfl ?_;rintro _ rfl));cbv))
  try simp (maxSteps:=4000000) only [nc] at *
  exact hK _ rfl
theorem Take_s (ts:List Tok) (t:Tok) (a:Nat) (ht:ts[a]? = some t) (hl:ts.length ≤ 1048576):SpecO 105 [.ptr 0 0] (rdB (rTk ts) (a:Int)) (fun res os=>res = [.ag (ofD (tkD t))] ∧ os = rdB (rTk ts) ((a + 1:Nat):Int)):=by
 have hp:=Peek_s ts t a ht hl
 have hlt:=(List.getElem?_eq_some_iff.1 ht).1
 have hln:=rTk_len ts
 unfold tkD rdB at hp
 unfold tkD rdB
 generalize rTk ts = T at *
 generalize t.kind = tk at *
 generalize t.text = tx at *
 generalize t.n = tn at *
 generalize t.at_ = ta at *
 obtain ⟨z,hz⟩:∃ z,z = (a:Int):=⟨_,rfl⟩
 obtain ⟨y,hy⟩:∃ y,y = ((a + 1:Nat):Int):=⟨_,rfl⟩
 rw [← hz] at hp ⊢
 rw [← hy]
 refine speco_of Tryz.func105 rfl (by kernel_rfl) (by kernel_rfl) (by kernel_rfl) fun qa qb qc qd qe qg qh qi qj qk ql qm qn qo qp qq qt qu qv qw qx qy qz va vc vd ve vf vg vh vj vk vl vm vn vo vp vq vr vt vu vv vw hA=>?_
 obtain ⟨e1,e2,e3,e4,e5,e6,e7,e8,e9⟩:=ar_at hA
 obtain ⟨r1,r2,r3,r4⟩:=row_at hA
 have q2:qi z (qz T) = true:=by rw [e7,r1,hln,hz];exact decide_eq_true (by omega)
 have q3:qa .i64 (qb z 1) = y:=by rw [e1,e2,hz,hy,IntWalk.i64_in _ (by omega)];omega
 iterate 2 (try cbv;repeat ((first | with_reducible apply next_at hA | rw [q2] | rw [q3] | (refine rd_at hA [0] hp ⟨rfl,rfl,rfl,rfl,rfl,rfl,rfl⟩ rfl ?_;rintro _ rfl));cbv))
 try simp (maxSteps:=4000000) only [nc] at *
 exact keep_is hA [0] ⟨rfl,rfl,rfl,rfl,rfl,rfl,rfl,rfl⟩ ⟨rfl,rfl⟩
theorem Skip_s (ts:List Tok) (t:Tok) (a:Nat) (ht:ts[a]? = some t) (hl:ts.length ≤ 1048576) (s:ByteArray):SpecO 88 [.ptr 0 0,vs s] (rdB (rTk ts) (a:Int)) (fun res os=>res = [vb (isG t s)] ∧ os = rdB (rTk ts) ((if isG t s = true then a + 1 else a:Nat):Int)):=by
 have hp:=Is_s ts t a ht hl s
 have hq:=Take_s ts t a ht hl
 unfold tkD rdB at hq
 unfold rdB at hp
 unfold rdB
 generalize rTk ts = T at *
 generalize t.kind = tk at *
 generalize t.text = tx at *
 generalize t.n = tn at *
 generalize t.at_ = ta at *
 generalize isG t s = b at *
 cases b
 ·rw [if_neg (by decide)]
  generalize ((a:Nat):Int) = z at *
  refine speco_of Tryz.func88 rfl (by kernel_rfl) (by kernel_rfl) (by kernel_rfl) fun qa qb qc qd qe qg qh qi qj qk ql qm qn qo qp qq qt qu qv qw qx qy qz va vc vd ve vf vg vh vj vk vl vm vn vo vp vq vr vt vu vv vw hA=>?_
  iterate 2 (try cbv;repeat ((first | with_reducible apply next_at hA | (refine rd_at hA [0] hp ⟨rfl,rfl,rfl,rfl,rfl,rfl,rfl⟩ rfl ?_;rintro _ rfl));cbv))
  try simp (maxSteps:=4000000) only [nc] at *
  exact keep_is hA [0] ⟨rfl,rfl,rfl,rfl,rfl,rfl,rfl,rfl⟩ ⟨rfl,rfl⟩
 ·rw [if_pos rfl]
  generalize ((a:Nat):Int) = z at *
  generalize ((a + 1:Nat):Int) = y at *
  refine speco_of Tryz.func88 rfl (by kernel_rfl) (by kernel_rfl) (by kernel_rfl) fun qa qb qc qd qe qg qh qi qj qk ql qm qn qo qp qq qt qu qv qw qx qy qz va vc vd ve vf vg vh vj vk vl vm vn vo vp vq vr vt vu vv vw hA=>?_
  iterate 2 (try cbv;repeat ((first | with_reducible apply next_at hA | (refine rd_at hA [0] hp ⟨rfl,rfl,rfl,rfl,rfl,rfl,rfl⟩ rfl ?_;rintro _ rfl) | (refine callo_at hA [0] hq ⟨rfl,rfl,rfl,rfl,rfl,rfl,rfl⟩ ?_;rintro _ _ ⟨rfl,rfl⟩));cbv))
  try simp (maxSteps:=4000000) only [nc] at *
  exact keep_is hA [0] ⟨rfl,rfl,rfl,rfl,rfl,rfl,rfl,rfl⟩ ⟨rfl,rfl⟩
end Go.Proofs.YtahpnackkmbmgaaGreatDoor.Vm
end
section
namespace Go.Proofs
open Go.Shelf
open Go.RowKit in
def Tryz.laysM171_ren:Go.Shelf.Ren:=⟨fun | 171=>47 | 243=>72 | 246=>93 | 283=>106 | 284=>107 | 285=>108 | 286=>109 | 129=>117 | 317=>116 | 318=>118 | 319=>119 | 320=>120 | 337=>124 | 338=>125 | n=>n,fun | 3=>3 | 9=>9 | 2=>2 | 4=>4 | 171=>141 | 0=>0 | 53=>142 | 37=>32 | 5=>5 | 173=>145 | 212=>154 | 51=>155 | 20=>20 | 213=>156 | 46=>149 | 232=>161 | 233=>162 | n=>n,fun | 17=>0 | 18=>2 | 19=>3 | n=>n⟩
theorem Tryz.laysM171:Go.Proofs.LaysM.n171 Tryz.prog Tryz.laysM171_ren:={
 mixed:=by kernel_rfl
 f129:=Tryz.func117.trans (congrArg some (by kernel_rfl))
 f171:=Tryz.func47.trans (congrArg some (by kernel_rfl))
 f243:=Tryz.func72.trans (congrArg some (by kernel_rfl))
 f246:=Tryz.func93.trans (congrArg some (by kernel_rfl))
 f283:=Tryz.func106.trans (congrArg some (by kernel_rfl))
 f284:=Tryz.func107.trans (congrArg some (by kernel_rfl))
 f285:=Tryz.func108.trans (congrArg some (by kernel_rfl))
 f286:=Tryz.func109.trans (congrArg some (by kernel_rfl))
 f317:=Tryz.func116.trans (congrArg some (by kernel_rfl))
 f318:=Tryz.func118.trans (congrArg some (by kernel_rfl))
 f319:=Tryz.func119.trans (congrArg some (by kernel_rfl))
 f320:=Tryz.func120.trans (congrArg some (by kernel_rfl))
 f337:=Tryz.func124.trans (congrArg some (by kernel_rfl))
 f338:=Tryz.func125.trans (congrArg some (by kernel_rfl))
 t0:=Tryz.underlying0
 a0:=Tryz.isAgg0
 z0:=Tryz.sizeOf0
 v0:=Tryz.zeroValue0
 t2:=Tryz.underlying2
 a2:=Tryz.isAgg2
 z2:=Tryz.sizeOf2
 v2:=Tryz.zeroValue2
 t3:=Tryz.underlying3
 a3:=Tryz.isAgg3
 z3:=Tryz.sizeOf3
 v3:=Tryz.zeroValue3
 t4:=Tryz.underlying4
 a4:=Tryz.isAgg4
 z4:=Tryz.sizeOf4
 v4:=Tryz.zeroValue4
 t5:=Tryz.underlying5
 a5:=Tryz.isAgg5
 z5:=Tryz.sizeOf5
 v5:=Tryz.zeroValue5
 t9:=Tryz.underlying9
 a9:=Tryz.isAgg9
 z9:=Tryz.sizeOf9
 v9:=Tryz.zeroValue9
 t20:=Tryz.underlying20
 a20:=Tryz.isAgg20
 z20:=Tryz.sizeOf20
 v20:=Tryz.zeroValue20
 t37:=Tryz.underlying32
 a37:=Tryz.isAgg32
 z37:=Tryz.sizeOf32
 v37:=Tryz.zeroValue32
 t46:=Tryz.underlying149
 a46:=Tryz.isAgg149
 z46:=Tryz.sizeOf149
 v46:=Tryz.zeroValue149
 t51:=Tryz.underlying155
 a51:=Tryz.isAgg155
 z51:=Tryz.sizeOf155
 v51:=Tryz.zeroValue155
 t53:=Tryz.underlying142
 a53:=Tryz.isAgg142
 z53:=Tryz.sizeOf142
 v53:=Tryz.zeroValue142
 t171:=Tryz.underlying141
 a171:=Tryz.isAgg141
 z171:=Tryz.sizeOf141
 v171:=Tryz.zeroValue141
 t173:=Tryz.underlying145
 a173:=Tryz.isAgg145
 z173:=Tryz.sizeOf145
 v173:=Tryz.zeroValue145
 t212:=Tryz.underlying154
 a212:=Tryz.isAgg154
 z212:=Tryz.sizeOf154
 v212:=Tryz.zeroValue154
 t213:=Tryz.underlying156
 a213:=Tryz.isAgg156
 z213:=Tryz.sizeOf156
 t232:=Tryz.underlying161
 a232:=Tryz.isAgg161
 z232:=Tryz.sizeOf161
 v232:=Tryz.zeroValue161
 t233:=Tryz.underlying162
 a233:=Tryz.isAgg162
 z233:=Tryz.sizeOf162
 v233:=Tryz.zeroValue162
 g17:=by kernel_rfl
 g18:=by kernel_rfl
 g19:=by kernel_rfl
 i0:=by kernel_rfl
 i2:=by kernel_rfl
 i3:=by kernel_rfl
 i4:=by kernel_rfl
 i5:=by kernel_rfl
 i9:=by kernel_rfl
 i20:=by kernel_rfl
 i37:=by kernel_rfl
 i46:=by kernel_rfl
 i51:=by kernel_rfl
 i53:=by kernel_rfl
 i171:=by kernel_rfl
 i173:=by kernel_rfl
 i212:=by kernel_rfl
 i232:=by kernel_rfl
 i233:=by kernel_rfl
 m17:=by kernel_rfl
 m18:=by kernel_rfl
 m19:=by kernel_rfl }
open Go.RowKit Go.Sort Go.Lib in
theorem Tryz.strconv_Itoa (n:Int) (h0:-9223372036854775808 ≤ n) (h1:n ≤ 9223372036854775807) (w:World) (htab:Lib.TabIs Tryz.prog w "internal/strconv.uint64pow10" .u64 Lib.pow10Tab) :
  Calls Tryz.prog 47 #[.int .i64 n] w fun e w'=>e = .returned (.string ⟨(Lib.itoa n).toArray⟩) ∧ ∃ k os,w' = grow (w.drewN k) os:=Any.strconv_Itoa Tryz.laysM171 n h0 h1 w htab
end Go.Proofs
end
section
namespace Go.Proofs.YtahpnackkmbmgaaGreatDoor.Vm
open Go.RowKit
theorem tab_pow10:("internal/strconv.uint64pow10",IntKind.u64,Lib.pow10Tab) ∈ tabsOf:=by
 rw [show Lib.pow10Tab = _ from (by decide:Lib.pow10Tab = [1,10,100,1000,10000,100000,1000000,10000000,100000000,1000000000,10000000000,100000000000,1000000000000,10000000000000,100000000000000,1000000000000000,10000000000000000,100000000000000000,1000000000000000000,10000000000000000000])]
 unfold tabsOf
 simp
theorem itoa_c (n:Int) (h0:-9223372036854775808 ≤ n) (h1:n ≤ 9223372036854775807):Spec 47 [.one (.sc (.int .i64 n))] [.one (.sc (.string ⟨(Lib.itoa n).toArray⟩))]:=by
 refine ⟨by kernel_rfl,fun I w args hI hat=>?_⟩
 match args,hat with
 | [v1],⟨h2,_⟩ =>
  have h2:AtD I w v1 (.sc (.int .i64 n)):=h2
  cases h2
  refine (Tryz.strconv_Itoa n h0 h1 w (hI.2 _ tab_pow10).1).mono ?_
  rintro e w' ⟨rfl,k,os,rfl⟩
  exact ⟨_,rfl,.sc _ rfl,⟨rfl,rfl,rfl,by simp [Sort.grow,World.drewN],fun k hk=>by simp [Sort.grow,World.drewN,Array.getElem?_append,hk]⟩⟩
end Go.Proofs.YtahpnackkmbmgaaGreatDoor.Vm
end
section
namespace Go.Proofs.YtahpnackkmbmgaaGreatDoor
section
section
variable {α:Type}
structure Swo (lt:α → α → Bool):Prop where
 irr:∀ x,lt x x = false
 tra:∀ x y z,lt x y = true → lt y z = true → lt x z = true
 neg:∀ x y z,lt x y = false → lt y z = false → lt x z = false
variable {lt:α → α → Bool}
def eqv (lt:α → α → Bool) (x y:α):Bool:=!lt x y && !lt y x
def Srt (lt:α → α → Bool) (l:List α):Prop:=l.Pairwise fun x y=>lt y x = false
def Sta (lt:α → α → Bool) (l m:List α):Prop:=∀ x,l.filter (eqv lt x) = m.filter (eqv lt x)
theorem Sta.refl (l:List α):Sta lt l l:=fun _=>rfl
theorem Sta.symm {l m:List α} (h:Sta lt l m):Sta lt m l:=fun x=>(h x).symm
theorem Sta.trans {l m n:List α} (h:Sta lt l m) (k:Sta lt m n):Sta lt l n:=fun x=>(h x).trans (k x)
theorem Sta.append {l m l' m':List α} (h:Sta lt l l') (k:Sta lt m m'):Sta lt (l ++ m) (l' ++ m'):=fun x=>by rw [List.filter_append,List.filter_append,h x,k x]
theorem eqv_self (h:Swo lt) (x:α):eqv lt x x = true:=by unfold eqv;rw [h.irr];rfl
theorem Sta.mem (h:Swo lt) {l m:List α} (s:Sta lt l m) {x:α} (hx:x ∈ l):x ∈ m:=by
 have:x ∈ l.filter (eqv lt x):=List.mem_filter.2 ⟨hx,eqv_self h x⟩
 rw [s x] at this
 exact (List.mem_filter.1 this).1
theorem Sta.swap (h:Swo lt) {u v:List α} (huv:∀ x ∈ u,∀ y ∈ v,lt y x = true):Sta lt (u ++ v) (v ++ u):=fun z=>by
 rw [List.filter_append,List.filter_append]
 by_cases hu:u.filter (eqv lt z) = []
 ·rw [hu];simp
 ·by_cases hv:v.filter (eqv lt z) = []
  ·rw [hv];simp
  ·exfalso
   obtain ⟨x,hx⟩:=List.exists_mem_of_ne_nil _ hu
   obtain ⟨y,hy⟩:=List.exists_mem_of_ne_nil _ hv
   obtain ⟨hx1,hx2⟩:=List.mem_filter.1 hx
   obtain ⟨hy1,hy2⟩:=List.mem_filter.1 hy
   have h1:=huv x hx1 y hy1
   unfold eqv at hx2 hy2
   simp only [Bool.and_eq_true,Bool.not_eq_true'] at hx2 hy2
   have:=h.neg y z x hy2.2 hx2.1
   rw [h1] at this
   cases this
theorem srt_unique (h:Swo lt):∀ {l m:List α},Srt lt l → Srt lt m → Sta lt l m → l = m
 | [],m,_,_,s=>by
  cases m with
  | nil=>rfl
  | cons y m=>exact absurd (s.symm.mem h (List.mem_cons_self ..)) (by simp)
 | x :: l,[],_,_,s=>absurd (s.mem h (List.mem_cons_self ..)) (by simp)
 | x :: l,y :: m,hl,hm,s=>by
  have hxm:=s.mem h (List.mem_cons_self (a:=x) (l:=l))
  have hyl:=s.symm.mem h (List.mem_cons_self (a:=y) (l:=m))
  have hlx:∀ z ∈ x :: l,lt z x = false:=fun z hz=>by
   rcases List.mem_cons.1 hz with rfl | hz
   ·exact h.irr _
   ·exact (List.pairwise_cons.1 hl).1 z hz
  have hmy:∀ z ∈ y :: m,lt z y = false:=fun z hz=>by
   rcases List.mem_cons.1 hz with rfl | hz
   ·exact h.irr _
   ·exact (List.pairwise_cons.1 hm).1 z hz
  have e1:eqv lt x y = true:=by unfold eqv;rw [hmy x hxm,hlx y hyl];rfl
  have s1:=s x
  rw [List.filter_cons,List.filter_cons,eqv_self h x,e1] at s1
  simp only [if_true] at s1
  injection s1 with s1 s2
  subst s1
  congr 1
  refine srt_unique h (List.pairwise_cons.1 hl).2 (List.pairwise_cons.1 hm).2 fun z=>?_
  have sz:=s z
  rw [List.filter_cons,List.filter_cons] at sz
  by_cases hz:eqv lt z x = true
  ·rw [if_pos hz,if_pos hz] at sz
   injection sz
  ·rw [if_neg hz,if_neg hz] at sz
   exact sz
def insS (lt:α → α → Bool) (x:α):List α → List α
 | []=>[x]
 | y :: l=>if lt x y = true then x :: y :: l else y :: insS lt x l
def sortS (lt:α → α → Bool) (l:List α):List α:=l.foldl (fun acc x=>insS lt x acc) []
theorem ins_sta (h:Swo lt) (x:α):∀ l:List α,Srt lt l → Sta lt (insS lt x l) (l ++ [x])
 | [],_=>.refl _
 | y :: l,hl=>by
  unfold insS
  by_cases hx:lt x y = true
  ·rw [if_pos hx]
   have:Sta lt ([x] ++ (y :: l)) ((y :: l) ++ [x]):=(Sta.swap h (u:=y :: l) (v:=[x]) fun z hz w hw=>by
    simp at hw
    subst hw
    rcases List.mem_cons.1 hz with rfl | hz
    ·exact hx
    ·have h1:=(List.pairwise_cons.1 hl).1 z hz
     cases hwz:lt w z
     ·have:=h.neg w z y hwz h1
      rw [hx] at this
      cases this
     ·rfl).symm
   exact this
  ·rw [if_neg hx]
   exact Sta.append (.refl [y]) (ins_sta h x l (List.pairwise_cons.1 hl).2)
theorem ins_mem (x:α):∀ (l:List α) (z:α),z ∈ insS lt x l → z = x ∨ z ∈ l
 | [],z,hz=>by simp [insS] at hz;exact .inl hz
 | y :: l,z,hz=>by
  unfold insS at hz
  split at hz
  ·rcases List.mem_cons.1 hz with h | h
   ·exact .inl h
   ·exact .inr h
  ·rcases List.mem_cons.1 hz with h | h
   ·exact .inr (by rw [h];exact List.mem_cons_self ..)
   ·rcases ins_mem x l z h with h | h
    ·exact .inl h
    ·exact .inr (List.mem_cons_of_mem _ h)
theorem ins_srt (h:Swo lt) (x:α):∀ l:List α,Srt lt l → Srt lt (insS lt x l)
 | [],_=>by unfold insS Srt;simp
 | y :: l,hl=>by
  obtain ⟨h1,h2⟩:=List.pairwise_cons.1 hl
  unfold insS
  by_cases hx:lt x y = true
  ·rw [if_pos hx]
   refine List.pairwise_cons.2 ⟨fun z hz=>?_,hl⟩
   have hyx:lt y x = false:=by
    cases hyx:lt y x
    ·rfl
    ·have:=h.tra x y x hx hyx
     rw [h.irr] at this
     cases this
   rcases List.mem_cons.1 hz with rfl | hz
   ·exact hyx
   ·exact h.neg z y x (h1 z hz) hyx
  ·rw [if_neg hx]
   refine List.pairwise_cons.2 ⟨fun z hz=>?_,ins_srt h x l h2⟩
   rcases ins_mem x l z hz with rfl | hz
   ·simpa using hx
   ·exact h1 z hz
theorem sort_go (h:Swo lt):∀ (l acc:List α),Srt lt acc → Srt lt (l.foldl (fun acc x=>insS lt x acc) acc) ∧ Sta lt (l.foldl (fun acc x=>insS lt x acc) acc) (acc ++ l)
 | [],acc,ha=>⟨ha,by rw [List.append_nil];exact .refl _⟩
 | x :: l,acc,ha=>by
  obtain ⟨h1,h2⟩:=sort_go h l (insS lt x acc) (ins_srt h x acc ha)
  refine ⟨h1,h2.trans ?_⟩
  have:=Sta.append (ins_sta h x acc ha) (.refl (lt:=lt) l)
  rwa [List.append_assoc] at this
theorem sort_srt (h:Swo lt) (l:List α):Srt lt (sortS lt l):=(sort_go h l [] List.Pairwise.nil).1
theorem sort_sta (h:Swo lt) (l:List α):Sta lt (sortS lt l) l:=(sort_go h l [] List.Pairwise.nil).2
theorem sort_is (h:Swo lt) {l m:List α} (hs:Srt lt m) (ht:Sta lt m l):m = sortS lt l:=srt_unique h hs (sort_srt h l) (ht.trans (sort_sta h l).symm)
theorem srt_append {l m:List α}:Srt lt (l ++ m) ↔ Srt lt l ∧ Srt lt m ∧ ∀ x ∈ l,∀ y ∈ m,lt y x = false:=List.pairwise_append
theorem lt_asymm (h:Swo lt) {x y:α} (hxy:lt x y = true):lt y x = false:=by
 cases hyx:lt y x
 ·rfl
 ·have:=h.tra x y x hxy hyx
  rw [h.irr] at this
  cases this
theorem lt_of_lt_le (h:Swo lt) {x y z:α} (hxy:lt x y = true) (hyz:lt z y = false):lt x z = true:=by
 cases hxz:lt x z
 ·have:=h.neg x z y hxz hyz
  rw [hxy] at this
  cases this
 ·rfl
theorem lt_of_le_lt (h:Swo lt) {x y z:α} (hxy:lt y x = false) (hyz:lt y z = true):lt x z = true:=by
 cases hxz:lt x z
 ·have:=h.neg y x z hxy hxz
  rw [hyz] at this
  cases this
 ·rfl
theorem put_one_left (h:Swo lt) {x:α} {v1 v2:List α} (hs:Srt lt (v1 ++ v2)) (h1:∀ y ∈ v1,lt y x = true) (h2:∀ y ∈ v2,lt y x = false) :
  Srt lt (v1 ++ (x :: v2)) ∧ Sta lt (v1 ++ (x :: v2)) (x :: (v1 ++ v2)):=by
 obtain ⟨s1,s2,s3⟩:=srt_append.1 hs
 refine ⟨srt_append.2 ⟨s1,List.pairwise_cons.2 ⟨h2,s2⟩,fun y hy z hz=>?_⟩,?_⟩
 ·rcases List.mem_cons.1 hz with rfl | hz
  ·exact lt_asymm h (h1 y hy)
  ·exact s3 y hy z hz
 ·have:=Sta.append (Sta.swap h (u:=[x]) (v:=v1) fun z hz y hy=>by simp at hz;subst hz;exact h1 y hy) (.refl (lt:=lt) v2)
  simpa using this.symm
theorem put_one_right (h:Swo lt) {x:α} {u1 u2:List α} (hs:Srt lt (u1 ++ u2)) (h1:∀ y ∈ u1,lt x y = false) (h2:∀ y ∈ u2,lt x y = true) :
  Srt lt (u1 ++ (x :: u2)) ∧ Sta lt (u1 ++ (x :: u2)) ((u1 ++ u2) ++ [x]):=by
 obtain ⟨s1,s2,s3⟩:=srt_append.1 hs
 refine ⟨srt_append.2 ⟨s1,List.pairwise_cons.2 ⟨fun y hy=>lt_asymm h (h2 y hy),s2⟩,fun y hy z hz=>?_⟩,?_⟩
 ·rcases List.mem_cons.1 hz with rfl | hz
  ·exact h1 y hy
  ·exact s3 y hy z hz
 ·have:=Sta.append (.refl (lt:=lt) u1) (Sta.swap h (u:=u2) (v:=[x]) fun z hz y hy=>by simp at hy;subst hy;exact h2 z hz)
  simpa using this.symm
theorem merge_halves (h:Swo lt) {L1 L2 u v P R:List α} (hl:Srt lt (L1 ++ u)) (hr:Srt lt (v ++ L2)) (huv:∀ x ∈ u,∀ y ∈ v,lt y x = true) (hL:∀ x ∈ L1,∀ y ∈ L2,lt y x = false)
  (hP:Srt lt P) (sP:Sta lt P (L1 ++ v)) (hR:Srt lt R) (sR:Sta lt R (u ++ L2)):Srt lt (P ++ R) ∧ Sta lt (P ++ R) ((L1 ++ u) ++ (v ++ L2)):=by
 obtain ⟨a1,a2,a3⟩:=srt_append.1 hl
 obtain ⟨b1,b2,b3⟩:=srt_append.1 hr
 refine ⟨srt_append.2 ⟨hP,hR,fun x hx y hy=>?_⟩,?_⟩
 ·have hx':=sP.mem h hx
  have hy':=sR.mem h hy
  rcases List.mem_append.1 hx' with hx' | hx' <;> rcases List.mem_append.1 hy' with hy' | hy'
  ·exact a3 x hx' y hy'
  ·exact hL x hx' y hy'
  ·exact lt_asymm h (huv y hy' x hx')
  ·exact b3 x hx' y hy'
 ·have s1:=(sP.append sR)
  have s2:Sta lt ((L1 ++ v) ++ (u ++ L2)) ((L1 ++ u) ++ (v ++ L2)):=by
   have:=Sta.append (Sta.append (.refl (lt:=lt) L1) (Sta.swap h huv).symm) (.refl (lt:=lt) L2)
   simpa using this
  exact s1.trans s2
end
end
end Go.Proofs.YtahpnackkmbmgaaGreatDoor
end
section
namespace Go.Proofs.YtahpnackkmbmgaaGreatDoor.Vm
open Go.RowKit
def rowS (fs:List (ByteArray × Ty)) (tail:Ty):Ty:=fs.foldr (fun f r=>.mk 11 f.1 0 [f.2,r]) tail
def Spine:Ty → Prop
 | .mk op _ _ [_,r]=>op = 11 → Spine r
 | .mk op _ _ _=>op ≠ 11
def fieldsS:Ty → List (ByteArray × Ty)
 | .mk op nm _ [x,r]=>if op = 11 then (nm,x) :: fieldsS r else []
 | _=>[]
def tailS:Ty → Ty
 | .mk op nm n [x,r]=>if op = 11 then tailS r else .mk op nm n [x,r]
 | t=>t
theorem fields_end:∀ {t:Ty},t.op ≠ 11 → fieldsS t = [] ∧ tailS t = t
 | .mk op nm n [],_=>⟨rfl,rfl⟩
 | .mk op nm n [x],_=>⟨rfl,rfl⟩
 | .mk op nm n [x,r],h=>by
  have h':op ≠ 11:=h
  unfold fieldsS tailS
  rw [if_neg h',if_neg h']
  exact ⟨rfl,rfl⟩
 | .mk op nm n (x :: y :: z :: l),_=>⟨rfl,rfl⟩
theorem fields_step:∀ {t:Ty},Spine t → t.op = 11 → ∃ a b,t.kids = [a,b] ∧ Spine b ∧ fieldsS t = (t.name,a) :: fieldsS b ∧ tailS t = tailS b
 | .mk op nm n [],h,h'=>absurd h' h
 | .mk op nm n [x],h,h'=>absurd h' h
 | .mk op nm n [x,r],h,h'=>by
  have e:op = 11:=h'
  subst e
  refine ⟨x,r,rfl,h rfl,?_,?_⟩
  ·conv=>lhs;unfold fieldsS
   rw [if_pos rfl];rfl
  ·conv=>lhs;unfold tailS
   rw [if_pos rfl]
 | .mk op nm n (x :: y :: z :: l),h,h'=>absurd h' h
def ltF (a b:ByteArray × Ty):Bool:=Op.bytesLess a.1.toList b.1.toList
theorem sort_snoc (ds:List (ByteArray × Ty)) (d:ByteArray × Ty):sortS ltF (ds ++ [d]) = insS ltF d (sortS ltF ds):=by
 unfold sortS
 rw [List.foldl_append]
 rfl
theorem ins_len {α:Type} {lt:α → α → Bool} (x:α):∀ l:List α,(insS lt x l).length = l.length + 1
 | []=>rfl
 | y :: l=>by
  unfold insS
  split
  ·rfl
  ·simp [ins_len x l]
def canonF:Nat → Ty → Ty
 | 0,t=>t
 | m + 1,t=>if t.op = 11 then rowS ((sortS ltF (fieldsS t)).map fun f=>(f.1,canonF m f.2)) (tailS t) else .mk t.op t.name t.n (t.kids.map (canonF m))
def canonS (t:Ty):Ty:=canonF t.parts.length t
theorem fields_less:∀ (n:Nat) (t:Ty),t.parts.length ≤ n → ∀ f ∈ fieldsS t,f.2.parts.length < t.parts.length:=by
 intro n
 induction n with
 | zero=>intro t h;have:=parts_pos t;omega
 | succ n ih =>
  intro t h f hf
  obtain ⟨op,nm,k,ks⟩:=t
  match ks,hf with
  | [],hf=>simp [fieldsS] at hf
  | [x],hf=>simp [fieldsS] at hf
  | x :: y :: z :: l,hf=>simp [fieldsS] at hf
  | [x,r],hf =>
   have hk:=kids_le (.mk op nm k [x,r])
   have hx:=hk.2 x (by simp [Ty.kids])
   have hr:=hk.2 r (by simp [Ty.kids])
   unfold fieldsS at hf
   by_cases h11:op = 11
   ·rw [if_pos h11] at hf
    rcases List.mem_cons.1 hf with rfl | hf
    ·exact hx
    ·have:=ih r (by omega) f hf
     omega
   ·rw [if_neg h11] at hf;simp at hf
theorem sort_mem {α:Type} {lt:α → α → Bool}:∀ (l acc:List α) (z:α),z ∈ l.foldl (fun acc x=>insS lt x acc) acc → z ∈ acc ∨ z ∈ l
 | [],acc,z,h=>.inl h
 | x :: l,acc,z,h=>by
  rcases sort_mem l (insS lt x acc) z h with h | h
  ·rcases ins_mem x acc z h with rfl | h
   ·exact .inr (List.mem_cons_self ..)
   ·exact .inl h
  ·exact .inr (List.mem_cons_of_mem _ h)
theorem sortS_mem {α:Type} {lt:α → α → Bool} {l:List α} {z:α} (h:z ∈ sortS lt l):z ∈ l:=by
 rcases sort_mem l [] z h with h | h
 ·simp at h
 ·exact h
theorem canon_fuel:∀ (n m:Nat) (t:Ty),t.parts.length ≤ n → t.parts.length ≤ m → canonF n t = canonF m t:=by
 intro n
 induction n with
 | zero=>intro m t h;have:=parts_pos t;omega
 | succ n ih =>
  intro m t h h'
  obtain ⟨m,rfl⟩:∃ k,m = k + 1:=⟨m - 1,by have:=parts_pos t;omega⟩
  unfold canonF
  by_cases h11:t.op = 11
  ·rw [if_pos h11,if_pos h11]
   congr 1
   apply List.map_congr_left
   intro f hf
   have:=fields_less _ t (Nat.le_refl _) f (sortS_mem hf)
   rw [ih m f.2 (by omega) (by omega)]
  ·rw [if_neg h11,if_neg h11]
   congr 1
   apply List.map_congr_left
   intro x hx
   have:=(kids_le t).2 x hx
   exact ih m x (by omega) (by omega)
theorem canon_row {t:Ty} (h:t.op = 11):canonS t = rowS ((sortS ltF (fieldsS t)).map fun f=>(f.1,canonS f.2)) (tailS t):=by
 unfold canonS
 obtain ⟨m,hm⟩:∃ m,t.parts.length = m + 1:=⟨t.parts.length - 1,by have:=parts_pos t;omega⟩
 rw [hm]
 conv=>lhs;unfold canonF
 rw [if_pos h]
 congr 1
 apply List.map_congr_left
 intro f hf
 have:=fields_less _ t (Nat.le_refl _) f (sortS_mem hf)
 rw [canon_fuel m f.2.parts.length f.2 (by omega) (Nat.le_refl _)]
theorem canon_node {t:Ty} (h:t.op ≠ 11):canonS t = .mk t.op t.name t.n (t.kids.map canonS):=by
 unfold canonS
 obtain ⟨m,hm⟩:∃ m,t.parts.length = m + 1:=⟨t.parts.length - 1,by have:=parts_pos t;omega⟩
 rw [hm]
 conv=>lhs;unfold canonF
 rw [if_neg h]
 congr 1
 apply List.map_congr_left
 intro x hx
 have:=(kids_le t).2 x hx
 exact canon_fuel m x.parts.length x (by omega) (Nat.le_refl _)
theorem fields_mem:∀ (n:Nat) (t:Ty),t.parts.length ≤ n → ∀ f ∈ fieldsS t,f.2 ∈ t.parts:=by
 intro n
 induction n with
 | zero=>intro t h;have:=parts_pos t;omega
 | succ n ih =>
  intro t h f hf
  obtain ⟨op,nm,k,ks⟩:=t
  match ks,hf with
  | [],hf=>simp [fieldsS] at hf
  | [x],hf=>simp [fieldsS] at hf
  | x :: y :: z :: l,hf=>simp [fieldsS] at hf
  | [x,r],hf =>
   have hk:=kids_le (.mk op nm k [x,r])
   have hr:=hk.2 r (by simp [Ty.kids])
   unfold fieldsS at hf
   by_cases h11:op = 11
   ·rw [if_pos h11] at hf
    rw [parts_kids]
    simp only [Ty.kids,List.flatMap_cons,List.flatMap_nil,List.append_nil]
    rcases List.mem_cons.1 hf with rfl | hf
    ·refine List.mem_cons_of_mem _ (List.mem_append_left _ ?_)
     rw [parts_eq];exact List.mem_cons_self ..
    ·exact List.mem_cons_of_mem _ (List.mem_append_right _ (ih r (by omega) f hf))
   ·rw [if_neg h11] at hf;simp at hf
theorem parts_trans {t x y:Ty}:y ∈ x.parts → x ∈ t.parts → y ∈ t.parts:=by
 intro hy
 induction t using Ty.ind with
 | h t ih =>
  intro hx
  rw [parts_kids] at hx ⊢
  rcases List.mem_cons.1 hx with rfl | hx
  ·rwa [parts_kids] at hy
  ·obtain ⟨k,hk,hx⟩:=List.mem_flatMap.1 hx
   exact List.mem_cons_of_mem _ (List.mem_flatMap.2 ⟨k,hk,ih k hk hx⟩)
theorem sort_len {α:Type} {lt:α → α → Bool}:∀ (l acc:List α),(l.foldl (fun acc x=>insS lt x acc) acc).length = acc.length + l.length
 | [],acc=>rfl
 | x :: l,acc=>by
  rw [List.foldl_cons,sort_len l]
  simp only [ins_len,List.length_cons]
  omega
theorem sortS_len {α:Type} {lt:α → α → Bool} (l:List α):(sortS lt l).length = l.length:=by
 unfold sortS
 rw [sort_len]
 simp
def c4B (op n:Int):Bool:=decide (0 ≤ n) && (decide (op = 7 ∨ op = 10) || decide (n = 0))
theorem shape_none {iw:ByteArray → Bool} {t:Ty} {s:Int} (h:kidsS t.op = none):shapeB iw t s = false:=by
 rw [shape_eq];unfold headB;rw [h];rfl
def c3B (iw:ByteArray → Bool) (op:Int) (nm:ByteArray):Bool:=if op = 11 then iw nm else decide (nm.toList = [])
theorem shape_some {iw:ByteArray → Bool} {op:Int} {nm:ByteArray} {n:Int} {kids:List Ty} {s:Int} {k:List Int} (h:kidsS op = some k) :
  shapeB iw (.mk op nm n kids) s = (((decide (8 ≤ op) == (s == 114)) && (decide (kids.length = k.length) && (c3B iw op nm && c4B op n))) && shapesB iw kids k):=by
 rw [shape_eq];unfold headB c4B c3B;simp only [Ty.op,Ty.name,Ty.n,Ty.kids];rw [h];rfl
theorem ins_perm {α:Type} {lt:α → α → Bool} (x:α):∀ l:List α,(insS lt x l).Perm (x :: l)
 | []=>.refl _
 | y :: l=>by
  unfold insS
  split
  ·exact .refl _
  ·exact ((ins_perm x l).cons y).trans (.swap x y l)
theorem sort_perm {α:Type} {lt:α → α → Bool}:∀ (l acc:List α),(l.foldl (fun acc x=>insS lt x acc) acc).Perm (acc ++ l)
 | [],acc=>by simp
 | x :: l,acc=>by
  rw [List.foldl_cons]
  refine (sort_perm l _).trans ?_
  have h1:(insS lt x acc ++ l).Perm ((x :: acc) ++ l):=(ins_perm x acc).append_right l
  exact h1.trans List.perm_middle.symm
theorem sortS_perm {α:Type} (lt:α → α → Bool) (l:List α):(sortS lt l).Perm l:=by
 have:=sort_perm (lt:=lt) l []
 simpa [sortS] using this
def fldParts (fs:List (ByteArray × Ty)):Nat:=(fs.map fun f=>1 + f.2.parts.length).sum
theorem fldParts_perm {a b:List (ByteArray × Ty)} (h:a.Perm b):fldParts a = fldParts b:=(h.map _).sum_nat
theorem rowS_parts (tl:Ty):∀ fs:List (ByteArray × Ty),(rowS fs tl).parts.length = fldParts fs + tl.parts.length
 | []=>by simp [rowS,fldParts]
 | f :: fs=>by
  have ih:=rowS_parts tl fs
  unfold rowS at ih ⊢
  rw [List.foldr_cons,parts_kids]
  simp only [Ty.kids,List.length_cons,List.flatMap_cons,List.flatMap_nil,List.append_nil,List.length_append,ih,fldParts,List.map_cons,List.sum_cons]
  omega
theorem spine_parts:∀ (n:Nat) (t:Ty),t.parts.length ≤ n → Spine t → t.parts.length = fldParts (fieldsS t) + (tailS t).parts.length:=by
 intro n
 induction n with
 | zero=>intro t h;have:=parts_pos t;omega
 | succ n ih =>
  intro t hn hsp
  by_cases h11:t.op = 11
  ·obtain ⟨a,b,hk,hsb,hf,ht⟩:=fields_step hsp h11
   have hb:=(kids_le t).2 b (by rw [hk];simp)
   have:=ih b (by omega) hsb
   rw [hf,ht,parts_kids,hk]
   simp only [List.length_cons,List.flatMap_cons,List.flatMap_nil,List.append_nil,List.length_append,this,fldParts,List.map_cons,List.sum_cons]
   omega
  ·obtain ⟨h1,h2⟩:=fields_end h11
   rw [h1,h2]
   simp [fldParts]
theorem tail_mem:∀ {t:Ty},Spine t → tailS t ∈ t.parts:=by
 intro t
 induction t using Ty.ind with
 | h t ih =>
  intro hsp
  by_cases h11:t.op = 11
  ·obtain ⟨a,b,hk,hsb,hf,ht⟩:=fields_step hsp h11
   rw [ht,parts_kids]
   exact List.mem_cons_of_mem _ (List.mem_flatMap.2 ⟨b,by rw [hk];simp,ih b (by rw [hk];simp) hsb⟩)
  ·rw [(fields_end h11).2,parts_eq];exact List.mem_cons_self ..
theorem sum_map_congr {α:Type} {f g:α → Nat}:∀ {l:List α},(∀ x ∈ l,f x = g x) → (l.map f).sum = (l.map g).sum
 | [],_=>rfl
 | x :: l,h=>by
  rw [List.map_cons,List.map_cons,List.sum_cons,List.sum_cons,h x (List.mem_cons_self ..),sum_map_congr fun y hy=>h y (List.mem_cons_of_mem _ hy)]
theorem canon_len:∀ (n:Nat) (t:Ty),t.parts.length ≤ n → (∀ x ∈ t.parts,Spine x) → (canonS t).parts.length = t.parts.length:=by
 intro n
 induction n with
 | zero=>intro t h;have:=parts_pos t;omega
 | succ n ih =>
  intro t hn hsp
  have ht:Spine t:=hsp t (by rw [parts_eq];exact List.mem_cons_self ..)
  by_cases h11:t.op = 11
  ·rw [canon_row h11,rowS_parts,spine_parts _ t (Nat.le_refl _) ht]
   congr 1
   rw [← fldParts_perm (sortS_perm ltF (fieldsS t))]
   unfold fldParts
   rw [List.map_map]
   refine sum_map_congr fun f hf=>?_
   have h1:=fields_less _ t (Nat.le_refl _) f (sortS_mem hf)
   have h2:=fields_mem _ t (Nat.le_refl _) f (sortS_mem hf)
   simp only [Function.comp]
   rw [ih f.2 (by omega) fun x hx=>hsp x (parts_trans hx h2)]
  ·rw [canon_node h11,parts_kids,parts_kids t]
   simp only [Ty.kids,List.length_cons,List.length_flatMap,List.map_map]
   congr 1
   refine sum_map_congr fun x hx=>?_
   have h1:=(kids_le t).2 x hx
   simp only [Function.comp]
   exact ih x (by omega) fun y hy=>hsp y (by rw [parts_kids];exact List.mem_cons_of_mem _ (List.mem_flatMap.2 ⟨x,hx,hy⟩))
def SpineAll (t:Ty):Prop:=∀ x ∈ t.parts,Spine x
theorem SpineAll.self {t:Ty} (h:SpineAll t):Spine t:=h t (by rw [parts_eq];exact List.mem_cons_self ..)
theorem SpineAll.mk {t:Ty} (h:Spine t) (hk:∀ x ∈ t.kids,SpineAll x):SpineAll t:=fun y hy=>by
 rw [parts_kids] at hy
 rcases List.mem_cons.1 hy with rfl | hy
 ·exact h
 ·obtain ⟨x,hx,hy⟩:=List.mem_flatMap.1 hy
  exact hk x hx y hy
theorem rowS_op_ne (f:ByteArray × Ty) (fs:List (ByteArray × Ty)) (tl:Ty):rowS (f :: fs) tl = .mk 11 f.1 0 [f.2,rowS fs tl]:=rfl
theorem rowS_spine {tl:Ty} (ht:SpineAll tl):∀ {fs:List (ByteArray × Ty)},(∀ f ∈ fs,SpineAll f.2) → SpineAll (rowS fs tl)
 | [],_=>ht
 | f :: fs,h=>by
  have ih:=rowS_spine ht (fs:=fs) fun g hg=>h g (List.mem_cons_of_mem _ hg)
  rw [rowS_op_ne]
  refine .mk (fun _=>ih.self) fun x hx=>?_
  simp only [Ty.kids,List.mem_cons,List.not_mem_nil,or_false] at hx
  rcases hx with rfl | rfl
  ·exact h f (List.mem_cons_self ..)
  ·exact ih
theorem spine_end {t:Ty} (h:t.op ≠ 11):Spine t:=by
 obtain ⟨op,nm,n,ks⟩:=t
 match ks with
 | []=>exact h
 | [a]=>exact h
 | [a,b]=>exact fun e=>absurd e h
 | a :: b :: c :: l=>exact h
theorem shapes_mem (iw:ByteArray → Bool):∀ (ts:List Ty) (ks:List Int),shapesB iw ts ks = true → ∀ x ∈ ts,∃ c,shapeB iw x c = true
 | [],_,_,x,hx=>by simp at hx
 | t :: ts,[],h,x,hx=>by rw [shapesB] at h;cases h
 | t :: ts,k :: ks,h,x,hx=>by
  rw [shapesB,Bool.and_eq_true] at h
  rcases List.mem_cons.1 hx with rfl | hx
  ·exact ⟨k,h.1⟩
  ·exact shapes_mem iw ts ks h.2 x hx
theorem shape_spine (iw:ByteArray → Bool) (t:Ty):∀ s,shapeB iw t s = true → ∀ x ∈ t.parts,Spine x:=by
 induction t using Ty.ind with
 | h t ih =>
  intro s hs x hx
  cases hko:kidsS t.op with
  | none=>rw [shape_none hko] at hs;cases hs
  | some k =>
   obtain ⟨op,nm,n,kids⟩:=t
   rw [shape_some (k:=k) (by exact hko)] at hs
   simp only [Bool.and_eq_true,decide_eq_true_eq] at hs
   obtain ⟨⟨_,hlen,_⟩,hss⟩:=hs
   rw [parts_kids] at hx
   rcases List.mem_cons.1 hx with rfl | hx
   ·simp only [Ty.op] at hko
    by_cases h11:op = 11
    ·subst h11
     have hk:k.length = 2:=by
      have:kidsS 11 = some [116,114]:=by decide
      rw [this] at hko
      injection hko with hko
      rw [← hko];rfl
     rw [hk] at hlen
     match kids,hlen,ih,hss with
     | [a,b],_,ih,hss =>
      obtain ⟨c,hc⟩:=shapes_mem iw _ _ hss b (by simp)
      exact fun _=>ih b (by simp [Ty.kids]) c hc b (by rw [parts_eq];exact List.mem_cons_self ..)
    ·match kids with
     | []=>exact h11
     | [a]=>exact h11
     | [a,b]=>exact fun h=>absurd h h11
     | a :: b :: c :: l=>exact h11
   ·obtain ⟨y,hy,hx⟩:=List.mem_flatMap.1 hx
    obtain ⟨c,hc⟩:=shapes_mem iw _ _ hss y hy
    exact ih y hy c hc x hx
def isVar (t:Ty):Bool:=(t.op == 7) || (t.op == 10)
def varsL:List Ty → List Int → List Int
 | [],acc=>acc
 | t :: ts,acc=>varsL ts (if isVar t = true ∧ t.n ∉ acc then acc ++ [t.n] else acc)
def varsS (t:Ty):List Int:=varsL (canonS t).parts []
theorem shape_in {W:ByteArray → Bool} {t:Ty} {s:Int} (h:shapeB W t s = true):∃ k,kidsS t.op = some k ∧ (decide (8 ≤ t.op) == (s == 114)) = true ∧ t.kids.length = k.length ∧ 0 ≤ t.n ∧ shapesB W t.kids k = true:=by
 rw [shape_eq] at h
 cases hk:kidsS t.op with
 | none=>unfold headB at h;rw [hk] at h;simp at h
 | some k =>
  unfold headB at h
  rw [hk] at h
  simp only [Bool.and_eq_true,decide_eq_true_eq,Option.getD_some] at h
  exact ⟨k,rfl,h.1.1,h.1.2.1,h.1.2.2.2.1,h.2⟩
theorem shape_ty {W:ByteArray → Bool} {t:Ty} (h:shapeB W t 116 = true):0 ≤ t.n ∧ (((t.op = 1 ∨ t.op = 2 ∨ t.op = 3 ∨ t.op = 7) ∧ t.kids = []) ∨ (t.op = 4 ∧ ∃ a b,t.kids = [a,b] ∧ shapeB W a 116 = true ∧ shapeB W b 116 = true) ∨ ((t.op = 5 ∨ t.op = 6) ∧ ∃ a,t.kids = [a] ∧ shapeB W a 114 = true)):=by
 obtain ⟨k,hk,h1,h2,h3,h4⟩:=shape_in h
 refine ⟨h3,?_⟩
 have h1:¬ 8 ≤ t.op:=fun h8=>by rw [decide_eq_true h8] at h1;exact absurd h1 (by decide)
 unfold kidsS at hk
 split at hk
 ·rename_i ho
  injection hk with hk;subst hk
  exact .inl ⟨by omega,List.eq_nil_of_length_eq_zero h2⟩
 ·split at hk
  ·rename_i ho
   injection hk with hk;subst hk
   match t.kids,h2,h4 with
   | [a,b],_,h4=>simp only [shapesB,Bool.and_eq_true] at h4;exact .inr (.inl ⟨ho,a,b,rfl,h4.1,h4.2.1⟩)
  ·split at hk
   ·rename_i ho
    injection hk with hk;subst hk
    match t.kids,h2,h4 with
    | [a],_,h4=>simp only [shapesB,Bool.and_eq_true] at h4;exact .inr (.inr ⟨ho,a,rfl,h4.1⟩)
   ·split at hk
    ·omega
    ·cases hk
theorem shape_rw {W:ByteArray → Bool} {t:Ty} (h:shapeB W t 114 = true):0 ≤ t.n ∧ (((t.op = 8 ∨ t.op = 9 ∨ t.op = 10) ∧ t.kids = []) ∨ (t.op = 11 ∧ ∃ a b,t.kids = [a,b] ∧ shapeB W a 116 = true ∧ shapeB W b 114 = true)):=by
 obtain ⟨k,hk,h1,h2,h3,h4⟩:=shape_in h
 refine ⟨h3,?_⟩
 have h1:8 ≤ t.op:=by
  by_cases h8:8 ≤ t.op
  ·exact h8
  ·rw [decide_eq_false h8] at h1;exact absurd h1 (by decide)
 unfold kidsS at hk
 split at hk
 ·rename_i ho
  injection hk with hk;subst hk
  exact .inl ⟨by omega,List.eq_nil_of_length_eq_zero h2⟩
 ·split at hk
  ·omega
  ·split at hk
   ·omega
   ·split at hk
    ·rename_i ho
     injection hk with hk;subst hk
     match t.kids,h2,h4 with
     | [a,b],_,h4=>simp only [shapesB,Bool.and_eq_true] at h4;exact .inr ⟨ho,a,b,rfl,h4.1,h4.2.1⟩
    ·cases hk
def rowW (g:Ty → List UInt8):Bool → List (ByteArray × Ty) → List UInt8
 | _,[]=>[]
 | first,f :: fs=>(if first = true then [] else [44]) ++ (f.1.data.toList ++ (58 :: (g f.2 ++ rowW g false fs)))
def tailW (t:Ty):List UInt8:=if t.op = 9 then [124,63] else if t.op = 10 then 124 :: 39 :: Lib.itoa t.n else []
def rowT (g:Ty → List UInt8) (t:Ty):List UInt8:=rowW g true (fieldsS t) ++ tailW (tailS t)
def fromW (g:Ty → List UInt8) (t:Ty):List UInt8:=if t.op = 4 then 40 :: (g t ++ [41]) else g t
def nodeW (g:Ty → List UInt8) (t:Ty):List UInt8 :=
 if t.op = 1 then [73,110,116] else if t.op = 2 then [66,111,111,108] else if t.op = 3 then [63] else if t.op = 7 then 39 :: Lib.itoa t.n else
 if t.op = 5 then (match t.kids with | [a]=>123 :: (rowT g a ++ [125]) | _=>[]) else if t.op = 6 then (match t.kids with | [a]=>60 :: (rowT g a ++ [62]) | _=>[]) else
 if t.op = 4 then (match t.kids with | [a,b]=>fromW g a ++ (45 :: 62 :: g b) | _=>[]) else []
def txtF:Nat → Ty → List UInt8
 | 0,_=>[]
 | m + 1,t=>nodeW (txtF m) t
def txtS (t:Ty):List UInt8:=txtF t.parts.length t
theorem rowW_congr {g g':Ty → List UInt8}:∀ (fs:List (ByteArray × Ty)) (b:Bool),(∀ f ∈ fs,g f.2 = g' f.2) → rowW g b fs = rowW g' b fs
 | [],_,_=>rfl
 | f :: fs,b,h=>by rw [rowW,rowW,h f (List.mem_cons_self ..),rowW_congr fs false fun x hx=>h x (List.mem_cons_of_mem _ hx)]
theorem rowT_congr {g g':Ty → List UInt8} (t:Ty) (h:∀ x:Ty,x.parts.length < t.parts.length → g x = g' x):rowT g t = rowT g' t:=by
 unfold rowT
 rw [rowW_congr _ true fun f hf=>h f.2 (fields_less _ t (Nat.le_refl _) f hf)]
theorem nodeW_congr {g g':Ty → List UInt8} (t:Ty) (h:∀ x:Ty,x.parts.length < t.parts.length → g x = g' x):nodeW g t = nodeW g' t:=by
 have hkl:=kids_le t
 unfold nodeW
 match hk:t.kids with
 | []=>rfl
 | [a] =>
  have h1:=hkl.2 a (by rw [hk];simp)
  dsimp only
  rw [rowT_congr a fun x hx=>h x (by omega)]
 | [a,b] =>
  have h1:=hkl.2 a (by rw [hk];simp)
  have h2:=hkl.2 b (by rw [hk];simp)
  dsimp only
  unfold fromW
  rw [h a (by omega),h b (by omega)]
 | a :: b :: c :: l=>rfl
theorem txt_fuel:∀ (n m:Nat) (t:Ty),t.parts.length ≤ n → t.parts.length ≤ m → txtF n t = txtF m t
 | 0,_,t,h,_=>by have:=parts_pos t;omega
 | _ + 1,0,t,_,h=>by have:=parts_pos t;omega
 | n + 1,m + 1,t,h1,h2=>by rw [txtF,txtF];exact nodeW_congr t fun x hx=>txt_fuel n m x (by omega) (by omega)
theorem txt_eq (t:Ty):txtS t = nodeW txtS t:=by
 unfold txtS
 have:=parts_pos t
 obtain ⟨m,hm⟩:∃ m,t.parts.length = m + 1:=⟨t.parts.length - 1,by omega⟩
 rw [hm,txtF]
 exact nodeW_congr t fun x hx=>txt_fuel m _ x (by omega) (Nat.le_refl _)
theorem rowT_at {g:Ty → List UInt8} (b:Bool) {t x y:Ty} (ho:t.op = 11) (hk:t.kids = [x,y]):rowW g b (fieldsS t) ++ tailW (tailS t) = (if b = true then [] else [44]) ++ (t.name.data.toList ++ (58 :: (g x ++ (rowW g false (fieldsS y) ++ tailW (tailS y))))):=by
 obtain ⟨op,nm,n,ks⟩:=t
 have ho:op = 11:=ho
 have hk:ks = [x,y]:=hk
 subst ho;subst hk
 rw [fieldsS,if_pos rfl,tailS,if_pos rfl,rowW]
 simp [Ty.name]
def dd:List Nat → List Nat
 | []=>[]
 | x :: l=>match l.any (Nat.beq x) with | true=>dd l | false=>x :: dd l
section
section
variable {I0:Nat → Nat → Prop} {X:Nat → Prop} {w0:W0}
end
section
variable {qa:IntKind → Int → Int} {qb:Int → Int → Int} {qc:Int → Int → Int} {qd:Int → Int → Int} {qe:Int → Int → Int} {qg:Int → Int → Int} {qh:BinOp → IntKind → Int → IntKind → Int → Option Int} {qi:Int → Int → Bool} {qj:Int → Int → Bool} {qk:Int → Int → Bool} {ql:Int → Prop → Prop} {qm:List UInt8 → List UInt8 → Bool} {qn:List UInt8 → List UInt8 → Bool} {qo:ByteArray → List UInt8} {qp:ByteArray → ByteArray → ByteArray} {qq:ByteArray → ByteArray → Prop → Prop} {qt:ByteArray → Int} {qu:ByteArray → Int → Option Int} {qv:ByteArray → Int → Int → Option ByteArray} {qw:List (List D) → Option ByteArray} {qx:ByteArray → List (List D)} {qy:Int → Nat → Option Nat} {qz:List (List D) → Int} {va:List (List D) → Int → Option (List D)} {vc:List (List D) → Int → Int → Option (List (List D))} {vd:List (List D) → List (List D) → List (List D)} {ve:List (List D) → Int → List D → List (List D)} {vf:List (List D) → List (List D) → Prop → Prop} {vg:List (R × R) → R → Option R} {vh:List (R × R) → R → R → List (R × R)} {vj:List D → List D → Bool} {vk:Int → List D → (List (List D) → Prop) → Prop} {vl:Nat → List R → (List R → Prop) → Prop} {vm:Nat → List V → List O → (V → Prop) → Prop} {vn:Nat → List V → S → (V → S → Prop) → Prop} {vo:Nat → List V → List Nat → S → (V → S → Prop) → Prop} {vp:Nat → (Bool → Prop) → Prop} {vq:Nat → (Bool → Prop) → Prop} {vr:Nat → (List V → List O → Prop) → List V → S → Prop} {vt:(S → Prop) → S → Prop} {vu:Op → Option Nat → S → (S → Prop) → Prop} {vv:Array Oper → S → (S → Prop) → Prop} {vw:Code → (S → (X → S → Prop) → Prop) → S → (X → S → Prop) → Prop}
end
end
end Go.Proofs.YtahpnackkmbmgaaGreatDoor.Vm
end
section
namespace Go.Proofs.YtahpnackkmbmgaaGreatDoor.Vm
open Go.RowKit
set_option maxRecDepth 100000
set_option maxHeartbeats 4000000
def WrU (f:Nat) (t:Ty) (out:List UInt8):Prop:=∀ l:List UInt8,l.length + out.length ≤ 137438953472 → SpecO f [.ptr 0 0,.ag (ofD (cT t))] (penU l) (fun res os=>res = [] ∧ os = penU (l ++ out))
theorem penU_eq (l:List UInt8):penU l = [.box [.ptr 0 0,.own 1],.row false 5 (rU l)]:=rfl
theorem write_leaf (t:Ty) (hop:t.op = 1 ∨ t.op = 2 ∨ t.op = 3):WrU 25 t (txtS t):=by
 intro l hl
 rw [txt_eq] at hl ⊢
 unfold nodeW at hl ⊢
 have c1:=wsU_s l ⟨#[73,110,116]⟩
 have c2:=wsU_s l ⟨#[66,111,111,108]⟩
 have c3:=wbU_s l 63
 obtain ⟨op,nm,n,ks⟩:=t
 simp only [Ty.op] at hop hl ⊢
 rw [cT]
 generalize rT ks = K
 rcases hop with rfl | rfl | rfl
 ·replace c1:=c1 (by rw [show (⟨#[73,110,116]⟩:ByteArray).size = 3 from rfl];simpa using hl)
  show SpecO _ _ _ (fun res os=>res = [] ∧ os = penU (l ++ btl ⟨#[73,110,116]⟩))
  clear c2 c3
  rw [penU_eq] at *
  rw [penU_eq] at *
  generalize rU (l ++ btl ⟨#[73,110,116]⟩) = R1 at *
  generalize rU l = R0 at *
  clear hl
  refine speco_of Tryz.func25 rfl (by kernel_rfl) (by kernel_rfl) (by kernel_rfl) fun qa qb qc qd qe qg qh qi qj qk ql qm qn qo qp qq qt qu qv qw qx qy qz va vc vd ve vf vg vh vj vk vl vm vn vo vp vq vr vt vu vv vw hA=>?_
  obtain ⟨e1,e2,e3,e4,e5,e6,e7,e8,e9⟩:=ar_at hA
  have h1:qk 1 1 = true:=e9 _ _
  iterate 2 (try cbv;repeat ((first | with_reducible apply next_at hA | rw [h1]);cbv))
  try simp (maxSteps:=4000000) only [nc] at *
  refine callo_at hA [0,1] c1 ⟨rfl,rfl,rfl,rfl,rfl,rfl,rfl⟩ ?_
  rintro _ _ ⟨rfl,rfl⟩
  iterate 2 (try cbv;repeat ((first | with_reducible apply next_at hA);cbv))
  try simp (maxSteps:=4000000) only [nc] at *
  exact keep_is hA [0,1] ⟨rfl,rfl,rfl,rfl,rfl,rfl,rfl,rfl⟩ ⟨rfl,rfl⟩
 ·replace c2:=c2 (by rw [show (⟨#[66,111,111,108]⟩:ByteArray).size = 4 from rfl];simpa using hl)
  show SpecO _ _ _ (fun res os=>res = [] ∧ os = penU (l ++ btl ⟨#[66,111,111,108]⟩))
  clear c1 c3
  rw [penU_eq] at *
  rw [penU_eq] at *
  generalize rU (l ++ btl ⟨#[66,111,111,108]⟩) = R1 at *
  generalize rU l = R0 at *
  clear hl
  refine speco_of Tryz.func25 rfl (by kernel_rfl) (by kernel_rfl) (by kernel_rfl) fun qa qb qc qd qe qg qh qi qj qk ql qm qn qo qp qq qt qu qv qw qx qy qz va vc vd ve vf vg vh vj vk vl vm vn vo vp vq vr vt vu vv vw hA=>?_
  obtain ⟨e1,e2,e3,e4,e5,e6,e7,e8,e9⟩:=ar_at hA
  have h1:qk 2 1 = false:=e9 _ _
  have h2:qk 2 2 = true:=e9 _ _
  iterate 2 (try cbv;repeat ((first | with_reducible apply next_at hA | rw [h1] | rw [h2]);cbv))
  try simp (maxSteps:=4000000) only [nc] at *
  refine callo_at hA [0,1] c2 ⟨rfl,rfl,rfl,rfl,rfl,rfl,rfl⟩ ?_
  rintro _ _ ⟨rfl,rfl⟩
  iterate 2 (try cbv;repeat ((first | with_reducible apply next_at hA);cbv))
  try simp (maxSteps:=4000000) only [nc] at *
  exact keep_is hA [0,1] ⟨rfl,rfl,rfl,rfl,rfl,rfl,rfl,rfl⟩ ⟨rfl,rfl⟩
 ·replace c3:=c3 (by simpa using hl)
  show SpecO _ _ _ (fun res os=>res = [] ∧ os = penU (l ++ [63]))
  replace c3:SpecO 46 [.ptr 0 0,vi .u8 63] _ _:=c3
  clear c1 c2
  rw [penU_eq] at *
  rw [penU_eq] at *
  generalize rU (l ++ [63]) = R1 at *
  generalize rU l = R0 at *
  clear hl
  refine speco_of Tryz.func25 rfl (by kernel_rfl) (by kernel_rfl) (by kernel_rfl) fun qa qb qc qd qe qg qh qi qj qk ql qm qn qo qp qq qt qu qv qw qx qy qz va vc vd ve vf vg vh vj vk vl vm vn vo vp vq vr vt vu vv vw hA=>?_
  obtain ⟨e1,e2,e3,e4,e5,e6,e7,e8,e9⟩:=ar_at hA
  have h1:qk 3 1 = false:=e9 _ _
  have h2:qk 3 2 = false:=e9 _ _
  have h3:qk 3 3 = true:=e9 _ _
  iterate 2 (try cbv;repeat ((first | with_reducible apply next_at hA | rw [h1] | rw [h2] | rw [h3]);cbv))
  try simp (maxSteps:=4000000) only [nc] at *
  refine callo_at hA [0,1] c3 ⟨rfl,rfl,rfl,rfl,rfl,rfl,rfl⟩ ?_
  rintro _ _ ⟨rfl,rfl⟩
  iterate 2 (try cbv;repeat ((first | with_reducible apply next_at hA);cbv))
  try simp (maxSteps:=4000000) only [nc] at *
  exact keep_is hA [0,1] ⟨rfl,rfl,rfl,rfl,rfl,rfl,rfl,rfl⟩ ⟨rfl,rfl⟩
theorem write_var (nm:ByteArray) (n:Int) (ks:List Ty) (h0:0 ≤ n) (h1:n ≤ 9223372036854775807):WrU 25 (.mk 7 nm n ks) (39 :: Lib.itoa n):=by
 intro l hl
 have c1:=wsU_s l (⟨#[39]⟩ ++ ⟨(Lib.itoa n).toArray⟩)
 have hi:=itoa_c n (by omega) h1
 have hb:btl (⟨#[39]⟩ ++ ⟨(Lib.itoa n).toArray⟩:ByteArray) = 39 :: Lib.itoa n:=by unfold btl;simp
 have hz:(⟨#[39]⟩ ++ ⟨(Lib.itoa n).toArray⟩:ByteArray).size = (39 :: Lib.itoa n).length:=by rw [← hb,btl_size]
 replace c1:=c1 (by rw [hz];exact hl)
 rw [hb] at c1
 have hfit:(⟨#[39]⟩:ByteArray).size + (⟨(Lib.itoa n).toArray⟩:ByteArray).size ≤ 4611686018427387904:=by
  have h2:(⟨#[39]⟩ ++ ⟨(Lib.itoa n).toArray⟩:ByteArray).size = (⟨#[39]⟩:ByteArray).size + (⟨(Lib.itoa n).toArray⟩:ByteArray).size:=by simp
  rw [← h2,hz];omega
 rw [cT]
 generalize rT ks = K
 clear hz hb
 rw [penU_eq] at *
 rw [penU_eq] at *
 generalize rU (l ++ 39 :: Lib.itoa n) = R1 at *
 generalize rU l = R0 at *
 clear hl
 generalize (⟨(Lib.itoa n).toArray⟩:ByteArray) = D at *
 obtain ⟨S,hS⟩:∃ S,S = (⟨#[39]⟩ ++ D:ByteArray):=⟨_,rfl⟩
 rw [← hS] at c1
 refine speco_of Tryz.func25 rfl (by kernel_rfl) (by kernel_rfl) (by kernel_rfl) fun qa qb qc qd qe qg qh qi qj qk ql qm qn qo qp qq qt qu qv qw qx qy qz va vc vd ve vf vg vh vj vk vl vm vn vo vp vq vr vt vu vv vw hA=>?_
 obtain ⟨e1,e2,e3,e4,e5,e6,e7,e8,e9⟩:=ar_at hA
 obtain ⟨s1,s2,s3,s4,s5,s6,s7⟩:=str_at hA
 have h1:qk 7 1 = false:=e9 _ _
 have h2:qk 7 2 = false:=e9 _ _
 have h3:qk 7 3 = false:=e9 _ _
 have h7:qk 7 7 = true:=e9 _ _
 have hc:qp ⟨#[39]⟩ D = S:=by rw [s4,hS]
 iterate 2 (try cbv;repeat ((first | with_reducible apply next_at hA | rw [h1] | rw [h2] | rw [h3] | rw [h7] | refine call_at hA _ hi rfl ?_ | refine calm_at hA _ hi ?_);cbv))
 try simp (maxSteps:=4000000) only [nc] at *
 refine fits_at hA hfit ?_
 cbv
 rw [hc]
 iterate 2 (try cbv;repeat ((first | with_reducible apply next_at hA);cbv))
 try simp (maxSteps:=4000000) only [nc] at *
 refine callo_at hA [0,1] c1 ⟨rfl,rfl,rfl,rfl,rfl,rfl,rfl⟩ ?_
 rintro _ _ ⟨rfl,rfl⟩
 iterate 2 (try cbv;repeat ((first | with_reducible apply next_at hA);cbv))
 try simp (maxSteps:=4000000) only [nc] at *
 exact keep_is hA [0,1] ⟨rfl,rfl,rfl,rfl,rfl,rfl,rfl,rfl⟩ ⟨rfl,rfl⟩
end Go.Proofs.YtahpnackkmbmgaaGreatDoor.Vm
end
section
namespace Go.Proofs.YtahpnackkmbmgaaGreatDoor.Vm
open Go.RowKit
def Mod (t:Ty):Prop:=∀ x ∈ t.parts,x.name.size ≤ 32 ∧ 0 ≤ x.n ∧ x.n ≤ 9223372036854775807
theorem Mod.kid {t x:Ty} (h:Mod t) (hx:x ∈ t.kids):Mod x:=fun y hy=>h y (by rw [parts_kids];exact List.mem_cons_of_mem _ (List.mem_flatMap.2 ⟨x,hx,hy⟩))
theorem Mod.self {t:Ty} (h:Mod t):t.name.size ≤ 32 ∧ 0 ≤ t.n ∧ t.n ≤ 9223372036854775807:=h t (by rw [parts_eq];exact List.mem_cons_self ..)
theorem parts_one {t a:Ty} (h:t.kids = [a]):t.parts.length = 1 + a.parts.length:=by rw [parts_kids,h];simp;omega
theorem parts_two {t a b:Ty} (h:t.kids = [a,b]):t.parts.length = 1 + a.parts.length + b.parts.length:=by rw [parts_kids,h];simp;omega
theorem row_end {t:Ty} (h:¬ (t.op = 11 ∧ ∃ a b,t.kids = [a,b])):fieldsS t = [] ∧ tailS t = t:=by
 obtain ⟨op,nm,n,ks⟩:=t
 match ks,h with
 | [],_=>exact ⟨rfl,rfl⟩
 | [a],_=>exact ⟨rfl,rfl⟩
 | a :: b :: c :: l,_=>exact ⟨rfl,rfl⟩
 | [a,b],h =>
  have h:op ≠ 11:=fun e=>h ⟨e,a,b,rfl⟩
  unfold fieldsS tailS
  rw [if_neg h,if_neg h]
  exact ⟨rfl,rfl⟩
theorem tailW_len (t:Ty) (h:0 ≤ t.n ∧ t.n ≤ 9223372036854775807):(tailW t).length ≤ 23:=by
 have h1:=Lib.itoa_length_le t.n (by omega) h.2
 unfold tailW
 split
 ·simp
 ·split
  ·simp;omega
  ·simp
theorem txt_len:∀ (m:Nat) (t:Ty),t.parts.length ≤ m → Mod t → (txtS t).length ≤ 64 * t.parts.length ∧ ∀ b,(rowW txtS b (fieldsS t) ++ tailW (tailS t)).length ≤ 64 * t.parts.length:=by
 intro m
 induction m with
 | zero=>intro t h;have:=parts_pos t;omega
 | succ m ih =>
  intro t hm hM
  have hkl:=kids_le t
  have hp:=parts_pos t
  have hs:=hM.self
  constructor
  ·rw [txt_eq]
   unfold nodeW
   split
   ·simp;omega
   split
   ·simp;omega
   split
   ·simp;omega
   split
   ·have h1:=Lib.itoa_length_le t.n (by omega) hs.2.2
    simp;omega
   split
   ·split
    ·rename_i a hk
     have h1:=(ih a (by have:=hkl.2 a (by rw [hk];simp);omega) (hM.kid (by rw [hk];simp))).2 true
     have h2:=parts_one hk
     unfold rowT
     simp only [List.length_cons,List.length_append,List.length_nil] at h1 ⊢
     omega
    ·simp
   split
   ·split
    ·rename_i a hk
     have h1:=(ih a (by have:=hkl.2 a (by rw [hk];simp);omega) (hM.kid (by rw [hk];simp))).2 true
     have h2:=parts_one hk
     unfold rowT
     simp only [List.length_cons,List.length_append,List.length_nil] at h1 ⊢
     omega
    ·simp
   split
   ·split
    ·rename_i a b hk
     have h1:=(ih a (by have:=hkl.2 a (by rw [hk];simp);omega) (hM.kid (by rw [hk];simp))).1
     have h2:=(ih b (by have:=hkl.2 b (by rw [hk];simp);omega) (hM.kid (by rw [hk];simp))).1
     have h3:=parts_two hk
     unfold fromW
     split <;> simp only [List.length_cons,List.length_append,List.length_nil] <;> omega
    ·simp
   ·simp
  ·intro b
   by_cases h:t.op = 11 ∧ ∃ a b,t.kids = [a,b]
   ·obtain ⟨h11,x,y,hk⟩:=h
    have h1:=(ih x (by have:=hkl.2 x (by rw [hk];simp);omega) (hM.kid (by rw [hk];simp))).1
    have h2:=(ih y (by have:=hkl.2 y (by rw [hk];simp);omega) (hM.kid (by rw [hk];simp))).2 false
    have h3:=parts_two hk
    have h4:t.name.data.toList.length ≤ 32:=hs.1
    rw [rowT_at b h11 hk]
    simp only [List.length_append,List.length_cons] at h2 ⊢
    have h5:(if b = true then ([]:List UInt8) else [44]).length ≤ 1:=by split <;> simp
    omega
   ·obtain ⟨h1,h2⟩:=row_end h
    rw [h1,h2]
    have h3:=tailW_len t hs.2
    simp only [rowW,List.nil_append]
    omega
theorem txt_le {t:Ty} (h:Mod t):(txtS t).length ≤ 64 * t.parts.length:=(txt_len _ t (Nat.le_refl _) h).1
def rF (fs:List (ByteArray × Ty)):List (List D):=fs.map fun f=>.sc (.string f.1) :: cT f.2
theorem rF_len (fs:List (ByteArray × Ty)):(rF fs).length = fs.length:=by rw [rF,List.length_map]
theorem rF_get {fs:List (ByteArray × Ty)} {k:Nat} {x:ByteArray × Ty} (h:fs[k]? = some x):(rF fs)[k]? = some (.sc (.string x.1) :: cT x.2):=by rw [rF,List.getElem?_map,h];rfl
theorem cT_four (t:Ty):∃ c0 c1 c2 c3,cT t = [c0,c1,c2,c3]:=by obtain ⟨op,nm,n,ks⟩:=t;exact ⟨_,_,_,_,by rw [cT]⟩
end Go.Proofs.YtahpnackkmbmgaaGreatDoor.Vm
end
section
namespace Go.Proofs.YtahpnackkmbmgaaGreatDoor.Vm
open Go.RowKit
set_option maxRecDepth 100000
set_option maxHeartbeats 4000000
theorem cT_of (t:Ty):cT t = [.sc (.int .u8 t.op),.sc (.string t.name),.sc (.int .i64 t.n),.sl 4 (rT t.kids)]:=by cases t;rw [cT];rfl
theorem row_u (W:ByteArray → Bool) (t:Ty) (hs:shapeB W t 114 = true) (hn:∀ x ∈ t.parts,x.n ≤ 9223372036854775807) (hW:∀ x:Ty,x.parts.length < t.parts.length → x ∈ t.parts → shapeB W x 116 = true → WrU 25 x (txtS x)):WrU 48 t (rowT txtS t):=by
 intro l hl
 rw [cT_of]
 obtain ⟨op0,hop0⟩:∃ o,o = t.op:=⟨_,rfl⟩
 obtain ⟨nm0,hnm0⟩:∃ o,o = t.name:=⟨_,rfl⟩
 obtain ⟨n0,hn0⟩:∃ o,o = t.n:=⟨_,rfl⟩
 obtain ⟨K0,hK0⟩:∃ o,o = rT t.kids:=⟨_,rfl⟩
 obtain ⟨R0,hR0⟩:∃ o,o = rU l:=⟨_,rfl⟩
 obtain ⟨RE,hRE⟩:∃ o,o = rU (l ++ rowT txtS t):=⟨_,rfl⟩
 rw [penU_eq,penU_eq,← hop0,← hnm0,← hn0,← hK0,← hR0,← hRE]
 refine speco_of Tryz.func48 rfl (by kernel_rfl) (by kernel_rfl) (by kernel_rfl) fun qa qb qc qd qe qg qh qi qj qk ql qm qn qo qp qq qt qu qv qw qx qy qz va vc vd ve vf vg vh vj vk vl vm vn vo vp vq vr vt vu vv vw hA=>?_
 obtain ⟨e1,e2,e3,e4,e5,e6,e7,e8,e9⟩:=ar_at hA
 obtain ⟨r1,r2,r3,r4⟩:=row_at hA
 obtain ⟨s1,s2,s3,s4,s5,s6,s7⟩:=str_at hA
 iterate 2 (try cbv;repeat ((first | with_reducible apply next_at hA);cbv))
 try simp (maxSteps:=4000000) only [nc] at *
 refine loop_at hA (γ:=Bool × Int × ByteArray × Int × List (List D) × List (List D) × Nat) (fun x=>[(4,.d (.sc (.bool x.1)))]) (fun x=>[(1,.row false 5 x.2.2.2.2.2.1),(2,.box [.d (.sc (.int .u8 x.2.1)),.d (.sc (.string x.2.2.1)),.d (.sc (.int .i64 x.2.2.2.1)),.d (.sl 4 x.2.2.2.2.1)])])
  (fun x=>∃ (y:Ty) (pre:List UInt8),x.2 = (y.op,y.name,y.n,rT y.kids,rU pre,y.parts.length) ∧ shapeB W y 114 = true ∧ y ∈ t.parts ∧ y.parts.length ≤ t.parts.length ∧ pre ++ (rowW txtS x.1 (fieldsS y) ++ tailW (tailS y)) = l ++ rowT txtS t)
  (fun x=>x.2.2.2.2.2.2) (true,op0,nm0,n0,K0,R0,t.parts.length) ?_ ?_ ?_
 ·exact ⟨t,l,by rw [hop0,hnm0,hn0,hK0,hR0],hs,by rw [parts_eq];exact List.mem_cons_self ..,Nat.le_refl _,rfl⟩
 ·cbv
 ·intro x hinv
  obtain ⟨b,op,nm,n,K,R,N⟩:=x
  cbv
  repeat ((with_reducible apply next_at hA);cbv)
  obtain ⟨y,pre,heq,hsy,hym,hle,hby⟩:=hinv
  simp only [Prod.mk.injEq] at heq
  obtain ⟨hop,hnm,hnn,hK,hR,hN⟩:=heq
  replace hby:pre ++ (rowW txtS b (fieldsS y) ++ tailW (tailS y)) = l ++ rowT txtS t:=hby
  obtain ⟨hy0,hys⟩:=shape_rw hsy
  have hyn:=hn y hym
  have hlen:pre.length + (rowW txtS b (fieldsS y) ++ tailW (tailS y)).length ≤ 137438953472:=by
   have:=congrArg List.length hby
   simp only [List.length_append] at this ⊢
   omega
  have h11:qk op 11 = decide (op = 11):=e9 _ _
  by_cases hc:y.op = 11
  ·rw [hop,decide_eq_true hc,← hop] at h11
   obtain ⟨-,a,c,hk,hsa,hsc⟩:y.op = 11 ∧ ∃ a b,y.kids = [a,b] ∧ shapeB W a 116 = true ∧ shapeB W b 114 = true:=by
    rcases hys with ⟨h,_⟩ | h
    ·omega
    ·exact h
   have hkl:=kids_le y
   have hpa:=hkl.2 a (by rw [hk];simp)
   have hpc:=hkl.2 c (by rw [hk];simp)
   have hma:a ∈ t.parts:=parts_trans (by rw [parts_kids];exact List.mem_cons_of_mem _ (List.mem_flatMap.2 ⟨a,by rw [hk];simp,by rw [parts_eq];exact List.mem_cons_self ..⟩)) hym
   have hmc:c ∈ t.parts:=parts_trans (by rw [parts_kids];exact List.mem_cons_of_mem _ (List.mem_flatMap.2 ⟨c,by rw [hk];simp,by rw [parts_eq];exact List.mem_cons_self ..⟩)) hym
   have hwa:=hW a (by omega) hma hsa
   have hat:=rowT_at (g:=txtS) b hc hk
   rw [hat] at hby hlen
   have hlc:(cT c) = [.sc (.int .u8 c.op),.sc (.string c.name),.sc (.int .i64 c.n),.sl 4 (rT c.kids)]:=cT_of c
   have hnml:y.name.data.toList.length = y.name.size:=rfl
   simp only [List.length_append,List.length_cons] at hlen
   obtain ⟨a0,a1,a2,a3,ha⟩:=cT_four a
   obtain ⟨P1,hP1⟩:∃ P,P = pre ++ (if b = true then [] else [44]):=⟨_,rfl⟩
   have hl1:P1.length = pre.length + (if b = true then ([]:List UInt8) else [44]).length:=by rw [hP1,List.length_append]
   have c1:=wbU_s pre 44
   have c2:=wsU_s P1 nm (by rw [hnm,← hnml];omega)
   have c3:=wbU_s (P1 ++ btl nm) 58 (by rw [List.length_append,btl_size,hnm,← hnml];omega)
   have c4:=hwa (P1 ++ btl nm ++ [58]) (by rw [List.length_append,List.length_append,btl_size,hnm,← hnml];simp only [List.length_cons,List.length_nil];omega)
   have hnew:(P1 ++ btl nm ++ [58] ++ txtS a) ++ (rowW txtS false (fieldsS c) ++ tailW (tailS c)) = l ++ rowT txtS t:=by
    rw [← hby,hP1,hnm]
    show _ = pre ++ ((if b = true then [] else [44]) ++ (btl y.name ++ 58 :: (txtS a ++ (rowW txtS false (fieldsS c) ++ tailW (tailS c)))))
    simp
   rw [ha] at c4
   rw [penU_eq] at c1 c2 c3 c4
   rw [penU_eq] at c1 c2 c3 c4
   have g0:va K 0 = some [a0,a1,a2,a3]:=by rw [r2,if_pos (by omega),hK,hk,rT,ha];rfl
   obtain ⟨cop,hcop⟩:∃ o,o = c.op:=⟨_,rfl⟩
   obtain ⟨cnm,hcnm⟩:∃ o,o = c.name:=⟨_,rfl⟩
   obtain ⟨cn,hcn⟩:∃ o,o = c.n:=⟨_,rfl⟩
   obtain ⟨cK,hcK⟩:∃ o,o = rT c.kids:=⟨_,rfl⟩
   have g1:va K 1 = some [.sc (.int .u8 cop),.sc (.string cnm),.sc (.int .i64 cn),.sl 4 cK]:=by rw [r2,if_pos (by omega),hK,hk,rT,rT,hlc,hcop,hcnm,hcn,hcK];rfl
   obtain ⟨cN,hcN⟩:∃ o,o = c.parts.length:=⟨_,rfl⟩
   have hmu:cN < N:=by rw [hcN,hN];exact hpc
   obtain ⟨R4,hR4⟩:∃ o,o = rU (P1 ++ btl nm ++ [58] ++ txtS a):=⟨_,rfl⟩
   have fin:∃ (y:Ty) (pre:List UInt8),(cop,cnm,cn,cK,R4,cN) = (y.op,y.name,y.n,rT y.kids,rU pre,y.parts.length) ∧ shapeB W y 114 = true ∧ y ∈ t.parts ∧ y.parts.length ≤ t.parts.length ∧ pre ++ (rowW txtS false (fieldsS y) ++ tailW (tailS y)) = l ++ rowT txtS t :=
    ⟨c,P1 ++ btl nm ++ [58] ++ txtS a,by rw [hcop,hcnm,hcn,hcK,hR4,hcN],hsc,hmc,by omega,hnew⟩
   rw [← hR4] at c4
   rw [← hR] at c1
   rw [h11]
   cases b with
   | true =>
    have hP:P1 = pre:=by rw [hP1];simp
    rw [hP,← hR] at c2
    rw [hP] at c3 c4
    clear c1
    generalize rU (pre ++ btl nm) = R2 at *
    generalize rU (pre ++ btl nm ++ [58]) = R3 at *
    clear hR4 hwa hW hn hl hs hnew hP hP1 hat hby hl1 hlen
    iterate 2 (try cbv;repeat ((first | with_reducible apply next_at hA | rw [g0] | rw [g1] | (refine callo_at hA [0,1] c2 ⟨rfl,rfl,rfl,rfl,rfl,rfl,rfl⟩ ?_;rintro _ _ ⟨rfl,rfl⟩) | (refine callo_at hA [0,1] c3 ⟨rfl,rfl,rfl,rfl,rfl,rfl,rfl⟩ ?_;rintro _ _ ⟨rfl,rfl⟩) | (refine callo_at hA [0,1] c4 ⟨rfl,rfl,rfl,rfl,rfl,rfl,rfl⟩ ?_;rintro _ _ ⟨rfl,rfl⟩));cbv))
    try simp (maxSteps:=4000000) only [nc] at *
    refine ⟨(false,cop,cnm,cn,cK,R4,cN),fin,hmu,?_⟩
    cbv
   | false =>
    have hP:P1 = pre ++ [44]:=by rw [hP1];simp
    rw [hP] at c2 c3 c4
    replace c1:SpecO 46 [.ptr 0 0,vi .u8 44] _ _:=c1 (by simp at hlen;omega)
    generalize rU (pre ++ [44]) = R1 at *
    generalize rU (pre ++ [44] ++ btl nm) = R2 at *
    generalize rU (pre ++ [44] ++ btl nm ++ [58]) = R3 at *
    clear hR4 hwa hW hn hl hs hnew hP hP1 hat hby hl1 hlen
    iterate 2 (try cbv;repeat ((first | with_reducible apply next_at hA | rw [g0] | rw [g1] | (refine callo_at hA [0,1] c1 ⟨rfl,rfl,rfl,rfl,rfl,rfl,rfl⟩ ?_;rintro _ _ ⟨rfl,rfl⟩) | (refine callo_at hA [0,1] c2 ⟨rfl,rfl,rfl,rfl,rfl,rfl,rfl⟩ ?_;rintro _ _ ⟨rfl,rfl⟩) | (refine callo_at hA [0,1] c3 ⟨rfl,rfl,rfl,rfl,rfl,rfl,rfl⟩ ?_;rintro _ _ ⟨rfl,rfl⟩) | (refine callo_at hA [0,1] c4 ⟨rfl,rfl,rfl,rfl,rfl,rfl,rfl⟩ ?_;rintro _ _ ⟨rfl,rfl⟩));cbv))
    try simp (maxSteps:=4000000) only [nc] at *
    refine ⟨(false,cop,cnm,cn,cK,R4,cN),fin,hmu,?_⟩
    cbv
  ·rw [hop,decide_eq_false hc,← hop] at h11
   have hy8:y.op = 8 ∨ y.op = 9 ∨ y.op = 10:=by
    rcases hys with ⟨h,_⟩ | ⟨h,_⟩
    ·exact h
    ·exact absurd h hc
   obtain ⟨hf0,ht0⟩:=fields_end hc
   rw [hf0,ht0] at hby hlen
   simp only [rowW,List.nil_append] at hby hlen
   rw [← hby] at hRE
   rw [h11]
   unfold tailW at hRE hlen
   rcases hy8 with ho | ho | ho
   ·have h9:qk op 9 = false:=by rw [e9,hop,ho];rfl
    have h10:qk op 10 = false:=by rw [e9,hop,ho];rfl
    rw [if_neg (by omega),if_neg (by omega),List.append_nil,← hR] at hRE
    iterate 2 (try cbv;repeat ((first | with_reducible apply next_at hA | rw [h9] | rw [h10]);cbv))
    try simp (maxSteps:=4000000) only [nc] at *
    exact keep_is hA [0,1] ⟨rfl,rfl,rfl,rfl,rfl,rfl,rfl,rfl⟩ ⟨rfl,by rw [hRE]⟩
   ·have h9:qk op 9 = true:=by rw [e9,hop,ho];rfl
    rw [if_pos ho] at hRE hlen
    have c1:=wsU_s pre ⟨#[124,63]⟩ (by rw [show (⟨#[124,63]⟩:ByteArray).size = 2 from rfl];simpa using hlen)
    rw [show btl ⟨#[124,63]⟩ = [124,63] from rfl] at c1
    rw [penU_eq] at c1
    rw [penU_eq,← hR,← hRE] at c1
    iterate 2 (try cbv;repeat ((first | with_reducible apply next_at hA | rw [h9]);cbv))
    try simp (maxSteps:=4000000) only [nc] at *
    refine callo_at hA [0,1] c1 ⟨rfl,rfl,rfl,rfl,rfl,rfl,rfl⟩ ?_
    rintro _ _ ⟨rfl,rfl⟩
    iterate 2 (try cbv;repeat ((first | with_reducible apply next_at hA);cbv))
    try simp (maxSteps:=4000000) only [nc] at *
    exact keep_is hA [0,1] ⟨rfl,rfl,rfl,rfl,rfl,rfl,rfl,rfl⟩ ⟨rfl,rfl⟩
   ·have h9:qk op 9 = false:=by rw [e9,hop,ho];rfl
    have h10:qk op 10 = true:=by rw [e9,hop,ho];rfl
    rw [if_neg (by omega),if_pos ho] at hRE hlen
    rw [← hnn] at hRE hlen hy0 hyn
    have hi:=itoa_c n (by omega) hyn
    have hb:btl (⟨#[124,39]⟩ ++ ⟨(Lib.itoa n).toArray⟩:ByteArray) = 124 :: 39 :: Lib.itoa n:=by unfold btl;simp
    have hz:(⟨#[124,39]⟩ ++ ⟨(Lib.itoa n).toArray⟩:ByteArray).size = (124 :: 39 :: Lib.itoa n).length:=by rw [← hb,btl_size]
    have c1:=wsU_s pre (⟨#[124,39]⟩ ++ ⟨(Lib.itoa n).toArray⟩) (by rw [hz];exact hlen)
    rw [hb] at c1
    have hfit:(⟨#[124,39]⟩:ByteArray).size + (⟨(Lib.itoa n).toArray⟩:ByteArray).size ≤ 4611686018427387904:=by
     have h2:(⟨#[124,39]⟩ ++ ⟨(Lib.itoa n).toArray⟩:ByteArray).size = (⟨#[124,39]⟩:ByteArray).size + (⟨(Lib.itoa n).toArray⟩:ByteArray).size:=by simp
     rw [← h2,hz];omega
    rw [penU_eq] at c1
    rw [penU_eq,← hR,← hRE] at c1
    clear hz hb hlen
    generalize (⟨(Lib.itoa n).toArray⟩:ByteArray) = D at *
    obtain ⟨S,hS⟩:∃ S,S = (⟨#[124,39]⟩ ++ D:ByteArray):=⟨_,rfl⟩
    rw [← hS] at c1
    have hc2:qp ⟨#[124,39]⟩ D = S:=by rw [s4,hS]
    iterate 2 (try cbv;repeat ((first | with_reducible apply next_at hA | rw [h9] | rw [h10] | refine call_at hA _ hi rfl ?_ | refine calm_at hA _ hi ?_);cbv))
    try simp (maxSteps:=4000000) only [nc] at *
    refine fits_at hA hfit ?_
    cbv
    rw [hc2]
    iterate 2 (try cbv;repeat ((first | with_reducible apply next_at hA);cbv))
    try simp (maxSteps:=4000000) only [nc] at *
    refine callo_at hA [0,1] c1 ⟨rfl,rfl,rfl,rfl,rfl,rfl,rfl⟩ ?_
    rintro _ _ ⟨rfl,rfl⟩
    iterate 2 (try cbv;repeat ((first | with_reducible apply next_at hA);cbv))
    try simp (maxSteps:=4000000) only [nc] at *
    exact keep_is hA [0,1] ⟨rfl,rfl,rfl,rfl,rfl,rfl,rfl,rfl⟩ ⟨rfl,rfl⟩
theorem lies_pen:Lies 58:=by unfold Lies;kernel_rfl
def WrF (f:Nat) (t:Ty) (out:List UInt8):Prop:=out.length ≤ 137438953472 → SpecO f [.ptr 0 0,.ag (ofD (cT t))] [penO 58] (fun res os=>res = [] ∧ os = penU out)
theorem penO_eq (T:Nat):[penO T] = [.ob T [.pointer none,.slice none 0 0]]:=rfl
theorem from_noU (t:Ty) (hop:t.op ≠ 4) (hw:WrU 25 t (txtS t)):WrU 49 t (fromW txtS t):=by
 intro l hl
 unfold fromW at hl ⊢
 rw [if_neg hop] at hl ⊢
 have c1:=hw l hl
 rw [cT_of] at c1 ⊢
 obtain ⟨op,hop0⟩:∃ o,o = t.op:=⟨_,rfl⟩
 rw [← hop0] at c1 hop ⊢
 generalize t.name = nm at *
 generalize t.n = n at *
 generalize rT t.kids = K at *
 try rw [penU_eq] at c1
 try rw [penU_eq] at c1
 try rw [penO_eq] at c1
 try rw [penU_eq] at ⊢
 try rw [penU_eq] at ⊢
 try rw [penO_eq] at ⊢
 generalize rU (l ++ txtS t) = R1 at *
 generalize rU l = R0 at *
 clear hl hw hop0
 refine speco_of Tryz.func49 rfl (by kernel_rfl) (by kernel_rfl) (by kernel_rfl) fun qa qb qc qd qe qg qh qi qj qk ql qm qn qo qp qq qt qu qv qw qx qy qz va vc vd ve vf vg vh vj vk vl vm vn vo vp vq vr vt vu vv vw hA=>?_
 obtain ⟨e1,e2,e3,e4,e5,e6,e7,e8,e9⟩:=ar_at hA
 obtain ⟨r1,r2,r3,r4⟩:=row_at hA
 obtain ⟨s1,s2,s3,s4,s5,s6,s7⟩:=str_at hA
 have h4:qk op 4 = false:=by rw [e9];simpa using hop
 iterate 2 (try cbv;repeat ((first | with_reducible apply next_at hA | rw [h4] | (refine callo_at hA [0,1] c1 ⟨rfl,rfl,rfl,rfl,rfl,rfl,rfl⟩ ?_;rintro _ _ ⟨rfl,rfl⟩));cbv))
 try simp (maxSteps:=4000000) only [nc] at *
 exact keep_is hA [0,1] ⟨rfl,rfl,rfl,rfl,rfl,rfl,rfl,rfl⟩ ⟨rfl,rfl⟩
theorem from_fnU (t:Ty) (hop:t.op = 4) (hw:WrU 25 t (txtS t)):WrU 49 t (fromW txtS t):=by
 intro l hl
 unfold fromW at hl ⊢
 rw [if_pos hop] at hl ⊢
 simp only [List.length_cons,List.length_append,List.length_nil] at hl
 have c1:=wbU_s (l) 40 (by omega)
 have c2:=hw (l ++ [40]) (by simp only [List.length_cons,List.length_append,List.length_nil];omega)
 have c3:=wbU_s (l ++ [40] ++ txtS t) 41 (by simp only [List.length_cons,List.length_append,List.length_nil];omega)
 rw [show l ++ (40 :: (txtS t ++ [41])) = l ++ [40] ++ txtS t ++ [41] by simp]
 rw [cT_of] at c2 ⊢
 obtain ⟨op,hop0⟩:∃ o,o = t.op:=⟨_,rfl⟩
 rw [← hop0] at c2 hop ⊢
 generalize t.name = nm at *
 generalize t.n = n at *
 generalize rT t.kids = K at *
 try rw [penU_eq] at c1
 try rw [penU_eq] at c1
 try rw [penO_eq] at c1
 try rw [penU_eq] at c2
 try rw [penU_eq] at c2
 try rw [penO_eq] at c2
 try rw [penU_eq] at c3
 try rw [penU_eq] at c3
 try rw [penO_eq] at c3
 try rw [penU_eq] at ⊢
 try rw [penU_eq] at ⊢
 try rw [penO_eq] at ⊢
 replace c1:SpecO 46 [.ptr 0 0,vi .u8 40] _ _:=c1
 replace c3:SpecO 46 [.ptr 0 0,vi .u8 41] _ _:=c3
 generalize rU (l ++ [40] ++ txtS t ++ [41]) = R3 at *
 generalize rU (l ++ [40] ++ txtS t) = R2 at *
 generalize rU (l ++ [40]) = R1 at *
 generalize rU l = R0 at *
 clear hl hw hop0
 refine speco_of Tryz.func49 rfl (by kernel_rfl) (by kernel_rfl) (by kernel_rfl) fun qa qb qc qd qe qg qh qi qj qk ql qm qn qo qp qq qt qu qv qw qx qy qz va vc vd ve vf vg vh vj vk vl vm vn vo vp vq vr vt vu vv vw hA=>?_
 obtain ⟨e1,e2,e3,e4,e5,e6,e7,e8,e9⟩:=ar_at hA
 obtain ⟨r1,r2,r3,r4⟩:=row_at hA
 obtain ⟨s1,s2,s3,s4,s5,s6,s7⟩:=str_at hA
 have h4:qk op 4 = true:=by rw [e9,hop];rfl
 iterate 2 (try cbv;repeat ((first | with_reducible apply next_at hA | rw [h4] | (refine callo_at hA [0,1] c1 ⟨rfl,rfl,rfl,rfl,rfl,rfl,rfl⟩ ?_;rintro _ _ ⟨rfl,rfl⟩) | (refine callo_at hA [0,1] c2 ⟨rfl,rfl,rfl,rfl,rfl,rfl,rfl⟩ ?_;rintro _ _ ⟨rfl,rfl⟩) | (refine callo_at hA [0,1] c3 ⟨rfl,rfl,rfl,rfl,rfl,rfl,rfl⟩ ?_;rintro _ _ ⟨rfl,rfl⟩));cbv))
 try simp (maxSteps:=4000000) only [nc] at *
 exact keep_is hA [0,1] ⟨rfl,rfl,rfl,rfl,rfl,rfl,rfl,rfl⟩ ⟨rfl,rfl⟩
theorem write_recU (nm:ByteArray) (n:Int) (a:Ty) (hw:WrU 48 a (rowT txtS a)):WrU 25 (.mk 5 nm n [a]) (txtS (.mk 5 nm n [a])):=by
 intro l hl
 have ht:txtS (.mk 5 nm n [a]) = 123 :: (rowT txtS a ++ [125]):=by rw [txt_eq];rfl
 rw [ht] at hl ⊢
 simp only [List.length_cons,List.length_append,List.length_nil] at hl
 have c1:=wbU_s (l) 123 (by omega)
 have c2:=hw (l ++ [123]) (by simp only [List.length_cons,List.length_append,List.length_nil];omega)
 have c3:=wbU_s (l ++ [123] ++ rowT txtS a) 125 (by simp only [List.length_cons,List.length_append,List.length_nil];omega)
 rw [show l ++ (123 :: (rowT txtS a ++ [125])) = l ++ [123] ++ rowT txtS a ++ [125] by simp]
 rw [cT,rT,rT]
 obtain ⟨a0,a1,a2,a3,ha⟩:=cT_four a
 rw [ha] at c2 ⊢
 try rw [penU_eq] at c1
 try rw [penU_eq] at c1
 try rw [penO_eq] at c1
 try rw [penU_eq] at c2
 try rw [penU_eq] at c2
 try rw [penO_eq] at c2
 try rw [penU_eq] at c3
 try rw [penU_eq] at c3
 try rw [penO_eq] at c3
 try rw [penU_eq] at ⊢
 try rw [penU_eq] at ⊢
 try rw [penO_eq] at ⊢
 replace c1:SpecO 46 [.ptr 0 0,vi .u8 123] _ _:=c1
 replace c3:SpecO 46 [.ptr 0 0,vi .u8 125] _ _:=c3
 generalize rU (l ++ [123] ++ rowT txtS a ++ [125]) = R3 at *
 generalize rU (l ++ [123] ++ rowT txtS a) = R2 at *
 generalize rU (l ++ [123]) = R1 at *
 generalize rU l = R0 at *
 clear hl hw ht
 obtain ⟨K,hK⟩:∃ K,K = [[a0,a1,a2,a3]]:=⟨_,rfl⟩
 rw [← hK]
 refine speco_of Tryz.func25 rfl (by kernel_rfl) (by kernel_rfl) (by kernel_rfl) fun qa qb qc qd qe qg qh qi qj qk ql qm qn qo qp qq qt qu qv qw qx qy qz va vc vd ve vf vg vh vj vk vl vm vn vo vp vq vr vt vu vv vw hA=>?_
 obtain ⟨e1,e2,e3,e4,e5,e6,e7,e8,e9⟩:=ar_at hA
 obtain ⟨r1,r2,r3,r4⟩:=row_at hA
 obtain ⟨s1,s2,s3,s4,s5,s6,s7⟩:=str_at hA
 have h1:qk 5 1 = false:=e9 _ _
 have h2:qk 5 2 = false:=e9 _ _
 have h3:qk 5 3 = false:=e9 _ _
 have h7:qk 5 7 = false:=e9 _ _
 have h5:qk 5 5 = true:=e9 _ _
 have g0:va K 0 = some [a0,a1,a2,a3]:=by rw [r2,hK];rfl
 iterate 2 (try cbv;repeat ((first | with_reducible apply next_at hA | rw [h1] | rw [h2] | rw [h3] | rw [h7] | rw [h5] | rw [g0] | (refine callo_at hA [0,1] c1 ⟨rfl,rfl,rfl,rfl,rfl,rfl,rfl⟩ ?_;rintro _ _ ⟨rfl,rfl⟩) | (refine callo_at hA [0,1] c2 ⟨rfl,rfl,rfl,rfl,rfl,rfl,rfl⟩ ?_;rintro _ _ ⟨rfl,rfl⟩) | (refine callo_at hA [0,1] c3 ⟨rfl,rfl,rfl,rfl,rfl,rfl,rfl⟩ ?_;rintro _ _ ⟨rfl,rfl⟩));cbv))
 try simp (maxSteps:=4000000) only [nc] at *
 exact keep_is hA [0,1] ⟨rfl,rfl,rfl,rfl,rfl,rfl,rfl,rfl⟩ ⟨rfl,rfl⟩
theorem write_vntU (nm:ByteArray) (n:Int) (a:Ty) (hw:WrU 48 a (rowT txtS a)):WrU 25 (.mk 6 nm n [a]) (txtS (.mk 6 nm n [a])):=by
 intro l hl
 have ht:txtS (.mk 6 nm n [a]) = 60 :: (rowT txtS a ++ [62]):=by rw [txt_eq];rfl
 rw [ht] at hl ⊢
 simp only [List.length_cons,List.length_append,List.length_nil] at hl
 have c1:=wbU_s (l) 60 (by omega)
 have c2:=hw (l ++ [60]) (by simp only [List.length_cons,List.length_append,List.length_nil];omega)
 have c3:=wbU_s (l ++ [60] ++ rowT txtS a) 62 (by simp only [List.length_cons,List.length_append,List.length_nil];omega)
 rw [show l ++ (60 :: (rowT txtS a ++ [62])) = l ++ [60] ++ rowT txtS a ++ [62] by simp]
 rw [cT,rT,rT]
 obtain ⟨a0,a1,a2,a3,ha⟩:=cT_four a
 rw [ha] at c2 ⊢
 try rw [penU_eq] at c1
 try rw [penU_eq] at c1
 try rw [penO_eq] at c1
 try rw [penU_eq] at c2
 try rw [penU_eq] at c2
 try rw [penO_eq] at c2
 try rw [penU_eq] at c3
 try rw [penU_eq] at c3
 try rw [penO_eq] at c3
 try rw [penU_eq] at ⊢
 try rw [penU_eq] at ⊢
 try rw [penO_eq] at ⊢
 replace c1:SpecO 46 [.ptr 0 0,vi .u8 60] _ _:=c1
 replace c3:SpecO 46 [.ptr 0 0,vi .u8 62] _ _:=c3
 generalize rU (l ++ [60] ++ rowT txtS a ++ [62]) = R3 at *
 generalize rU (l ++ [60] ++ rowT txtS a) = R2 at *
 generalize rU (l ++ [60]) = R1 at *
 generalize rU l = R0 at *
 clear hl hw ht
 obtain ⟨K,hK⟩:∃ K,K = [[a0,a1,a2,a3]]:=⟨_,rfl⟩
 rw [← hK]
 refine speco_of Tryz.func25 rfl (by kernel_rfl) (by kernel_rfl) (by kernel_rfl) fun qa qb qc qd qe qg qh qi qj qk ql qm qn qo qp qq qt qu qv qw qx qy qz va vc vd ve vf vg vh vj vk vl vm vn vo vp vq vr vt vu vv vw hA=>?_
 obtain ⟨e1,e2,e3,e4,e5,e6,e7,e8,e9⟩:=ar_at hA
 obtain ⟨r1,r2,r3,r4⟩:=row_at hA
 obtain ⟨s1,s2,s3,s4,s5,s6,s7⟩:=str_at hA
 have h1:qk 6 1 = false:=e9 _ _
 have h2:qk 6 2 = false:=e9 _ _
 have h3:qk 6 3 = false:=e9 _ _
 have h7:qk 6 7 = false:=e9 _ _
 have h5:qk 6 5 = false:=e9 _ _
 have h6:qk 6 6 = true:=e9 _ _
 have g0:va K 0 = some [a0,a1,a2,a3]:=by rw [r2,hK];rfl
 iterate 2 (try cbv;repeat ((first | with_reducible apply next_at hA | rw [h1] | rw [h2] | rw [h3] | rw [h7] | rw [h5] | rw [h6] | rw [g0] | (refine callo_at hA [0,1] c1 ⟨rfl,rfl,rfl,rfl,rfl,rfl,rfl⟩ ?_;rintro _ _ ⟨rfl,rfl⟩) | (refine callo_at hA [0,1] c2 ⟨rfl,rfl,rfl,rfl,rfl,rfl,rfl⟩ ?_;rintro _ _ ⟨rfl,rfl⟩) | (refine callo_at hA [0,1] c3 ⟨rfl,rfl,rfl,rfl,rfl,rfl,rfl⟩ ?_;rintro _ _ ⟨rfl,rfl⟩));cbv))
 try simp (maxSteps:=4000000) only [nc] at *
 exact keep_is hA [0,1] ⟨rfl,rfl,rfl,rfl,rfl,rfl,rfl,rfl⟩ ⟨rfl,rfl⟩
theorem write_funU (nm:ByteArray) (n:Int) (a b:Ty) (hf:WrU 49 a (fromW txtS a)) (hw:WrU 25 b (txtS b)):WrU 25 (.mk 4 nm n [a,b]) (txtS (.mk 4 nm n [a,b])):=by
 intro l hl
 have ht:txtS (.mk 4 nm n [a,b]) = fromW txtS a ++ (45 :: 62 :: txtS b):=by rw [txt_eq];rfl
 rw [ht] at hl ⊢
 simp only [List.length_cons,List.length_append,List.length_nil] at hl
 have c1:=hf l (by omega)
 have c2:=wsU_s (l ++ fromW txtS a) ⟨#[45,62]⟩ (by rw [show (⟨#[45,62]⟩:ByteArray).size = 2 from rfl];first | omega | (simp only [List.length_cons,List.length_append,List.length_nil];omega))
 rw [show btl ⟨#[45,62]⟩ = [45,62] from rfl] at c2
 have c3:=hw (l ++ fromW txtS a ++ [45,62]) (by simp only [List.length_cons,List.length_append,List.length_nil];omega)
 rw [show l ++ (fromW txtS a ++ (45 :: 62 :: txtS b)) = l ++ fromW txtS a ++ [45,62] ++ txtS b by simp]
 rw [cT,rT,rT,rT]
 obtain ⟨a0,a1,a2,a3,ha⟩:=cT_four a
 obtain ⟨b0,b1,b2,b3,hb⟩:=cT_four b
 rw [ha] at c1 ⊢
 rw [hb] at c3 ⊢
 try rw [penU_eq] at c1
 try rw [penU_eq] at c1
 try rw [penO_eq] at c1
 try rw [penU_eq] at c2
 try rw [penU_eq] at c2
 try rw [penO_eq] at c2
 try rw [penU_eq] at c3
 try rw [penU_eq] at c3
 try rw [penO_eq] at c3
 try rw [penU_eq] at ⊢
 try rw [penU_eq] at ⊢
 try rw [penO_eq] at ⊢
 generalize rU (l ++ fromW txtS a ++ [45,62] ++ txtS b) = R3 at *
 generalize rU (l ++ fromW txtS a ++ [45,62]) = R2 at *
 generalize rU (l ++ fromW txtS a) = R1 at *
 generalize rU l = R0 at *
 clear hl hf hw ht
 obtain ⟨K,hK⟩:∃ K,K = [[a0,a1,a2,a3],[b0,b1,b2,b3]]:=⟨_,rfl⟩
 rw [← hK]
 refine speco_of Tryz.func25 rfl (by kernel_rfl) (by kernel_rfl) (by kernel_rfl) fun qa qb qc qd qe qg qh qi qj qk ql qm qn qo qp qq qt qu qv qw qx qy qz va vc vd ve vf vg vh vj vk vl vm vn vo vp vq vr vt vu vv vw hA=>?_
 obtain ⟨e1,e2,e3,e4,e5,e6,e7,e8,e9⟩:=ar_at hA
 obtain ⟨r1,r2,r3,r4⟩:=row_at hA
 obtain ⟨s1,s2,s3,s4,s5,s6,s7⟩:=str_at hA
 have h1:qk 4 1 = false:=e9 _ _
 have h2:qk 4 2 = false:=e9 _ _
 have h3:qk 4 3 = false:=e9 _ _
 have h7:qk 4 7 = false:=e9 _ _
 have h5:qk 4 5 = false:=e9 _ _
 have h6:qk 4 6 = false:=e9 _ _
 have h4:qk 4 4 = true:=e9 _ _
 have g0:va K 0 = some [a0,a1,a2,a3]:=by rw [r2,hK];rfl
 have g1:va K 1 = some [b0,b1,b2,b3]:=by rw [r2,hK];rfl
 iterate 2 (try cbv;repeat ((first | with_reducible apply next_at hA | rw [h1] | rw [h2] | rw [h3] | rw [h7] | rw [h5] | rw [h6] | rw [h4] | rw [g0] | rw [g1] | (refine callo_at hA [0,1] c1 ⟨rfl,rfl,rfl,rfl,rfl,rfl,rfl⟩ ?_;rintro _ _ ⟨rfl,rfl⟩) | (refine callo_at hA [0,1] c2 ⟨rfl,rfl,rfl,rfl,rfl,rfl,rfl⟩ ?_;rintro _ _ ⟨rfl,rfl⟩) | (refine callo_at hA [0,1] c3 ⟨rfl,rfl,rfl,rfl,rfl,rfl,rfl⟩ ?_;rintro _ _ ⟨rfl,rfl⟩));cbv))
 try simp (maxSteps:=4000000) only [nc] at *
 exact keep_is hA [0,1] ⟨rfl,rfl,rfl,rfl,rfl,rfl,rfl,rfl⟩ ⟨rfl,rfl⟩
theorem from_noF (t:Ty) (hop:t.op ≠ 4) (hw:WrF 25 t (txtS t)):WrF 49 t (fromW txtS t):=by
 intro hl
 unfold fromW at hl ⊢
 rw [if_neg hop] at hl ⊢
 have c1:=hw hl
 rw [cT_of] at c1 ⊢
 obtain ⟨op,hop0⟩:∃ o,o = t.op:=⟨_,rfl⟩
 rw [← hop0] at c1 hop ⊢
 generalize t.name = nm at *
 generalize t.n = n at *
 generalize rT t.kids = K at *
 try rw [penU_eq] at c1
 try rw [penU_eq] at c1
 try rw [penO_eq] at c1
 try rw [penU_eq] at ⊢
 try rw [penU_eq] at ⊢
 try rw [penO_eq] at ⊢
 generalize rU (txtS t) = R1 at *
 skip
 clear hl hw hop0
 refine speco_of Tryz.func49 rfl (by kernel_rfl) (by kernel_rfl) (by kernel_rfl) fun qa qb qc qd qe qg qh qi qj qk ql qm qn qo qp qq qt qu qv qw qx qy qz va vc vd ve vf vg vh vj vk vl vm vn vo vp vq vr vt vu vv vw hA=>?_
 obtain ⟨e1,e2,e3,e4,e5,e6,e7,e8,e9⟩:=ar_at hA
 obtain ⟨r1,r2,r3,r4⟩:=row_at hA
 obtain ⟨s1,s2,s3,s4,s5,s6,s7⟩:=str_at hA
 have h4:qk op 4 = false:=by rw [e9];simpa using hop
 iterate 2 (try cbv;repeat ((first | with_reducible apply next_at hA | rw [h4] | (refine callo_at hA [0] c1 ⟨rfl,rfl,rfl,rfl,rfl,rfl,rfl⟩ ?_;rintro _ _ ⟨rfl,rfl⟩));cbv))
 try simp (maxSteps:=4000000) only [nc] at *
 exact keep_is hA [0,2] ⟨rfl,rfl,rfl,rfl,rfl,rfl,rfl,rfl⟩ ⟨rfl,rfl⟩
theorem from_fnF (t:Ty) (hop:t.op = 4) (hw:WrU 25 t (txtS t)):WrF 49 t (fromW txtS t):=by
 intro hl
 unfold fromW at hl ⊢
 rw [if_pos hop] at hl ⊢
 simp only [List.length_cons,List.length_append,List.length_nil] at hl
 have c1:=wbF_s _ lies_pen 40
 have c2:=hw ([40]) (by simp only [List.length_cons,List.length_append,List.length_nil];omega)
 have c3:=wbU_s ([40] ++ txtS t) 41 (by simp only [List.length_cons,List.length_append,List.length_nil];omega)
 rw [show (40 :: (txtS t ++ [41])) = [40] ++ txtS t ++ [41] by simp]
 rw [cT_of] at c2 ⊢
 obtain ⟨op,hop0⟩:∃ o,o = t.op:=⟨_,rfl⟩
 rw [← hop0] at c2 hop ⊢
 generalize t.name = nm at *
 generalize t.n = n at *
 generalize rT t.kids = K at *
 try rw [penU_eq] at c1
 try rw [penU_eq] at c1
 try rw [penO_eq] at c1
 try rw [penU_eq] at c2
 try rw [penU_eq] at c2
 try rw [penO_eq] at c2
 try rw [penU_eq] at c3
 try rw [penU_eq] at c3
 try rw [penO_eq] at c3
 try rw [penU_eq] at ⊢
 try rw [penU_eq] at ⊢
 try rw [penO_eq] at ⊢
 replace c1:SpecO 46 [.ptr 0 0,vi .u8 40] _ _:=c1
 replace c3:SpecO 46 [.ptr 0 0,vi .u8 41] _ _:=c3
 generalize rU ([40] ++ txtS t ++ [41]) = R3 at *
 generalize rU ([40] ++ txtS t) = R2 at *
 generalize rU ([40]) = R1 at *
 skip
 clear hl hw hop0
 refine speco_of Tryz.func49 rfl (by kernel_rfl) (by kernel_rfl) (by kernel_rfl) fun qa qb qc qd qe qg qh qi qj qk ql qm qn qo qp qq qt qu qv qw qx qy qz va vc vd ve vf vg vh vj vk vl vm vn vo vp vq vr vt vu vv vw hA=>?_
 obtain ⟨e1,e2,e3,e4,e5,e6,e7,e8,e9⟩:=ar_at hA
 obtain ⟨r1,r2,r3,r4⟩:=row_at hA
 obtain ⟨s1,s2,s3,s4,s5,s6,s7⟩:=str_at hA
 have h4:qk op 4 = true:=by rw [e9,hop];rfl
 iterate 2 (try cbv;repeat ((first | with_reducible apply next_at hA | rw [h4] | (refine callo_at hA [0] c1 ⟨rfl,rfl,rfl,rfl,rfl,rfl,rfl⟩ ?_;rintro _ _ ⟨rfl,rfl⟩) | (refine callo_at hA [0,2] c2 ⟨rfl,rfl,rfl,rfl,rfl,rfl,rfl⟩ ?_;rintro _ _ ⟨rfl,rfl⟩) | (refine callo_at hA [0,2] c3 ⟨rfl,rfl,rfl,rfl,rfl,rfl,rfl⟩ ?_;rintro _ _ ⟨rfl,rfl⟩));cbv))
 try simp (maxSteps:=4000000) only [nc] at *
 exact keep_is hA [0,2] ⟨rfl,rfl,rfl,rfl,rfl,rfl,rfl,rfl⟩ ⟨rfl,rfl⟩
theorem write_recF (nm:ByteArray) (n:Int) (a:Ty) (hw:WrU 48 a (rowT txtS a)):WrF 25 (.mk 5 nm n [a]) (txtS (.mk 5 nm n [a])):=by
 intro hl
 have ht:txtS (.mk 5 nm n [a]) = 123 :: (rowT txtS a ++ [125]):=by rw [txt_eq];rfl
 rw [ht] at hl ⊢
 simp only [List.length_cons,List.length_append,List.length_nil] at hl
 have c1:=wbF_s _ lies_pen 123
 have c2:=hw ([123]) (by simp only [List.length_cons,List.length_append,List.length_nil];omega)
 have c3:=wbU_s ([123] ++ rowT txtS a) 125 (by simp only [List.length_cons,List.length_append,List.length_nil];omega)
 rw [show (123 :: (rowT txtS a ++ [125])) = [123] ++ rowT txtS a ++ [125] by simp]
 rw [cT,rT,rT]
 obtain ⟨a0,a1,a2,a3,ha⟩:=cT_four a
 rw [ha] at c2 ⊢
 try rw [penU_eq] at c1
 try rw [penU_eq] at c1
 try rw [penO_eq] at c1
 try rw [penU_eq] at c2
 try rw [penU_eq] at c2
 try rw [penO_eq] at c2
 try rw [penU_eq] at c3
 try rw [penU_eq] at c3
 try rw [penO_eq] at c3
 try rw [penU_eq] at ⊢
 try rw [penU_eq] at ⊢
 try rw [penO_eq] at ⊢
 replace c1:SpecO 46 [.ptr 0 0,vi .u8 123] _ _:=c1
 replace c3:SpecO 46 [.ptr 0 0,vi .u8 125] _ _:=c3
 generalize rU ([123] ++ rowT txtS a ++ [125]) = R3 at *
 generalize rU ([123] ++ rowT txtS a) = R2 at *
 generalize rU ([123]) = R1 at *
 skip
 clear hl hw ht
 obtain ⟨K,hK⟩:∃ K,K = [[a0,a1,a2,a3]]:=⟨_,rfl⟩
 rw [← hK]
 refine speco_of Tryz.func25 rfl (by kernel_rfl) (by kernel_rfl) (by kernel_rfl) fun qa qb qc qd qe qg qh qi qj qk ql qm qn qo qp qq qt qu qv qw qx qy qz va vc vd ve vf vg vh vj vk vl vm vn vo vp vq vr vt vu vv vw hA=>?_
 obtain ⟨e1,e2,e3,e4,e5,e6,e7,e8,e9⟩:=ar_at hA
 obtain ⟨r1,r2,r3,r4⟩:=row_at hA
 obtain ⟨s1,s2,s3,s4,s5,s6,s7⟩:=str_at hA
 have h1:qk 5 1 = false:=e9 _ _
 have h2:qk 5 2 = false:=e9 _ _
 have h3:qk 5 3 = false:=e9 _ _
 have h7:qk 5 7 = false:=e9 _ _
 have h5:qk 5 5 = true:=e9 _ _
 have g0:va K 0 = some [a0,a1,a2,a3]:=by rw [r2,hK];rfl
 iterate 2 (try cbv;repeat ((first | with_reducible apply next_at hA | rw [h1] | rw [h2] | rw [h3] | rw [h7] | rw [h5] | rw [g0] | (refine callo_at hA [0] c1 ⟨rfl,rfl,rfl,rfl,rfl,rfl,rfl⟩ ?_;rintro _ _ ⟨rfl,rfl⟩) | (refine callo_at hA [0,2] c2 ⟨rfl,rfl,rfl,rfl,rfl,rfl,rfl⟩ ?_;rintro _ _ ⟨rfl,rfl⟩) | (refine callo_at hA [0,2] c3 ⟨rfl,rfl,rfl,rfl,rfl,rfl,rfl⟩ ?_;rintro _ _ ⟨rfl,rfl⟩));cbv))
 try simp (maxSteps:=4000000) only [nc] at *
 exact keep_is hA [0,2] ⟨rfl,rfl,rfl,rfl,rfl,rfl,rfl,rfl⟩ ⟨rfl,rfl⟩
theorem write_vntF (nm:ByteArray) (n:Int) (a:Ty) (hw:WrU 48 a (rowT txtS a)):WrF 25 (.mk 6 nm n [a]) (txtS (.mk 6 nm n [a])):=by
 intro hl
 have ht:txtS (.mk 6 nm n [a]) = 60 :: (rowT txtS a ++ [62]):=by rw [txt_eq];rfl
 rw [ht] at hl ⊢
 simp only [List.length_cons,List.length_append,List.length_nil] at hl
 have c1:=wbF_s _ lies_pen 60
 have c2:=hw ([60]) (by simp only [List.length_cons,List.length_append,List.length_nil];omega)
 have c3:=wbU_s ([60] ++ rowT txtS a) 62 (by simp only [List.length_cons,List.length_append,List.length_nil];omega)
 rw [show (60 :: (rowT txtS a ++ [62])) = [60] ++ rowT txtS a ++ [62] by simp]
 rw [cT,rT,rT]
 obtain ⟨a0,a1,a2,a3,ha⟩:=cT_four a
 rw [ha] at c2 ⊢
 try rw [penU_eq] at c1
 try rw [penU_eq] at c1
 try rw [penO_eq] at c1
 try rw [penU_eq] at c2
 try rw [penU_eq] at c2
 try rw [penO_eq] at c2
 try rw [penU_eq] at c3
 try rw [penU_eq] at c3
 try rw [penO_eq] at c3
 try rw [penU_eq] at ⊢
 try rw [penU_eq] at ⊢
 try rw [penO_eq] at ⊢
 replace c1:SpecO 46 [.ptr 0 0,vi .u8 60] _ _:=c1
 replace c3:SpecO 46 [.ptr 0 0,vi .u8 62] _ _:=c3
 generalize rU ([60] ++ rowT txtS a ++ [62]) = R3 at *
 generalize rU ([60] ++ rowT txtS a) = R2 at *
 generalize rU ([60]) = R1 at *
 skip
 clear hl hw ht
 obtain ⟨K,hK⟩:∃ K,K = [[a0,a1,a2,a3]]:=⟨_,rfl⟩
 rw [← hK]
 refine speco_of Tryz.func25 rfl (by kernel_rfl) (by kernel_rfl) (by kernel_rfl) fun qa qb qc qd qe qg qh qi qj qk ql qm qn qo qp qq qt qu qv qw qx qy qz va vc vd ve vf vg vh vj vk vl vm vn vo vp vq vr vt vu vv vw hA=>?_
 obtain ⟨e1,e2,e3,e4,e5,e6,e7,e8,e9⟩:=ar_at hA
 obtain ⟨r1,r2,r3,r4⟩:=row_at hA
 obtain ⟨s1,s2,s3,s4,s5,s6,s7⟩:=str_at hA
 have h1:qk 6 1 = false:=e9 _ _
 have h2:qk 6 2 = false:=e9 _ _
 have h3:qk 6 3 = false:=e9 _ _
 have h7:qk 6 7 = false:=e9 _ _
 have h5:qk 6 5 = false:=e9 _ _
 have h6:qk 6 6 = true:=e9 _ _
 have g0:va K 0 = some [a0,a1,a2,a3]:=by rw [r2,hK];rfl
 iterate 2 (try cbv;repeat ((first | with_reducible apply next_at hA | rw [h1] | rw [h2] | rw [h3] | rw [h7] | rw [h5] | rw [h6] | rw [g0] | (refine callo_at hA [0] c1 ⟨rfl,rfl,rfl,rfl,rfl,rfl,rfl⟩ ?_;rintro _ _ ⟨rfl,rfl⟩) | (refine callo_at hA [0,2] c2 ⟨rfl,rfl,rfl,rfl,rfl,rfl,rfl⟩ ?_;rintro _ _ ⟨rfl,rfl⟩) | (refine callo_at hA [0,2] c3 ⟨rfl,rfl,rfl,rfl,rfl,rfl,rfl⟩ ?_;rintro _ _ ⟨rfl,rfl⟩));cbv))
 try simp (maxSteps:=4000000) only [nc] at *
 exact keep_is hA [0,2] ⟨rfl,rfl,rfl,rfl,rfl,rfl,rfl,rfl⟩ ⟨rfl,rfl⟩
theorem write_funF (nm:ByteArray) (n:Int) (a b:Ty) (hf:WrF 49 a (fromW txtS a)) (hw:WrU 25 b (txtS b)):WrF 25 (.mk 4 nm n [a,b]) (txtS (.mk 4 nm n [a,b])):=by
 intro hl
 have ht:txtS (.mk 4 nm n [a,b]) = fromW txtS a ++ (45 :: 62 :: txtS b):=by rw [txt_eq];rfl
 rw [ht] at hl ⊢
 simp only [List.length_cons,List.length_append,List.length_nil] at hl
 have c1:=hf (by omega)
 have c2:=wsU_s (fromW txtS a) ⟨#[45,62]⟩ (by rw [show (⟨#[45,62]⟩:ByteArray).size = 2 from rfl];first | omega | (simp only [List.length_cons,List.length_append,List.length_nil];omega))
 rw [show btl ⟨#[45,62]⟩ = [45,62] from rfl] at c2
 have c3:=hw (fromW txtS a ++ [45,62]) (by simp only [List.length_cons,List.length_append,List.length_nil];omega)
 rw [show (fromW txtS a ++ (45 :: 62 :: txtS b)) = fromW txtS a ++ [45,62] ++ txtS b by simp]
 rw [cT,rT,rT,rT]
 obtain ⟨a0,a1,a2,a3,ha⟩:=cT_four a
 obtain ⟨b0,b1,b2,b3,hb⟩:=cT_four b
 rw [ha] at c1 ⊢
 rw [hb] at c3 ⊢
 try rw [penU_eq] at c1
 try rw [penU_eq] at c1
 try rw [penO_eq] at c1
 try rw [penU_eq] at c2
 try rw [penU_eq] at c2
 try rw [penO_eq] at c2
 try rw [penU_eq] at c3
 try rw [penU_eq] at c3
 try rw [penO_eq] at c3
 try rw [penU_eq] at ⊢
 try rw [penU_eq] at ⊢
 try rw [penO_eq] at ⊢
 generalize rU (fromW txtS a ++ [45,62] ++ txtS b) = R3 at *
 generalize rU (fromW txtS a ++ [45,62]) = R2 at *
 generalize rU (fromW txtS a) = R1 at *
 skip
 clear hl hf hw ht
 obtain ⟨K,hK⟩:∃ K,K = [[a0,a1,a2,a3],[b0,b1,b2,b3]]:=⟨_,rfl⟩
 rw [← hK]
 refine speco_of Tryz.func25 rfl (by kernel_rfl) (by kernel_rfl) (by kernel_rfl) fun qa qb qc qd qe qg qh qi qj qk ql qm qn qo qp qq qt qu qv qw qx qy qz va vc vd ve vf vg vh vj vk vl vm vn vo vp vq vr vt vu vv vw hA=>?_
 obtain ⟨e1,e2,e3,e4,e5,e6,e7,e8,e9⟩:=ar_at hA
 obtain ⟨r1,r2,r3,r4⟩:=row_at hA
 obtain ⟨s1,s2,s3,s4,s5,s6,s7⟩:=str_at hA
 have h1:qk 4 1 = false:=e9 _ _
 have h2:qk 4 2 = false:=e9 _ _
 have h3:qk 4 3 = false:=e9 _ _
 have h7:qk 4 7 = false:=e9 _ _
 have h5:qk 4 5 = false:=e9 _ _
 have h6:qk 4 6 = false:=e9 _ _
 have h4:qk 4 4 = true:=e9 _ _
 have g0:va K 0 = some [a0,a1,a2,a3]:=by rw [r2,hK];rfl
 have g1:va K 1 = some [b0,b1,b2,b3]:=by rw [r2,hK];rfl
 iterate 2 (try cbv;repeat ((first | with_reducible apply next_at hA | rw [h1] | rw [h2] | rw [h3] | rw [h7] | rw [h5] | rw [h6] | rw [h4] | rw [g0] | rw [g1] | (refine callo_at hA [0] c1 ⟨rfl,rfl,rfl,rfl,rfl,rfl,rfl⟩ ?_;rintro _ _ ⟨rfl,rfl⟩) | (refine callo_at hA [0,2] c2 ⟨rfl,rfl,rfl,rfl,rfl,rfl,rfl⟩ ?_;rintro _ _ ⟨rfl,rfl⟩) | (refine callo_at hA [0,2] c3 ⟨rfl,rfl,rfl,rfl,rfl,rfl,rfl⟩ ?_;rintro _ _ ⟨rfl,rfl⟩));cbv))
 try simp (maxSteps:=4000000) only [nc] at *
 exact keep_is hA [0,2] ⟨rfl,rfl,rfl,rfl,rfl,rfl,rfl,rfl⟩ ⟨rfl,rfl⟩
theorem write_leaf1F (nm:ByteArray) (n:Int) (ks:List Ty):WrF 25 (.mk 1 nm n ks) (txtS (.mk 1 nm n ks)):=by
 intro hl
 have ht:txtS (.mk 1 nm n ks) = [73,110,116]:=by rw [txt_eq];rfl
 rw [ht]
 have c1:=wsF_s _ lies_pen ⟨#[73,110,116]⟩ (by show ([73,110,116]:List UInt8).length ≤ _;simp)
 rw [show btl ⟨#[73,110,116]⟩ = [73,110,116] from rfl] at c1
 rw [cT]
 generalize rT ks = K
 rw [penU_eq,penO_eq] at c1 ⊢
 generalize rU [73,110,116] = R1 at *
 refine speco_of Tryz.func25 rfl (by kernel_rfl) (by kernel_rfl) (by kernel_rfl) fun qa qb qc qd qe qg qh qi qj qk ql qm qn qo qp qq qt qu qv qw qx qy qz va vc vd ve vf vg vh vj vk vl vm vn vo vp vq vr vt vu vv vw hA=>?_
 obtain ⟨e1,e2,e3,e4,e5,e6,e7,e8,e9⟩:=ar_at hA
 obtain ⟨r1,r2,r3,r4⟩:=row_at hA
 obtain ⟨s1,s2,s3,s4,s5,s6,s7⟩:=str_at hA
 have h1:qk 1 1 = true:=e9 _ _
 iterate 2 (try cbv;repeat ((first | with_reducible apply next_at hA | rw [h1] | (refine callo_at hA [0] c1 ⟨rfl,rfl,rfl,rfl,rfl,rfl,rfl⟩ ?_;rintro _ _ ⟨rfl,rfl⟩));cbv))
 try simp (maxSteps:=4000000) only [nc] at *
 exact keep_is hA [0,2] ⟨rfl,rfl,rfl,rfl,rfl,rfl,rfl,rfl⟩ ⟨rfl,rfl⟩
theorem write_leaf2F (nm:ByteArray) (n:Int) (ks:List Ty):WrF 25 (.mk 2 nm n ks) (txtS (.mk 2 nm n ks)):=by
 intro hl
 have ht:txtS (.mk 2 nm n ks) = [66,111,111,108]:=by rw [txt_eq];rfl
 rw [ht]
 have c1:=wsF_s _ lies_pen ⟨#[66,111,111,108]⟩ (by show ([66,111,111,108]:List UInt8).length ≤ _;simp)
 rw [show btl ⟨#[66,111,111,108]⟩ = [66,111,111,108] from rfl] at c1
 rw [cT]
 generalize rT ks = K
 rw [penU_eq,penO_eq] at c1 ⊢
 generalize rU [66,111,111,108] = R1 at *
 refine speco_of Tryz.func25 rfl (by kernel_rfl) (by kernel_rfl) (by kernel_rfl) fun qa qb qc qd qe qg qh qi qj qk ql qm qn qo qp qq qt qu qv qw qx qy qz va vc vd ve vf vg vh vj vk vl vm vn vo vp vq vr vt vu vv vw hA=>?_
 obtain ⟨e1,e2,e3,e4,e5,e6,e7,e8,e9⟩:=ar_at hA
 obtain ⟨r1,r2,r3,r4⟩:=row_at hA
 obtain ⟨s1,s2,s3,s4,s5,s6,s7⟩:=str_at hA
 have h1:qk 2 1 = false:=e9 _ _
 have h2:qk 2 2 = true:=e9 _ _
 iterate 2 (try cbv;repeat ((first | with_reducible apply next_at hA | rw [h1] | rw [h2] | (refine callo_at hA [0] c1 ⟨rfl,rfl,rfl,rfl,rfl,rfl,rfl⟩ ?_;rintro _ _ ⟨rfl,rfl⟩));cbv))
 try simp (maxSteps:=4000000) only [nc] at *
 exact keep_is hA [0,2] ⟨rfl,rfl,rfl,rfl,rfl,rfl,rfl,rfl⟩ ⟨rfl,rfl⟩
theorem write_leaf3F (nm:ByteArray) (n:Int) (ks:List Ty):WrF 25 (.mk 3 nm n ks) (txtS (.mk 3 nm n ks)):=by
 intro hl
 have ht:txtS (.mk 3 nm n ks) = [63]:=by rw [txt_eq];rfl
 rw [ht]
 have c1:=wbF_s _ lies_pen 63
 replace c1:SpecO 46 [.ptr 0 0,vi .u8 63] _ _:=c1
 rw [cT]
 generalize rT ks = K
 rw [penU_eq,penO_eq] at c1 ⊢
 generalize rU [63] = R1 at *
 refine speco_of Tryz.func25 rfl (by kernel_rfl) (by kernel_rfl) (by kernel_rfl) fun qa qb qc qd qe qg qh qi qj qk ql qm qn qo qp qq qt qu qv qw qx qy qz va vc vd ve vf vg vh vj vk vl vm vn vo vp vq vr vt vu vv vw hA=>?_
 obtain ⟨e1,e2,e3,e4,e5,e6,e7,e8,e9⟩:=ar_at hA
 obtain ⟨r1,r2,r3,r4⟩:=row_at hA
 obtain ⟨s1,s2,s3,s4,s5,s6,s7⟩:=str_at hA
 have h1:qk 3 1 = false:=e9 _ _
 have h2:qk 3 2 = false:=e9 _ _
 have h3:qk 3 3 = true:=e9 _ _
 iterate 2 (try cbv;repeat ((first | with_reducible apply next_at hA | rw [h1] | rw [h2] | rw [h3] | (refine callo_at hA [0] c1 ⟨rfl,rfl,rfl,rfl,rfl,rfl,rfl⟩ ?_;rintro _ _ ⟨rfl,rfl⟩));cbv))
 try simp (maxSteps:=4000000) only [nc] at *
 exact keep_is hA [0,2] ⟨rfl,rfl,rfl,rfl,rfl,rfl,rfl,rfl⟩ ⟨rfl,rfl⟩
theorem write_varF (nm:ByteArray) (n:Int) (ks:List Ty) (h0:0 ≤ n) (h1:n ≤ 9223372036854775807):WrF 25 (.mk 7 nm n ks) (txtS (.mk 7 nm n ks)):=by
 intro hl
 have ht:txtS (.mk 7 nm n ks) = 39 :: Lib.itoa n:=by rw [txt_eq];rfl
 rw [ht] at hl ⊢
 have hi:=itoa_c n (by omega) h1
 have hb:btl (⟨#[39]⟩ ++ ⟨(Lib.itoa n).toArray⟩:ByteArray) = 39 :: Lib.itoa n:=by unfold btl;simp
 have hz:(⟨#[39]⟩ ++ ⟨(Lib.itoa n).toArray⟩:ByteArray).size = (39 :: Lib.itoa n).length:=by rw [← hb,btl_size]
 have c1:=wsF_s _ lies_pen (⟨#[39]⟩ ++ ⟨(Lib.itoa n).toArray⟩) (by rw [hz];exact hl)
 rw [hb] at c1
 have hfit:(⟨#[39]⟩:ByteArray).size + (⟨(Lib.itoa n).toArray⟩:ByteArray).size ≤ 4611686018427387904:=by
  have h2:(⟨#[39]⟩ ++ ⟨(Lib.itoa n).toArray⟩:ByteArray).size = (⟨#[39]⟩:ByteArray).size + (⟨(Lib.itoa n).toArray⟩:ByteArray).size:=by simp
  rw [← h2,hz];omega
 rw [cT]
 generalize rT ks = K
 rw [penU_eq,penO_eq] at c1 ⊢
 generalize rU (39 :: Lib.itoa n) = R1 at *
 clear hl hz hb ht
 generalize (⟨(Lib.itoa n).toArray⟩:ByteArray) = D at *
 obtain ⟨S,hS⟩:∃ S,S = (⟨#[39]⟩ ++ D:ByteArray):=⟨_,rfl⟩
 rw [← hS] at c1
 refine speco_of Tryz.func25 rfl (by kernel_rfl) (by kernel_rfl) (by kernel_rfl) fun qa qb qc qd qe qg qh qi qj qk ql qm qn qo qp qq qt qu qv qw qx qy qz va vc vd ve vf vg vh vj vk vl vm vn vo vp vq vr vt vu vv vw hA=>?_
 obtain ⟨e1,e2,e3,e4,e5,e6,e7,e8,e9⟩:=ar_at hA
 obtain ⟨r1,r2,r3,r4⟩:=row_at hA
 obtain ⟨s1,s2,s3,s4,s5,s6,s7⟩:=str_at hA
 have h1:qk 7 1 = false:=e9 _ _
 have h2:qk 7 2 = false:=e9 _ _
 have h3:qk 7 3 = false:=e9 _ _
 have h7:qk 7 7 = true:=e9 _ _
 have hc:qp ⟨#[39]⟩ D = S:=by rw [s4,hS]
 iterate 2 (try cbv;repeat ((first | with_reducible apply next_at hA | rw [h1] | rw [h2] | rw [h3] | rw [h7] | refine call_at hA _ hi rfl ?_ | refine calm_at hA _ hi ?_);cbv))
 try simp (maxSteps:=4000000) only [nc] at *
 refine fits_at hA hfit ?_
 cbv
 rw [hc]
 iterate 2 (try cbv;repeat ((first | with_reducible apply next_at hA | (refine callo_at hA [0] c1 ⟨rfl,rfl,rfl,rfl,rfl,rfl,rfl⟩ ?_;rintro _ _ ⟨rfl,rfl⟩));cbv))
 try simp (maxSteps:=4000000) only [nc] at *
 exact keep_is hA [0,2] ⟨rfl,rfl,rfl,rfl,rfl,rfl,rfl,rfl⟩ ⟨rfl,rfl⟩
theorem Mod.part {t x:Ty} (h:Mod t) (hx:x ∈ t.parts):Mod x:=fun y hy=>h y (parts_trans hy hx)
theorem write_all (W:ByteArray → Bool):∀ (m:Nat) (t:Ty),t.parts.length ≤ m → shapeB W t 116 = true → Mod t → WrU 25 t (txtS t) ∧ WrF 25 t (txtS t):=by
 intro m
 induction m with
 | zero=>intro t h;have:=parts_pos t;omega
 | succ m ih =>
  intro t hm hs hM
  have hkl:=kids_le t
  have hself:=hM.self
  obtain ⟨h0,hc⟩:=shape_ty hs
  have hfrom:∀ a:Ty,WrU 25 a (txtS a) ∧ WrF 25 a (txtS a) → WrU 49 a (fromW txtS a) ∧ WrF 49 a (fromW txtS a):=fun a ha=>by
   by_cases h4:a.op = 4
   ·exact ⟨from_fnU a h4 ha.1,from_fnF a h4 ha.1⟩
   ·exact ⟨from_noU a h4 ha.1,from_noF a h4 ha.2⟩
  have hrow:∀ a:Ty,a ∈ t.kids → shapeB W a 114 = true → WrU 48 a (rowT txtS a):=fun a ha hsa=>by
   have h1:=hkl.2 a ha
   exact row_u W a hsa (fun x hx=>((hM.kid ha) x hx).2.2) fun x hx hxm hxs=>(ih x (by omega) hxs ((hM.kid ha).part hxm)).1
  rw [Ty.eta t] at hm hs hM ⊢
  rcases hc with ⟨hop,hk⟩ | ⟨hop,a,b,hk,hsa,hsb⟩ | ⟨hop,a,hk,hsa⟩
  ·rcases hop with h | h | h | h
   ·exact ⟨write_leaf _ (.inl h),by rw [h];exact write_leaf1F _ _ _⟩
   ·exact ⟨write_leaf _ (.inr (.inl h)),by rw [h];exact write_leaf2F _ _ _⟩
   ·exact ⟨write_leaf _ (.inr (.inr h)),by rw [h];exact write_leaf3F _ _ _⟩
   ·rw [h]
    refine ⟨?_,write_varF _ _ _ h0 hself.2.2⟩
    have h1:=write_var t.name t.n t.kids h0 hself.2.2
    rw [show txtS (.mk 7 t.name t.n t.kids) = 39 :: Lib.itoa t.n by rw [txt_eq];rfl]
    exact h1
  ·have ha:=ih a (by have:=hkl.2 a (by rw [hk];simp);rw [← Ty.eta t] at hm;omega) hsa (by rw [← Ty.eta t] at hM;exact hM.kid (by rw [hk];simp))
   have hb:=ih b (by have:=hkl.2 b (by rw [hk];simp);rw [← Ty.eta t] at hm;omega) hsb (by rw [← Ty.eta t] at hM;exact hM.kid (by rw [hk];simp))
   rw [hop,hk]
   exact ⟨write_funU _ _ a b (hfrom a ha).1 hb.1,write_funF _ _ a b (hfrom a ha).2 hb.1⟩
  ·have hr:=hrow a (by rw [hk];simp) hsa
   rw [hk]
   rcases hop with h | h
   ·rw [h];exact ⟨write_recU _ _ a hr,write_recF _ _ a hr⟩
   ·rw [h];exact ⟨write_vntU _ _ a hr,write_vntF _ _ a hr⟩
def putS (d:ByteArray × Ty) (p:Bool × List (ByteArray × Ty)) (y:ByteArray × Ty):Bool × List (ByteArray × Ty) :=
 match p.1 with
 | true=>(true,p.2 ++ [y])
 | false=>match ltF d y with | true=>(true,p.2 ++ [d] ++ [y]) | false=>(false,p.2 ++ [y])
theorem put_true (d:ByteArray × Ty):∀ (l acc:List (ByteArray × Ty)),l.foldl (putS d) (true,acc) = (true,acc ++ l)
 | [],acc=>by simp
 | y :: l,acc=>by rw [List.foldl_cons,show putS d (true,acc) y = (true,acc ++ [y]) from rfl,put_true d l];simp
theorem put_false (d:ByteArray × Ty):∀ (l acc:List (ByteArray × Ty)),(l.foldl (putS d) (false,acc)).2 ++ (if (l.foldl (putS d) (false,acc)).1 = true then [] else [d]) = acc ++ insS ltF d l
 | [],acc=>by simp [insS]
 | y :: l,acc=>by
  rw [List.foldl_cons,insS]
  cases h:ltF d y with
  | true =>
   rw [show putS d (false,acc) y = (true,acc ++ [d] ++ [y]) by unfold putS;rw [h],put_true]
   simp
  | false =>
   rw [show putS d (false,acc) y = (false,acc ++ [y]) by unfold putS;rw [h],put_false d l]
   simp
theorem put_len (d:ByteArray × Ty) (l:List (ByteArray × Ty)):∀ (p:Bool × List (ByteArray × Ty)),(l.foldl (putS d) p).2.length ≤ p.2.length + l.length + 1:=by
 have h1:∀ (l:List (ByteArray × Ty)) (acc:List (ByteArray × Ty)),(l.foldl (putS d) (true,acc)).2.length = acc.length + l.length:=fun l acc=>by rw [put_true];simp
 induction l with
 | nil=>intro p;simp
 | cons y l ih =>
  intro p
  obtain ⟨b,acc⟩:=p
  rw [List.foldl_cons]
  cases b with
  | true=>rw [show putS d (true,acc) y = (true,acc ++ [y]) from rfl,h1];simp;omega
  | false =>
   cases h:ltF d y with
   | true=>rw [show putS d (false,acc) y = (true,acc ++ [d] ++ [y]) by unfold putS;rw [h],h1];simp;omega
   | false =>
    rw [show putS d (false,acc) y = (false,acc ++ [y]) by unfold putS;rw [h]]
    have:=ih (false,acc ++ [y])
    simp at this ⊢
    omega
theorem put_take (d:ByteArray × Ty) (l:List (ByteArray × Ty)) {k:Nat} {y:ByteArray × Ty} (h:l[k]? = some y) (p:Bool × List (ByteArray × Ty)):(l.take (k + 1)).foldl (putS d) p = putS d ((l.take k).foldl (putS d) p) y:=by
 rw [List.take_add_one,h,List.foldl_append]
 rfl
theorem rF_app (a b:List (ByteArray × Ty)):rF (a ++ b) = rF a ++ rF b:=by unfold rF;rw [List.map_append]
theorem rF_one (x:ByteArray × Ty):rF [x] = [.sc (.string x.1) :: cT x.2]:=rfl
theorem FieldsO_s (t:Ty) (hs:Spine t) (hN:t.parts.length ≤ 1048576):SpecO 41 [.ag (ofD (cT t))] [] (fun res os'=>res = [.own 0,.ag (ofD (cT (tailS t)))] ∧ os' = [.row false 85 (rF (sortS ltF (fieldsS t)))]):=by
 obtain ⟨Q,hQ⟩:∃ Q,Q = rF (sortS ltF (fieldsS t)):=⟨_,rfl⟩
 rw [← hQ]
 obtain ⟨q0,q1,q2,q3,hq⟩:=cT_four (tailS t)
 rw [hq]
 obtain ⟨op,nm,n,ks⟩:=t
 generalize ht:Ty.mk op nm n ks = t at *
 have hc:cT t = [.sc (.int .u8 op),.sc (.string nm),.sc (.int .i64 n),.sl 4 (rT ks)]:=by rw [← ht,cT]
 obtain ⟨K0,hK0⟩:∃ K,K = rT ks:=⟨_,rfl⟩
 rw [hc,← hK0]
 refine speco_of Tryz.func41 rfl (by kernel_rfl) (by kernel_rfl) (by kernel_rfl) fun qa qb qc qd qe qg qh qi qj qk ql qm qn qo qp qq qt qu qv qw qx qy qz va vc vd ve vf vg vh vj vk vl vm vn vo vp vq vr vt vu vv vw hA=>?_
 cbv
 repeat (with_reducible apply next_at hA;cbv)
 obtain ⟨e1,e2,e3,e4,e5,e6,e7,e8,e9⟩:=ar_at hA
 obtain ⟨s1,s2,s3,s4,s5,s6,-⟩:=str_at hA
 obtain ⟨r1,r2,r3,r4⟩:=row_at hA
 refine loopn_at hA (γ:=Ty × Int × ByteArray × Int × List (List D) × List (List D)) (fun x=>[(4,.own 2)]) (fun x=>[(0,.box [.d (.sc (.int .u8 x.2.1)),.d (.sc (.string x.2.2.1)),.d (.sc (.int .i64 x.2.2.2.1)),.d (.sl 4 x.2.2.2.2.1)])]) (fun x=>[.row false 85 x.2.2.2.2.2])
  (fun x=>∃ ks fs,x.1 = .mk x.2.1 x.2.2.1 x.2.2.2.1 ks ∧ x.2.2.2.2.1 = rT ks ∧ Spine x.1 ∧ x.2.2.2.2.2 = rF (sortS ltF fs) ∧ fs ++ fieldsS x.1 = fieldsS t ∧ tailS x.1 = tailS t ∧ fs.length + x.1.parts.length ≤ 1048576) (fun x=>x.1.parts.length) (t,op,nm,n,K0,[]) ?_ ?_ ?_
 ·exact ⟨ks,[],ht.symm,hK0,hs,rfl,rfl,rfl,by simpa using hN⟩
 ·refine GhostN.of (Ghost.own _ 4 85 false rfl) ?_ (by exact Nat.le_of_ble_eq_true rfl)
  cbv
 ·intro x hinv
  obtain ⟨r,op,nm,n,K,L⟩:=x
  cbv
  repeat ((with_reducible apply next_at hA);cbv)
  obtain ⟨ks,fs,hr,hK,hsr,hL,hfs,htl,hlen⟩:=hinv
  replace hr:r = .mk op nm n ks:=hr
  replace hK:K = rT ks:=hK
  replace hsr:Spine r:=hsr
  replace hL:L = rF (sortS ltF fs):=hL
  replace hfs:fs ++ fieldsS r = fieldsS t:=hfs
  replace htl:tailS r = tailS t:=htl
  replace hlen:fs.length + r.parts.length ≤ 1048576:=hlen
  have h11:qk op 11 = decide (op = 11):=e9 _ _
  by_cases hop:op = 11
  ·rw [decide_eq_true hop] at h11
   obtain ⟨a,b,hk,hsb,hfb,htb⟩:=fields_step hsr (by rw [hr];exact hop)
   have hnmr:r.name = nm:=by rw [hr];rfl
   rw [hnmr] at hfb
   have hks:ks = [a,b]:=by rw [← hk,hr];rfl
   obtain ⟨a0,a1,a2,a3,ha⟩:=cT_four a
   obtain ⟨op',nm',n',ks'⟩:=b
   generalize hb:Ty.mk op' nm' n' ks' = b at *
   have hcb:cT b = [.sc (.int .u8 op'),.sc (.string nm'),.sc (.int .i64 n'),.sl 4 (rT ks')]:=by rw [← hb,cT]
   obtain ⟨K',hK'⟩:∃ K,K = rT ks':=⟨_,rfl⟩
   rw [← hK'] at hcb
   have g0:va K 0 = some [a0,a1,a2,a3]:=by rw [r2,if_pos (by omega),hK,hks];exact congrArg some ha
   have g1:va K 1 = some [.sc (.int .u8 op'),.sc (.string nm'),.sc (.int .i64 n'),.sl 4 K']:=by rw [r2,if_pos (by omega),hK,hks];exact congrArg some hcb
   rw [h11]
   cbv
   repeat ((with_reducible apply next_at hA);cbv)
   rw [g0]
   cbv
   repeat (first | (refine own_at hA 6 85 false rfl ?_;cbv) | (with_reducible apply next_at hA;cbv))
   refine loop_at hA (γ:=Int × Bool × List (List D)) (fun x=>[(8,vi .i64 x.1),(7,vb x.2.1),(6,.own 4)]) (fun x=>[(4,.row false 85 x.2.2)])
    (fun x=>∃ k:Nat,x.1 = (k:Int) ∧ k ≤ (sortS ltF fs).length ∧ x.2.1 = (((sortS ltF fs).take k).foldl (putS (nm,a)) (false,[])).1 ∧ x.2.2 = rF (((sortS ltF fs).take k).foldl (putS (nm,a)) (false,[])).2) (fun x=>(sortS ltF fs).length - x.1.toNat) (0,false,[]) ?_ ?_ ?_
   ·exact ⟨0,rfl,Nat.zero_le _,rfl,rfl⟩
   ·cbv
   ·intro x hinv
    obtain ⟨z,inn,M⟩:=x
    cbv
    repeat ((with_reducible apply next_at hA);cbv)
    obtain ⟨k,hz,hk2,hin,hM⟩:=hinv
    replace hz:z = (k:Int):=hz
    replace hin:inn = (((sortS ltF fs).take k).foldl (putS (nm,a)) (false,[])).1:=hin
    replace hM:M = rF (((sortS ltF fs).take k).foldl (putS (nm,a)) (false,[])).2:=hM
    have hsn:(sortS ltF fs).length = fs.length:=sortS_len fs
    have hll:qz L = (((sortS ltF fs).length:Nat):Int):=by rw [r1,hL,rF_len]
    have hlt:qi z (qz L) = decide (k < (sortS ltF fs).length):=by rw [e7,hll,hz];exact decide_eq_decide.2 (by omega)
    by_cases h9:k < (sortS ltF fs).length
    ·rw [decide_eq_true h9] at hlt
     obtain ⟨x,hx⟩:∃ x,(sortS ltF fs)[k]? = some x:=⟨_,List.getElem?_eq_getElem h9⟩
     have hpt:=put_take (nm,a) (sortS ltF fs) hx (false,[])
     generalize hPk:((sortS ltF fs).take k).foldl (putS (nm,a)) (false,[]) = P at *
     obtain ⟨xn,xt⟩:=x
     obtain ⟨x0,x1,x2,x3,hxx⟩:=cT_four xt
     have gx:va L z = some [.sc (.string xn),x0,x1,x2,x3]:=by rw [r2,hz,if_pos (by omega),hL,show ((k:Int)).toNat = k by omega,rF_get hx,hxx]
     have hsl:qn (qo nm) (qo xn) = ltF (nm,a) (xn,xt):=by rw [s2,s3,s3];rfl
     rw [hlt]
     obtain ⟨Pb,Pl⟩:=P
     simp only at hin hM
     subst hin
     have hz1:qa .i64 (qb z 1) = ((k + 1:Nat):Int):=by rw [e1,e2,hz,IntWalk.i64_in _ (by omega)];omega
     have hmu:(sortS ltF fs).length - (qa .i64 (qb z 1)).toNat < (sortS ltF fs).length - z.toNat:=by rw [hz1,hz];omega
     have hMl:M.length ≤ 1048577:=by
      have h:=put_len (nm,a) ((sortS ltF fs).take k) (false,[])
      rw [hPk,List.length_take] at h
      rw [hM,rF_len]
      simp only [List.length_nil] at h
      omega
     cases inn
     ·cases hlx:ltF (nm,a) (xn,xt)
      ·have hput:putS (nm,a) (false,Pl) (xn,xt) = (false,Pl ++ [(xn,xt)]):=by unfold putS;rw [hlx]
       rw [hlx] at hsl
       rw [hput] at hpt
       cbv;repeat (first | (with_reducible apply next_at hA;cbv) | (rw [gx];cbv) | (rw [hsl];cbv) | (refine lit_at hA true ?_;cbv) | (refine room_at hA (by simp only [r4,List.length_append,List.length_cons,List.length_nil];omega) ?_;cbv))
       refine ⟨(qa .i64 (qb z 1),false,vd M [[.sc (.string xn),x0,x1,x2,x3]]),⟨k + 1,hz1,h9,by rw [hpt],by rw [hpt];show vd M _ = rF (Pl ++ [(xn,xt)]);rw [r4,hM,rF_app,rF_one,hxx]⟩,hmu,?_⟩
       cbv
      ·have hput:putS (nm,a) (false,Pl) (xn,xt) = (true,Pl ++ [(nm,a)] ++ [(xn,xt)]):=by unfold putS;rw [hlx]
       rw [hlx] at hsl
       rw [hput] at hpt
       cbv;repeat (first | (with_reducible apply next_at hA;cbv) | (rw [gx];cbv) | (rw [hsl];cbv) | (refine lit_at hA true ?_;cbv) | (refine room_at hA (by simp only [r4,List.length_append,List.length_cons,List.length_nil];omega) ?_;cbv))
       refine ⟨(qa .i64 (qb z 1),true,vd (vd M [[.sc (.string nm),a0,a1,a2,a3]]) [[.sc (.string xn),x0,x1,x2,x3]]),⟨k + 1,hz1,h9,by rw [hpt],by rw [hpt];show vd (vd M _) _ = rF (Pl ++ [(nm,a)] ++ [(xn,xt)]);rw [r4,r4,hM,rF_app,rF_app,rF_one,rF_one,hxx,ha]⟩,hmu,?_⟩
       cbv
     ·have hput:putS (nm,a) (true,Pl) (xn,xt) = (true,Pl ++ [(xn,xt)]):=rfl
      rw [hput] at hpt
      cbv;repeat (first | (with_reducible apply next_at hA;cbv) | (rw [gx];cbv) | (rw [hsl];cbv) | (refine lit_at hA true ?_;cbv) | (refine room_at hA (by simp only [r4,List.length_append,List.length_cons,List.length_nil];omega) ?_;cbv))
      refine ⟨(qa .i64 (qb z 1),true,vd M [[.sc (.string xn),x0,x1,x2,x3]]),⟨k + 1,hz1,h9,by rw [hpt],by rw [hpt];show vd M _ = rF (Pl ++ [(xn,xt)]);rw [r4,hM,rF_app,rF_one,hxx]⟩,hmu,?_⟩
      cbv
    ·rw [decide_eq_false h9] at hlt
     have hins:=put_false (nm,a) (sortS ltF fs) []
     rw [List.take_of_length_le (by omega)] at hin hM
     have hMl:M.length ≤ 1048577:=by
      have h:=put_len (nm,a) (sortS ltF fs) (false,[])
      rw [hM,rF_len]
      simp only [List.length_nil] at h
      omega
     generalize hPk:(sortS ltF fs).foldl (putS (nm,a)) (false,[]) = P at *
     obtain ⟨Pb,Pl⟩:=P
     simp only at hin hM hins
     subst hin
     rw [List.nil_append,← sort_snoc] at hins
     have hbl:b.parts.length < r.parts.length:=(kids_le r).2 b (by rw [hk];simp)
     have hfs2:(fs ++ [(nm,a)]) ++ fieldsS b = fieldsS t:=by rw [List.append_assoc,← hfs,hfb];rfl
     rw [hlt]
     cases inn
     ·cbv;repeat (first | (with_reducible apply next_at hA;cbv) | (rw [g1];cbv) | (refine lit_at hA true ?_;cbv) | (refine room_at hA (by simp only [r4,List.length_append,List.length_cons,List.length_nil];omega) ?_;cbv))
      have hnew:vd M [[.sc (.string nm),a0,a1,a2,a3]] = rF (sortS ltF (fs ++ [(nm,a)])):=by rw [← hins,if_neg (by decide),r4,hM,rF_app,rF_one,ha]
      refine ⟨(b,op',nm',n',K',vd M [[.sc (.string nm),a0,a1,a2,a3]]),⟨ks',fs ++ [(nm,a)],hb.symm,hK',hsb,hnew,hfs2,by rw [← htl,htb],by rw [List.length_append];show fs.length + 1 + b.parts.length ≤ _;omega⟩,hbl,GhostN.of (Ghost.move _ 4 2 4 rfl rfl rfl rfl) ?_ (by exact Nat.le_of_ble_eq_true rfl)⟩
      cbv
     ·cbv;repeat (first | (with_reducible apply next_at hA;cbv) | (rw [g1];cbv) | (refine lit_at hA true ?_;cbv) | (refine room_at hA (by simp only [r4,List.length_append,List.length_cons,List.length_nil];omega) ?_;cbv))
      have hnew:M = rF (sortS ltF (fs ++ [(nm,a)])):=by rw [← hins,if_pos rfl,List.append_nil,hM]
      refine ⟨(b,op',nm',n',K',M),⟨ks',fs ++ [(nm,a)],hb.symm,hK',hsb,hnew,hfs2,by rw [← htl,htb],by rw [List.length_append];show fs.length + 1 + b.parts.length ≤ _;omega⟩,hbl,GhostN.of (Ghost.move _ 4 2 4 rfl rfl rfl rfl) ?_ (by exact Nat.le_of_ble_eq_true rfl)⟩
      cbv
  ·rw [decide_eq_false hop] at h11
   obtain ⟨hf0,ht0⟩:=fields_end (t:=r) (by rw [hr];exact hop)
   rw [hf0,List.append_nil] at hfs
   have hLQ:L = Q:=by rw [hL,hfs,hQ]
   rw [ht0,hr] at htl
   rw [← htl,cT,← hK] at hq
   rw [h11,hLQ]
   cases hq
   cbv
   repeat ((with_reducible apply next_at hA);cbv)
   exact keep_is hA [2] ⟨rfl,rfl,rfl,rfl,rfl,rfl,rfl,rfl⟩ ⟨rfl,rfl⟩
end Go.Proofs.YtahpnackkmbmgaaGreatDoor.Vm
end
section
namespace Go.Proofs.YtahpnackkmbmgaaGreatDoor.Vm
section
def swapL {α:Type} (a b:Nat):Nat → List α → List α
 | 0,l=>l
 | k + 1,l=>match (swapL a b k l)[a + k]?,(swapL a b k l)[b + k]? with
  | some x,some y=>((swapL a b k l).set (a + k) y).set (b + k) x
  | _,_=>swapL a b k l
theorem swapL_len {α:Type} (a b:Nat):∀ (k:Nat) (l:List α),(swapL a b k l).length = l.length
 | 0,l=>rfl
 | k + 1,l=>by
  unfold swapL
  split
  ·rw [List.length_set,List.length_set,swapL_len]
  ·exact swapL_len a b k l
theorem swapL_get {α:Type} (a b:Nat):∀ (k:Nat) (l:List α),a + k ≤ b → b + k ≤ l.length → ∀ i,(swapL a b k l)[i]? = if a ≤ i ∧ i < a + k then l[i - a + b]? else if b ≤ i ∧ i < b + k then l[i - b + a]? else l[i]?
 | 0,l,_,_,i=>by
  rw [if_neg (by omega),if_neg (by omega)]
  rfl
 | k + 1,l,h1,h2,i=>by
  have ih:=swapL_get a b k l (by omega) (by omega)
  have ea:=ih (a + k)
  have eb:=ih (b + k)
  rw [if_neg (by omega),if_neg (by omega)] at ea eb
  have hla:a + k < l.length:=by omega
  have hlb:b + k < l.length:=by omega
  rw [List.getElem?_eq_getElem hla] at ea
  rw [List.getElem?_eq_getElem hlb] at eb
  unfold swapL
  rw [ea,eb]
  simp only
  have hsl:=swapL_len a b k l
  by_cases e1:i = b + k
  ·subst e1
   rw [List.getElem?_set_self (by rw [List.length_set,hsl];omega),if_neg (by omega),if_pos (by omega),show b + k - b + a = a + k by omega,List.getElem?_eq_getElem hla]
  ·rw [List.getElem?_set_ne (by omega)]
   by_cases e2:i = a + k
   ·subst e2
    rw [List.getElem?_set_self (by rw [hsl];omega),if_pos (by omega),show a + k - a + b = b + k by omega,List.getElem?_eq_getElem hlb]
   ·rw [List.getElem?_set_ne (by omega),ih i]
    by_cases c1:a ≤ i ∧ i < a + k
    ·rw [if_pos c1,if_pos (by omega)]
    ·rw [if_neg c1]
     by_cases c2:b ≤ i ∧ i < b + k
     ·rw [if_pos c2,if_neg (by omega),if_pos (by omega)]
     ·rw [if_neg c2,if_neg (by omega),if_neg (by omega)]
theorem swapL_split {α:Type} (P X M Y S:List α) (h:X.length = Y.length):swapL P.length (P.length + X.length + M.length) X.length (P ++ (X ++ (M ++ (Y ++ S)))) = P ++ (Y ++ (M ++ (X ++ S))):=by
 apply List.ext_getElem?
 intro i
 rw [swapL_get _ _ _ _ (by omega) (by simp only [List.length_append];omega)]
 simp only [List.getElem?_append]
 repeat' split
 all_goals first
  | rfl
  | omega
  | (congr 1;omega)
theorem split_at {α:Type} {l:List α} {n:Nat} (h:n ≤ l.length):∃ a b,l = a ++ b ∧ a.length = n:=⟨l.take n,l.drop n,(List.take_append_drop n l).symm,by simp;omega⟩
theorem take_one {α:Type} {xs:List α} {k:Nat} {y:α} (h:xs[k]? = some y):xs.take (k + 1) = xs.take k ++ [y]:=by
 obtain ⟨hi,e⟩:=List.getElem?_eq_some_iff.1 h
 rw [List.take_succ_eq_append_getElem hi,e]
theorem bytes_irr:∀ l:List UInt8,Op.bytesLess l l = false
 | []=>rfl
 | a :: l=>by simp [Op.bytesLess,bytes_irr l]
theorem bytes_tra:∀ x y z:List UInt8,Op.bytesLess x y = true → Op.bytesLess y z = true → Op.bytesLess x z = true
 | x,[],_,h,_=>by cases x <;> simp [Op.bytesLess] at h
 | _,_ :: _,[],_,h=>by simp [Op.bytesLess] at h
 | [],_ :: _,_ :: _,_,_=>by simp [Op.bytesLess]
 | a :: x,b :: y,c :: z,h1,h2=>by
  simp only [Op.bytesLess,Bool.or_eq_true,decide_eq_true_eq,Bool.and_eq_true,beq_iff_eq] at h1 h2 ⊢
  rcases h1 with h1 | ⟨rfl,h1⟩
  ·rcases h2 with h2 | ⟨rfl,h2⟩
   ·exact .inl (UInt8.lt_trans h1 h2)
   ·exact .inl h1
  ·rcases h2 with h2 | ⟨rfl,h2⟩
   ·exact .inl h2
   ·exact .inr ⟨rfl,bytes_tra x y z h1 h2⟩
theorem bytes_neg:∀ x y z:List UInt8,Op.bytesLess x y = false → Op.bytesLess y z = false → Op.bytesLess x z = false
 | x,_,[],_,_=>by cases x <;> simp [Op.bytesLess]
 | _,[],_ :: _,_,h=>by simp [Op.bytesLess] at h
 | [],_ :: _,_,h,_=>by simp [Op.bytesLess] at h
 | a :: x,b :: y,c :: z,h1,h2=>by
  simp only [Op.bytesLess,Bool.or_eq_false_iff,decide_eq_false_iff_not,Bool.and_eq_false_iff,beq_eq_false_iff_ne,ne_eq] at h1 h2 ⊢
  obtain ⟨h1,h1'⟩:=h1
  obtain ⟨h2,h2'⟩:=h2
  have h3:¬ a < c:=fun h=>by
   rw [UInt8.lt_iff_toNat_lt] at h h1 h2
   omega
  refine ⟨h3,?_⟩
  by_cases hac:a = c
  ·subst hac
   right
   have hab:a = b:=by
    rw [UInt8.lt_iff_toNat_lt] at h1 h2
    exact UInt8.toNat_inj.1 (by omega)
   subst hab
   exact bytes_neg x y z (by simpa using h1') (by simpa using h2')
  ·exact .inl hac
abbrev Rw:=List D
def keyR:Rw → List UInt8
 | .sc (.string a) :: _=>a.toList
 | _=>[]
def ltR (x y:Rw):Bool:=Op.bytesLess (keyR x) (keyR y)
theorem swoR:Swo ltR:=⟨fun _=>bytes_irr _,fun _ _ _=>bytes_tra _ _ _,fun _ _ _=>bytes_neg _ _ _⟩
theorem insS_map {α β:Type} {f:α → β} {lt:α → α → Bool} {lt2:β → β → Bool} (h:∀ x y,lt2 (f x) (f y) = lt x y) (x:α):∀ l:List α,insS lt2 (f x) (l.map f) = (insS lt x l).map f
 | []=>rfl
 | y :: l=>by
  rw [List.map_cons,insS,insS,h]
  split
  ·rfl
  ·rw [List.map_cons,insS_map h x l]
theorem sortS_map {α β:Type} {f:α → β} {lt:α → α → Bool} {lt2:β → β → Bool} (h:∀ x y,lt2 (f x) (f y) = lt x y) (l:List α):sortS lt2 (l.map f) = (sortS lt l).map f:=by
 have key:∀ (l acc:List α),(l.map f).foldl (fun acc x=>insS lt2 x acc) (acc.map f) = (l.foldl (fun acc x=>insS lt x acc) acc).map f:=by
  intro l
  induction l with
  | nil=>intro acc;rfl
  | cons x l ih=>intro acc;rw [List.map_cons,List.foldl_cons,List.foldl_cons,insS_map h,ih]
 exact key l []
theorem all_le {x:Rw} {L:List Rw} {y:Rw} (hs:Srt ltR (L ++ [y])) (h:ltR x y = false):∀ z ∈ L ++ [y],ltR x z = false:=by
 intro z hz
 rcases List.mem_append.1 hz with hz | hz
 ·exact swoR.neg x y z h ((srt_append.1 hs).2.2 z hz y (by simp))
 ·simp at hz;subst hz;exact h
theorem swap_adj {α:Type} (A R:List α) (x y:α) {k:Nat} (h:A.length = k):((A ++ y :: x :: R).set (k + 1) y).set k x = A ++ x :: y :: R:=by
 subst h
 rw [List.set_append_right _ _ (by omega),show A.length + 1 - A.length = 1 by omega,List.set_append_right _ _ (Nat.le_refl _),Nat.sub_self]
 rfl
theorem half_in {V:List Rw} {h:Nat} {y:Rw} (hs:Srt ltR V) (hy:V[h]? = some y):(∀ z ∈ V.take h,ltR y z = false) ∧ ∀ z ∈ V.drop (h + 1),ltR z y = false:=by
 obtain ⟨hh,e⟩:=List.getElem?_eq_some_iff.1 hy
 have hsp:V = V.take h ++ y :: V.drop (h + 1):=by
  conv=>lhs;rw [← List.take_append_drop h V,List.drop_eq_getElem_cons hh,e]
 rw [hsp] at hs
 obtain ⟨_,h2,h3⟩:=srt_append.1 hs
 exact ⟨fun z hz=>h3 z hz y (List.mem_cons_self ..),fun z hz=>(List.pairwise_cons.1 h2).1 z hz⟩
theorem search_up {V:List Rw} {h:Nat} {y u:Rw} (hs:Srt ltR V) (hy:V[h]? = some y) (hl:ltR y u = true):∀ z ∈ V.take (h + 1),ltR z u = true:=by
 intro z hz
 rw [take_one hy] at hz
 rcases List.mem_append.1 hz with hz | hz
 ·exact lt_of_le_lt swoR ((half_in hs hy).1 z hz) hl
 ·simp at hz;subst hz;exact hl
theorem search_down {V:List Rw} {h:Nat} {y u:Rw} (hs:Srt ltR V) (hy:V[h]? = some y) (hl:ltR y u = false):∀ z ∈ V.drop h,ltR z u = false:=by
 intro z hz
 obtain ⟨hh,e⟩:=List.getElem?_eq_some_iff.1 hy
 rw [List.drop_eq_getElem_cons hh,e] at hz
 rcases List.mem_cons.1 hz with rfl | hz
 ·exact hl
 ·exact swoR.neg z y u ((half_in hs hy).2 z hz) hl
theorem swap_adj2 {α:Type} (A R:List α) (x y:α) {k:Nat} (h:A.length = k):((A ++ x :: y :: R).set k y).set (k + 1) x = A ++ y :: x :: R:=by
 subst h
 rw [List.set_append_right _ _ (Nat.le_refl _),Nat.sub_self,List.set_cons_zero,List.set_append_right _ _ (by omega),show A.length + 1 - A.length = 1 by omega]
 rfl
theorem search_up2 {V:List Rw} {h:Nat} {y u:Rw} (hs:Srt ltR V) (hy:V[h]? = some y) (hl:ltR u y = false):∀ z ∈ V.take (h + 1),ltR u z = false:=by
 intro z hz
 rw [take_one hy] at hz
 rcases List.mem_append.1 hz with hz | hz
 ·exact swoR.neg u y z hl ((half_in hs hy).1 z hz)
 ·simp at hz;subst hz;exact hl
theorem search_down2 {V:List Rw} {h:Nat} {y u:Rw} (hs:Srt ltR V) (hy:V[h]? = some y) (hl:ltR u y = true):∀ z ∈ V.drop h,ltR u z = true:=by
 intro z hz
 obtain ⟨hh,e⟩:=List.getElem?_eq_some_iff.1 hy
 rw [List.drop_eq_getElem_cons hh,e] at hz
 rcases List.mem_cons.1 hz with rfl | hz
 ·exact hl
 ·exact lt_of_lt_le swoR hl ((half_in hs hy).2 z hz)
theorem srt_at {l:List Rw} (h:Srt ltR l) {i j:Nat} {x y:Rw} (hij:i ≤ j) (hx:l[i]? = some x) (hy:l[j]? = some y):ltR y x = false:=by
 rcases Nat.lt_or_ge i j with hlt | hge
 ·obtain ⟨hi,ei⟩:=List.getElem?_eq_some_iff.1 hx
  obtain ⟨hj,ej⟩:=List.getElem?_eq_some_iff.1 hy
  have:=List.pairwise_iff_getElem.1 h i j hi hj hlt
  rw [ei,ej] at this
  exact this
 ·obtain rfl:i = j:=by omega
  rw [hx] at hy
  injection hy with hy
  subst hy
  exact swoR.irr x
def Window (a m b mid s0 r0:Nat):Prop:=(m ≤ mid ∧ s0 = a ∧ r0 = m) ∨ (mid < m ∧ s0 + b = mid + m ∧ r0 = mid)
def Lows (U V:List Rw) (a m p s0 s:Nat):Prop:=∀ c x y,s0 ≤ c → c < s → U[c - a]? = some x → V[p - c - m]? = some y → ltR y x = false
def Highs (U V:List Rw) (a m p r r0:Nat):Prop:=∀ c x y,r ≤ c → c < r0 → U[c - a]? = some x → V[p - c - m]? = some y → ltR y x = true
section
variable {U V:List Rw} {a m b mid p s0 r0:Nat}
theorem window_bounds (hw:Window a m b mid s0 r0) (hmid:mid = (a + b) / 2) (ham:a < m) (hmb:m < b) {s:Nat} (h1:s0 ≤ s) (h2:s ≤ r0):a ≤ s ∧ s ≤ m ∧ s ≤ mid ∧ m ≤ mid + m - s ∧ mid + m - s ≤ b ∧ mid ≤ mid + m - s:=by
 rcases hw with ⟨h,rfl,rfl⟩ | ⟨h,h3,rfl⟩ <;> omega
theorem lows_up (hU:Srt ltR U) (hV:Srt ltR V) (hw:Window a m b mid s0 r0) (hmid:mid = (a + b) / 2) (ham:a < m) (hmb:m < b) (hp:p + 1 = mid + m) {c:Nat} {x y:Rw} (hc0:s0 ≤ c) (hc:c < r0) (hx:U[c - a]? = some x) (hy:V[p - c - m]? = some y) (hl:ltR y x = false) :
  Lows U V a m p s0 (c + 1):=by
 intro d x' y' hd hdc hx' hy'
 have b1:=window_bounds hw hmid ham hmb hc0 (Nat.le_of_lt hc)
 have b2:=window_bounds hw hmid ham hmb hd (by omega)
 have h1:=srt_at hU (show d - a ≤ c - a by omega) hx' hx
 have h2:=srt_at hV (show p - c - m ≤ p - d - m by omega) hy hy'
 exact swoR.neg _ _ _ (swoR.neg _ _ _ h2 hl) h1
theorem highs_down (hU:Srt ltR U) (hV:Srt ltR V) (hw:Window a m b mid s0 r0) (hmid:mid = (a + b) / 2) (ham:a < m) (hmb:m < b) (hp:p + 1 = mid + m) {c:Nat} {x y:Rw} (hc0:s0 ≤ c) (hc:c < r0) (hx:U[c - a]? = some x) (hy:V[p - c - m]? = some y) (hl:ltR y x = true) :
  Highs U V a m p c r0:=by
 intro d x' y' hd hdr hx' hy'
 have b1:=window_bounds hw hmid ham hmb hc0 (Nat.le_of_lt hc)
 have h1:=srt_at hU (show c - a ≤ d - a by omega) hx hx'
 have h2:=srt_at hV (show p - d - m ≤ p - c - m by omega) hy' hy
 exact lt_of_lt_le swoR (lt_of_le_lt swoR h2 hl) h1
theorem parted (hU:Srt ltR U) (hV:Srt ltR V) (hUl:U.length = m - a) (hVl:V.length = b - m) (hw:Window a m b mid s0 r0) (hmid:mid = (a + b) / 2) (ham:a < m) (hmb:m < b) (hp:p + 1 = mid + m) {s:Nat} (h1:s0 ≤ s) (h2:s ≤ r0) (hlo:Lows U V a m p s0 s) (hhi:Highs U V a m p s r0) :
  (∀ x ∈ U.drop (s - a),∀ y ∈ V.take (mid + m - s - m),ltR y x = true) ∧ ∀ x ∈ U.take (s - a),∀ y ∈ V.drop (mid + m - s - m),ltR y x = false:=by
 have b0:=window_bounds hw hmid ham hmb h1 h2
 constructor
 ·intro x hx y hy
  obtain ⟨i,hi⟩:=List.mem_iff_getElem?.1 hx
  obtain ⟨j,hj⟩:=List.mem_iff_getElem?.1 hy
  rw [List.getElem?_drop] at hi
  have hj2:j < mid + m - s - m ∧ V[j]? = some y:=by
   rw [List.getElem?_take] at hj
   split at hj
   ·exact ⟨by omega,hj⟩
   ·cases hj
  have hiu:s - a + i < U.length:=(List.getElem?_eq_some_iff.1 hi).1
  by_cases hs:s < r0
  ·obtain ⟨x0,hx0⟩:∃ x0,U[s - a]? = some x0:=⟨_,List.getElem?_eq_getElem (by omega)⟩
   obtain ⟨y0,hy0⟩:∃ y0,V[p - s - m]? = some y0:=⟨_,List.getElem?_eq_getElem (by omega)⟩
   have h:=hhi s x0 y0 (Nat.le_refl _) hs hx0 hy0
   exact lt_of_lt_le swoR (lt_of_le_lt swoR (srt_at hV (show j ≤ p - s - m by omega) hj2.2 hy0) h) (srt_at hU (show s - a ≤ s - a + i by omega) hx0 hi)
  ·rcases hw with ⟨h,rfl,rfl⟩ | ⟨h,h3,rfl⟩ <;> omega
 ·intro x hx y hy
  obtain ⟨i,hi⟩:=List.mem_iff_getElem?.1 hx
  obtain ⟨j,hj⟩:=List.mem_iff_getElem?.1 hy
  rw [List.getElem?_drop] at hj
  have hi2:i < s - a ∧ U[i]? = some x:=by
   rw [List.getElem?_take] at hi
   split at hi
   ·exact ⟨by omega,hi⟩
   ·cases hi
  have hjv:mid + m - s - m + j < V.length:=(List.getElem?_eq_some_iff.1 hj).1
  by_cases hs:s0 < s
  ·have b1:=window_bounds hw hmid ham hmb (s:=s - 1) (by omega) (by omega)
   obtain ⟨x0,hx0⟩:∃ x0,U[s - 1 - a]? = some x0:=⟨_,List.getElem?_eq_getElem (by omega)⟩
   obtain ⟨y0,hy0⟩:∃ y0,V[p - (s - 1) - m]? = some y0:=⟨_,List.getElem?_eq_getElem (by omega)⟩
   have h:=hlo (s - 1) x0 y0 (by omega) (by omega) hx0 hy0
   exact swoR.neg _ _ _ (swoR.neg _ _ _ (srt_at hV (show p - (s - 1) - m ≤ mid + m - s - m + j by omega) hy0 hj) h) (srt_at hU (show i ≤ s - 1 - a by omega) hi2.2 hx0)
  ·rcases hw with ⟨h,rfl,rfl⟩ | ⟨h,h3,rfl⟩ <;> omega
end
def BlksOk (bs:Nat) (bl:List (List Rw)):Prop:=∀ x ∈ bl,x.length = bs ∧ Srt ltR x
theorem blks_len {bs:Nat}:∀ {bl:List (List Rw)},BlksOk bs bl → bl.flatten.length = bl.length * bs
 | [],_=>by simp
 | x :: bl,h=>by
  rw [List.flatten_cons,List.length_append,(h x (List.mem_cons_self ..)).1,blks_len fun y hy=>h y (List.mem_cons_of_mem _ hy),List.length_cons,Nat.succ_mul]
  omega
theorem BlksOk.snoc {bs:Nat} {bl:List (List Rw)} {x:List Rw} (h:BlksOk bs bl) (hx:x.length = bs ∧ Srt ltR x):BlksOk bs (bl ++ [x]):=fun y hy=>by
 rcases List.mem_append.1 hy with hy | hy
 ·exact h y hy
 ·simp at hy;subst hy;exact hx
end
end Go.Proofs.YtahpnackkmbmgaaGreatDoor.Vm
end
section
namespace Go.Proofs.YtahpnackkmbmgaaGreatDoor.Vm
open Go.RowKit
set_option maxRecDepth 100000
set_option maxHeartbeats 4000000
theorem nc (n:Nat):@NatCast.natCast Int instNatCastInt n = (n:Int):=rfl
theorem five {x:Rw} (h:x.length = 5):∃ x0 x1 x2 x3 x4,x = [x0,x1,x2,x3,x4]:=by
 match x,h with
 | [x0,x1,x2,x3,x4],_=>exact ⟨x0,x1,x2,x3,x4,rfl⟩
theorem swapL_mem {α:Type} (a b:Nat):∀ (k:Nat) (l:List α),∀ x ∈ swapL a b k l,x ∈ l
 | 0,l,x,h=>h
 | k + 1,l,x,h=>by
  unfold swapL at h
  split at h
  ·rename_i y z h1 h2
   rcases List.mem_or_eq_of_mem_set h with h | rfl
   ·rcases List.mem_or_eq_of_mem_set h with h | rfl
    ·exact swapL_mem a b k l x h
    ·exact swapL_mem a b k l _ (List.mem_of_getElem? h2)
   ·exact swapL_mem a b k l _ (List.mem_of_getElem? h1)
  ·exact swapL_mem a b k l x h
theorem swap_s (rows:List Rw) (h5:∀ x ∈ rows,x.length = 5) (a b k fid:Nat) (hN:rows.length ≤ 1048576) (hab:a + k ≤ b) (hb:b + k ≤ rows.length) :
  SpecS 127 [.own 0,vi .i64 a,vi .i64 b,vi .i64 k,.cl fid []] [.row false 85 rows] (fun res os=>res = [] ∧ os = [.row false 85 (swapL a b k rows)]):=by
 obtain ⟨za,hza⟩:∃ z:Int,z = (a:Int):=⟨_,rfl⟩
 obtain ⟨zb,hzb⟩:∃ z:Int,z = (b:Int):=⟨_,rfl⟩
 obtain ⟨zk,hzk⟩:∃ z:Int,z = (k:Int):=⟨_,rfl⟩
 rw [← hza,← hzb,← hzk]
 obtain ⟨S,hS⟩:∃ S,S = swapL a b k rows:=⟨_,rfl⟩
 rw [← hS]
 refine specs_of Tryz.func127 rfl (by kernel_rfl) (by kernel_rfl) (by kernel_rfl) rfl rfl (by rintro _ _ ⟨_,rfl⟩;rfl) fun qa qb qc qd qe qg qh qi qj qk ql qm qn qo qp qq qt qu qv qw qx qy qz va vc vd ve vf vg vh vj vk vl vm vn vo vp vq vr vt vu vv vw hA K hK=>?_
 cbv
 repeat ((with_reducible apply next_at hA);cbv)
 obtain ⟨e1,e2,e3,e4,e5,e6,e7,e8,e9⟩:=ar_at hA
 obtain ⟨r1,r2,r3,r4⟩:=row_at hA
 obtain ⟨m1,m2,m3,m4⟩:=map_at hA
 replace hza:za = (a:Int):=hza
 replace hzb:zb = (b:Int):=hzb
 replace hzk:zk = (k:Int):=hzk
 refine loop_at hA (γ:=Int × List (List D)) (fun x=>[(10,vi .i64 x.1),(29,.jk),(35,.jk)]) (fun x=>[(0,.row false 85 x.2)]) (fun x=>∃ j:Nat,x.1 = (j:Int) ∧ j ≤ k ∧ x.2 = swapL a b j rows) (fun x=>k - x.1.toNat) (0,rows) ?_ ?_ ?_
 ·exact ⟨0,rfl,Nat.zero_le _,rfl⟩
 ·cbv
 ·intro x hinv
  obtain ⟨z,L⟩:=x
  cbv
  repeat ((with_reducible apply next_at hA);cbv)
  obtain ⟨j,hz,hj,hL⟩:=hinv
  replace hz:z = (j:Int):=hz
  replace hza:za = (a:Int):=hza
  replace hzb:zb = (b:Int):=hzb
  replace hzk:zk = (k:Int):=hzk
  replace hL:L = swapL a b j rows:=hL
  have hlt:qi z zk = decide (j < k):=by rw [e7,hz,hzk];exact decide_eq_decide.2 (by omega)
  by_cases h9:j < k
  ·rw [decide_eq_true h9] at hlt
   have hLl:L.length = rows.length:=by rw [hL,swapL_len]
   obtain ⟨x,hx⟩:∃ x,L[a + j]? = some x:=⟨_,List.getElem?_eq_getElem (by omega)⟩
   obtain ⟨y,hy⟩:∃ y,L[b + j]? = some y:=⟨_,List.getElem?_eq_getElem (by omega)⟩
   have hx5:=h5 x (swapL_mem a b j rows x (by rw [← hL];exact List.mem_of_getElem? hx))
   have hy5:=h5 y (swapL_mem a b j rows y (by rw [← hL];exact List.mem_of_getElem? hy))
   obtain ⟨x0,x1,x2,x3,x4,rfl⟩:=five hx5
   obtain ⟨y0,y1,y2,y3,y4,rfl⟩:=five hy5
   have wa:qa .i64 (qb za z) = ((a + j:Nat):Int):=by rw [e1,e2,hza,hz,IntWalk.i64_in _ (by omega)];omega
   have wb:qa .i64 (qb zb z) = ((b + j:Nat):Int):=by rw [e1,e2,hzb,hz,IntWalk.i64_in _ (by omega)];omega
   have g1:va L (qa .i64 (qb zb z)) = some [y0,y1,y2,y3,y4]:=by rw [wb,r2,if_pos (by omega),Int.toNat_natCast];exact hy
   have g2:va L (qa .i64 (qb za z)) = some [x0,x1,x2,x3,x4]:=by rw [wa,r2,if_pos (by omega),Int.toNat_natCast];exact hx
   have g3:∀ v,va (ve L (qa .i64 (qb za z)) v) (qa .i64 (qb zb z)) = some [y0,y1,y2,y3,y4]:=fun v=>by rw [wb,wa,r2,if_pos (by omega),m4,Int.toNat_natCast,Int.toNat_natCast,List.getElem?_set_ne (by omega)];exact hy
   have hsw:swapL a b (j + 1) rows = (L.set (a + j) [y0,y1,y2,y3,y4]).set (b + j) [x0,x1,x2,x3,x4]:=by
    rw [swapL,← hL,hx,hy]
   rw [hlt]
   cbv
   repeat ((with_reducible apply next_at hA);cbv)
   repeat (first | (rw [g1];cbv) | (rw [g2];cbv) | (rw [g3];cbv) | (with_reducible apply next_at hA;cbv))
   replace hz:z = (j:Int):=hz
   have hz1:qa .i64 (qb z 1) = ((j + 1:Nat):Int):=by rw [e1,e2,hz,IntWalk.i64_in _ (by omega)];omega
   refine ⟨(qa .i64 (qb z 1),ve (ve L (qa .i64 (qb za z)) [y0,y1,y2,y3,y4]) (qa .i64 (qb zb z)) [x0,x1,x2,x3,x4]),⟨j + 1,hz1,h9,?_⟩,?_,?_⟩
   ·show ve (ve L _ _) _ _ = _
    rw [m4,m4,wa,wb,Int.toNat_natCast,Int.toNat_natCast,hsw]
   ·show k - (qa .i64 (qb z 1)).toNat < k - z.toNat
    rw [hz1,hz]
    omega
   ·cbv
  ·rw [decide_eq_false h9] at hlt
   rw [hlt]
   cbv
   repeat ((with_reducible apply next_at hA);cbv)
   have hjk:j = k:=by omega
   exact hK [] [.row false 85 L] ⟨rfl,by rw [hS,← hjk,← hL]⟩
theorem rotate_s (P X Y S:List Rw) (h5:∀ x ∈ P ++ (X ++ (Y ++ S)),x.length = 5) (fid:Nat) (hN:(P ++ (X ++ (Y ++ S))).length ≤ 1048576) (hx:0 < X.length) (hy:0 < Y.length) :
  SpecS 126 [.own 0,vi .i64 P.length,vi .i64 (P.length + X.length:Nat),vi .i64 (P.length + X.length + Y.length:Nat),.cl fid []] [.row false 85 (P ++ (X ++ (Y ++ S)))] (fun res os=>res = [] ∧ os = [.row false 85 (P ++ (Y ++ (X ++ S)))]):=by
 obtain ⟨za,hza⟩:∃ z:Int,z = (P.length:Int):=⟨_,rfl⟩
 obtain ⟨zm,hzm⟩:∃ z:Int,z = ((P.length + X.length:Nat):Int):=⟨_,rfl⟩
 obtain ⟨zb,hzb⟩:∃ z:Int,z = ((P.length + X.length + Y.length:Nat):Int):=⟨_,rfl⟩
 obtain ⟨L,hL⟩:∃ L,L = P ++ (X ++ (Y ++ S)):=⟨_,rfl⟩
 obtain ⟨M,hM⟩:∃ M,M = P ++ (Y ++ (X ++ S)):=⟨_,rfl⟩
 rw [← hza,← hzm,← hzb,← hM,← hL]
 rw [← hL] at h5 hN
 have hLl:L.length = P.length + X.length + Y.length + S.length:=by rw [hL];simp only [List.length_append];omega
 refine specs_of Tryz.func126 rfl (by kernel_rfl) (by kernel_rfl) (by kernel_rfl) rfl rfl (by rintro _ _ ⟨_,rfl⟩;rfl) fun qa qb qc qd qe qg qh qi qj qk ql qm qn qo qp qq qt qu qv qw qx qy qz va vc vd ve vf vg vh vj vk vl vm vn vo vp vq vr vt vu vv vw hA K hK=>?_
 cbv
 repeat ((with_reducible apply next_at hA);cbv)
 try simp (maxSteps:=4000000) only [nc] at *
 obtain ⟨e1,e2,e3,e4,e5,e6,e7,e8,e9⟩:=ar_at hA
 have wi:qa .i64 (qc zm za) = (X.length:Int):=by rw [e1,e3,hza,hzm,IntWalk.i64_in _ (by omega)];omega
 have wj:qa .i64 (qc zb zm) = (Y.length:Int):=by rw [e1,e3,hzb,hzm,IntWalk.i64_in _ (by omega)];omega
 refine loop_at hA (γ:=Int × Int × List (List D)) (fun x=>[(10,vi .i64 x.1),(11,vi .i64 x.2.1)]) (fun x=>[(0,.row false 85 x.2.2)])
  (fun x=>∃ P' X' Y' S':List Rw,0 < X'.length ∧ 0 < Y'.length ∧ P'.length + X'.length = P.length + X.length ∧ x.1 = (X'.length:Int) ∧ x.2.1 = (Y'.length:Int) ∧ P' ++ (Y' ++ (X' ++ S')) = M ∧ x.2.2 = P' ++ (X' ++ (Y' ++ S')) ∧ x.2.2.length = L.length ∧ ∀ r ∈ x.2.2,r.length = 5) (fun x=>x.1.toNat + x.2.1.toNat) (qa .i64 (qc zm za),qa .i64 (qc zb zm),L) ?_ ?_ ?_
 ·exact ⟨P,X,Y,S,hx,hy,rfl,wi,wj,hM.symm,hL,rfl,h5⟩
 ·cbv
 ·intro x hinv
  obtain ⟨zi,zj,Q⟩:=x
  cbv
  repeat ((with_reducible apply next_at hA);cbv)
  try simp (maxSteps:=4000000) only [nc] at *
  obtain ⟨P',X',Y',S',hx',hy',hm,hi,hj,he,hQ,hQl,hQ5⟩:=hinv
  replace hQ:Q = P' ++ (X' ++ (Y' ++ S')):=hQ
  replace hQl:Q.length = L.length:=hQl
  have hQl2:Q.length = P'.length + X'.length + Y'.length + S'.length:=by rw [hQ];simp only [List.length_append];omega
  have heq:qk zi zj = (zi == zj):=e9 _ _
  have hgt:qi zj zi = decide (Y'.length < X'.length):=by rw [e7,hi,hj];exact decide_eq_decide.2 (by omega)
  have wp:qa .i64 (qc zm zi) = (P'.length:Int):=by rw [e1,e3,hzm,hi,IntWalk.i64_in _ (by omega)];omega
  by_cases hij:X'.length = Y'.length
  ·have h1:qk zi zj = true:=by rw [heq,hi,hj,hij];exact beq_self_eq_true _
   have hsp:=swapL_split P' X' [] Y' S' hij
   rw [List.nil_append,List.nil_append,← hQ,he,List.length_nil,Nat.add_zero] at hsp
   have hsw:=swap_s Q hQ5 P'.length (P'.length + X'.length) X'.length fid (by omega) (Nat.le_refl _) (by omega)
   rw [hsp,← wp,hm,← hzm,← hi] at hsw
   rw [h1]
   cbv
   repeat ((with_reducible apply next_at hA);cbv)
   try simp (maxSteps:=4000000) only [nc] at *
   refine calls_at hA [0] hsw ⟨rfl,rfl,rfl,rfl,rfl,rfl,rfl⟩ ?_
   rintro res os2 ⟨rfl,rfl⟩
   cbv
   repeat ((with_reducible apply next_at hA);cbv)
   try simp (maxSteps:=4000000) only [nc] at *
   exact hK [] [.row false 85 M] ⟨rfl,rfl⟩
  ·have h1:qk zi zj = false:=by rw [heq,hi,hj,beq_eq_false_iff_ne];omega
   rw [h1]
   cbv
   repeat ((with_reducible apply next_at hA);cbv)
   try simp (maxSteps:=4000000) only [nc] at *
   by_cases hlt:Y'.length < X'.length
   ·rw [decide_eq_true hlt] at hgt
    obtain ⟨X1,X2,hX,hX1⟩:=split_at (l:=X') (n:=Y'.length) (by omega)
    have hX2:Y'.length + X2.length = X'.length:=by rw [hX,List.length_append];omega
    have hsp:=swapL_split P' X1 X2 Y' S' hX1
    have hQ2:P' ++ (X1 ++ (X2 ++ (Y' ++ S'))) = Q:=by rw [hQ,hX];simp only [List.append_assoc]
    rw [hQ2,hX1] at hsp
    have hsw:=swap_s Q hQ5 P'.length (P'.length + Y'.length + X2.length) Y'.length fid (by omega) (by omega) (by omega)
    rw [hsp,show P'.length + Y'.length + X2.length = P.length + X.length by omega,← wp,← hzm,← hj] at hsw
    rw [hgt]
    cbv
    repeat ((with_reducible apply next_at hA);cbv)
    try simp (maxSteps:=4000000) only [nc] at *
    refine calls_at hA [0] hsw ⟨rfl,rfl,rfl,rfl,rfl,rfl,rfl⟩ ?_
    rintro res os2 ⟨rfl,rfl⟩
    cbv
    repeat ((with_reducible apply next_at hA);cbv)
    try simp (maxSteps:=4000000) only [nc] at *
    have wz:qa .i64 (qc zi zj) = (X2.length:Int):=by rw [e1,e3,hi,hj,IntWalk.i64_in _ (by omega)];omega
    have hmu:(qa .i64 (qc zi zj)).toNat + zj.toNat < zi.toNat + zj.toNat:=by rw [wz,hi,hj];omega
    refine ⟨(qa .i64 (qc zi zj),zj,P' ++ (Y' ++ (X2 ++ (X1 ++ S')))),⟨P' ++ Y',X2,X1,S',by omega,by omega,by rw [List.length_append];omega,wz,by rw [hX1];exact hj,?_,by simp only [List.append_assoc],?_,?_⟩,hmu,?_⟩
    ·rw [← he,hX];simp only [List.append_assoc]
    ·show (P' ++ (Y' ++ (X2 ++ (X1 ++ S')))).length = L.length
     rw [← hQl,← hQ2];simp only [List.length_append];omega
    ·intro r hr
     refine hQ5 r ?_
     rw [← hQ2]
     simp only [List.mem_append] at hr ⊢
     grind
    ·cbv
   ·rw [decide_eq_false hlt] at hgt
    obtain ⟨Y1,Y2,hY,hY1⟩:=split_at (l:=Y') (n:=Y'.length - X'.length) (by omega)
    have hY2:Y2.length = X'.length:=by have:=congrArg List.length hY;rw [List.length_append] at this;omega
    have hsp:=swapL_split P' X' Y1 Y2 S' hY2.symm
    have hQ2:P' ++ (X' ++ (Y1 ++ (Y2 ++ S'))) = Q:=by rw [hQ,hY];simp only [List.append_assoc]
    rw [hQ2] at hsp
    have hsw:=swap_s Q hQ5 P'.length (P'.length + X'.length + Y1.length) X'.length fid (by omega) (by omega) (by omega)
    have wq:qa .i64 (qc (qa .i64 (qb zm zj)) zi) = ((P'.length + X'.length + Y1.length:Nat):Int):=by
     have h2:qa .i64 (qb zm zj) = ((P.length + X.length + Y'.length:Nat):Int):=by rw [e1,e2,hzm,hj,IntWalk.i64_in _ (by omega)];omega
     rw [h2,e1,e3,hi,IntWalk.i64_in _ (by omega)];omega
    rw [hsp,← wp,← wq,← hi] at hsw
    rw [hgt]
    cbv
    repeat ((with_reducible apply next_at hA);cbv)
    try simp (maxSteps:=4000000) only [nc] at *
    refine calls_at hA [0] hsw ⟨rfl,rfl,rfl,rfl,rfl,rfl,rfl⟩ ?_
    rintro res os2 ⟨rfl,rfl⟩
    cbv
    repeat ((with_reducible apply next_at hA);cbv)
    try simp (maxSteps:=4000000) only [nc] at *
    have wz:qa .i64 (qc zj zi) = (Y1.length:Int):=by rw [e1,e3,hi,hj,IntWalk.i64_in _ (by omega)];omega
    have hmu:zi.toNat + (qa .i64 (qc zj zi)).toNat < zi.toNat + zj.toNat:=by rw [wz,hi,hj];omega
    refine ⟨(zi,qa .i64 (qc zj zi),P' ++ (Y2 ++ (Y1 ++ (X' ++ S')))),⟨P',Y2,Y1,X' ++ S',by omega,by omega,by omega,by rw [hY2];exact hi,wz,?_,rfl,?_,?_⟩,hmu,?_⟩
    ·rw [← he,hY];simp only [List.append_assoc]
    ·show (P' ++ (Y2 ++ (Y1 ++ (X' ++ S')))).length = L.length
     rw [← hQl,← hQ2];simp only [List.length_append];omega
    ·intro r hr
     refine hQ5 r ?_
     rw [← hQ2]
     simp only [List.mem_append] at hr ⊢
     grind
    ·cbv
def cmpB (a b:List UInt8):Int:=if Op.bytesLess a b = true then -1 else if Op.bytesLess b a = true then 1 else 0
theorem cmpB_neg (a b:List UInt8):decide (cmpB a b < 0) = Op.bytesLess a b:=by
 unfold cmpB
 split
 ·simp_all
 ·split <;> simp_all
def CmpS (fid:Nat):Prop:=∀ (n m:ByteArray) (x1 x2 x3 x4 y1 y2 y3 y4:D),Spec fid [.ag [.sc (.string n),x1,x2,x3,x4],.ag [.sc (.string m),y1,y2,y3,y4]] [.one (.sc (.int .i64 (cmpB n.toList m.toList)))]
def Ok5 (x:Rw):Prop:=∃ n x1 x2 x3 x4,x = [.sc (.string n),x1,x2,x3,x4]
theorem Ok5.len {x:Rw} (h:Ok5 x):x.length = 5:=by obtain ⟨n,x1,x2,x3,x4,rfl⟩:=h;rfl
theorem sortS_snoc (l:List Rw) (x:Rw) {m:List Rw} (hs:Srt ltR m) (ht:Sta ltR m (sortS ltR l ++ [x])):m = sortS ltR (l ++ [x]):=sort_is swoR hs (ht.trans (Sta.append (sort_sta swoR l) (.refl _)))
theorem insert_s (fid:Nat) (hc:CmpS fid) (P D S:List Rw) (h5:∀ x ∈ P ++ (D ++ S),Ok5 x) (hN:(P ++ (D ++ S)).length ≤ 1048576) :
  SpecS 121 [.own 0,vi .i64 P.length,vi .i64 (P.length + D.length:Nat),.cl fid []] [.row false 85 (P ++ (D ++ S))] (fun res os=>res = [] ∧ os = [.row false 85 (P ++ (sortS ltR D ++ S))]):=by
 obtain ⟨za,hza⟩:∃ z:Int,z = (P.length:Int):=⟨_,rfl⟩
 obtain ⟨zb,hzb⟩:∃ z:Int,z = ((P.length + D.length:Nat):Int):=⟨_,rfl⟩
 obtain ⟨L,hL⟩:∃ L,L = P ++ (D ++ S):=⟨_,rfl⟩
 obtain ⟨M,hM⟩:∃ M,M = P ++ (sortS ltR D ++ S):=⟨_,rfl⟩
 rw [← hza,← hzb,← hM,← hL]
 rw [← hL] at h5 hN
 have hLl:L.length = P.length + D.length + S.length:=by rw [hL];simp only [List.length_append];omega
 refine specs_of Tryz.func121 rfl (by kernel_rfl) (by kernel_rfl) (by kernel_rfl) rfl rfl (by rintro _ _ ⟨_,rfl⟩;rfl) fun qa qb qc qd qe qg qh qi qj qk ql qm qn qo qp qq qt qu qv qw qx qy qz va vc vd ve vf vg vh vj vk vl vm vn vo vp vq vr vt vu vv vw hA K hK=>?_
 cbv
 repeat ((with_reducible apply next_at hA);cbv)
 try simp (maxSteps:=4000000) only [nc] at *
 obtain ⟨e1,e2,e3,e4,e5,e6,e7,e8,e9⟩:=ar_at hA
 obtain ⟨r1,r2,r3,r4⟩:=row_at hA
 obtain ⟨m1,m2,m3,m4⟩:=map_at hA
 have wi:qa .i64 (qb za 1) = ((P.length + 1 + 0:Nat):Int):=by rw [e1,e2,hza,IntWalk.i64_in _ (by omega)];omega
 refine loop_at hA (γ:=Int × List Rw) (fun x=>[(8,vi .i64 x.1)]) (fun x=>[(0,.row false 85 x.2)])
  (fun x=>∃ k:Nat,x.1 = ((P.length + 1 + k:Nat):Int) ∧ (k = 0 ∨ k + 1 ≤ D.length) ∧ x.2 = P ++ (sortS ltR (D.take (k + 1)) ++ (D.drop (k + 1) ++ S)) ∧ x.2.length = L.length ∧ ∀ r ∈ x.2,r ∈ L) (fun x=>L.length + 1 - x.1.toNat) (qa .i64 (qb za 1),L) ?_ ?_ ?_
 ·refine ⟨0,wi,.inl rfl,?_,rfl,fun r h=>h⟩
  have:sortS ltR (D.take 1) = D.take 1:=by
   cases D with
   | nil=>rfl
   | cons d D=>rfl
  show L = _
  rw [this,hL,← List.append_assoc (D.take 1),List.take_append_drop]
 ·cbv
 ·intro x hinv
  obtain ⟨z,Q⟩:=x
  cbv
  repeat ((with_reducible apply next_at hA);cbv)
  try simp (maxSteps:=4000000) only [nc] at *
  obtain ⟨k,hz,hk,hQ,hQl,hQm⟩:=hinv
  have hlt:qi z zb = decide (k + 1 < D.length):=by rw [e7,hz,hzb];exact decide_eq_decide.2 (by omega)
  by_cases h9:k + 1 < D.length
  ·rw [decide_eq_true h9] at hlt
   obtain ⟨x,hx⟩:∃ x,D[k + 1]? = some x:=⟨_,List.getElem?_eq_getElem h9⟩
   obtain ⟨hxi,hxe⟩:=List.getElem?_eq_some_iff.1 hx
   obtain ⟨D1,hD1⟩:∃ D1,D1 = D.take (k + 1):=⟨_,rfl⟩
   obtain ⟨D2,hD2⟩:∃ D2,D2 = D.drop (k + 1 + 1):=⟨_,rfl⟩
   have hdrop:D.drop (k + 1) = x :: D2:=by rw [hD2,List.drop_eq_getElem_cons hxi,hxe]
   have htake:D.take (k + 1 + 1) = D1 ++ [x]:=by rw [hD1];exact take_one hx
   rw [← hD1,hdrop] at hQ
   obtain ⟨E,hE⟩:∃ E,E = sortS ltR D1:=⟨_,rfl⟩
   rw [← hE] at hQ
   have hEl:E.length = k + 1:=by rw [hE,sortS_len,hD1,List.length_take];omega
   have hEs:Srt ltR E:=by rw [hE];exact sort_srt swoR D1
   have hxm:x ∈ L:=hQm x (by rw [hQ];simp)
   obtain ⟨nx,x1,x2,x3,x4,hxx⟩:=h5 x hxm
   rw [hlt]
   cbv
   repeat ((with_reducible apply next_at hA);cbv)
   try simp (maxSteps:=4000000) only [nc] at *
   refine loop_at hA (γ:=Int × List Rw) (fun x=>[(9,vi .i64 x.1)]) (fun x=>[(0,.row false 85 x.2)])
    (fun y=>∃ L1 L2:List Rw,y.1 = ((P.length + L1.length:Nat):Int) ∧ E = L1 ++ L2 ∧ (∀ r ∈ L2,ltR x r = true) ∧ y.2 = P ++ (L1 ++ (x :: (L2 ++ (D2 ++ S)))) ∧ y.2.length = L.length ∧ ∀ r ∈ y.2,r ∈ L) (fun y=>y.1.toNat) (z,Q) ?_ ?_ ?_
   ·exact ⟨E,[],by rw [hEl];show z = _;rw [hz];congr 1;omega,by simp,by simp,by rw [hQ];simp,hQl,hQm⟩
   ·cbv
   ·intro y hinv
    obtain ⟨zj,N⟩:=y
    cbv
    repeat ((with_reducible apply next_at hA);cbv)
    try simp (maxSteps:=4000000) only [nc] at *
    obtain ⟨L1,L2,hj,hEE,hL2,hNN,hNl,hNm⟩:=hinv
    have hLAST:=fun (h1:∀ y ∈ L1,ltR x y = false)=>put_one_right swoR (x:=x) (u1:=L1) (u2:=L2) (by rw [← hEE];exact hEs) h1 hL2
    have hNl2:N.length = P.length + L1.length + 1 + L2.length + D2.length + S.length:=by rw [hNN];simp only [List.length_append,List.length_cons];omega
    have hz1:qa .i64 (qb z 1) = ((P.length + 1 + (k + 1):Nat):Int):=by rw [e1,e2,hz,IntWalk.i64_in _ (by omega)];omega
    have hmz:L.length + 1 - (qa .i64 (qb z 1)).toNat < L.length + 1 - z.toNat:=by rw [hz1,hz];omega
    have hdone:(∀ y ∈ L1,ltR x y = false) → N = P ++ (sortS ltR (D.take (k + 1 + 1)) ++ (D.drop (k + 1 + 1) ++ S)):=fun h=>by
     obtain ⟨h1,h2⟩:=hLAST h
     have h3:L1 ++ x :: L2 = sortS ltR (D1 ++ [x]):=sortS_snoc D1 x h1 (by rw [← hE,hEE];exact h2)
     rw [htake,← hD2,← h3,hNN]
     simp
    rcases (show L1 = [] ∨ ∃ L y,L1 = L ++ [y] by simpa [List.concat_eq_append] using List.eq_nil_or_concat L1) with hnil | ⟨L0,y,hsn⟩
    ·have hlt2:qi za zj = false:=by rw [e7,hza,hj,hnil];simp
     rw [hlt2]
     cbv
     repeat ((with_reducible apply next_at hA);cbv)
     try simp (maxSteps:=4000000) only [nc] at *
     refine ⟨(qa .i64 (qb z 1),N),⟨k + 1,hz1,.inr h9,hdone (by rw [hnil];simp),hNl,hNm⟩,hmz,?_⟩
     cbv
    ·have hl1:L1.length = L0.length + 1:=by rw [hsn];simp
     have hlt2:qi za zj = true:=by rw [e7,hza,hj];exact decide_eq_true (by omega)
     have hym:y ∈ L:=hNm y (by rw [hNN,hsn];simp)
     obtain ⟨ny,y1,y2,y3,y4,hyy⟩:=h5 y hym
     have wj:qa .i64 (qc zj 1) = ((P.length + L0.length:Nat):Int):=by rw [e1,e3,hj,IntWalk.i64_in _ (by omega)];omega
     have hNP:N = (P ++ L0) ++ y :: x :: (L2 ++ (D2 ++ S)):=by rw [hNN,hsn];simp
     have hpl:(P ++ L0).length = P.length + L0.length:=List.length_append
     have gx:va N zj = some [.sc (.string nx),x1,x2,x3,x4]:=by
      rw [r2,if_pos (by omega),hj,Int.toNat_natCast,hNP,List.getElem?_append_right (by omega),hpl,show P.length + L1.length - (P.length + L0.length) = 1 by omega,← hxx]
      rfl
     have gy:va N (qa .i64 (qc zj 1)) = some [.sc (.string ny),y1,y2,y3,y4]:=by
      rw [wj,r2,if_pos (by omega),Int.toNat_natCast,hNP,List.getElem?_append_right (by omega),hpl,Nat.sub_self,← hyy]
      rfl
     have gy2:∀ v,va (ve N zj v) (qa .i64 (qc zj 1)) = some [.sc (.string ny),y1,y2,y3,y4]:=fun v=>by
      rw [← gy,r2,r2,m4,wj,hj,Int.toNat_natCast,Int.toNat_natCast,List.getElem?_set_ne (by omega)]
     have hcmp:=hc nx ny x1 x2 x3 x4 y1 y2 y3 y4
     have hneg:qi (cmpB nx.toList ny.toList) 0 = ltR x y:=by rw [e7,cmpB_neg,hxx,hyy];rfl
     generalize cmpB nx.toList ny.toList = cv at *
     rw [hlt2]
     cbv
     repeat ((with_reducible apply next_at hA);cbv)
     try simp (maxSteps:=4000000) only [nc] at *
     repeat (first | (rw [gx];cbv) | (rw [gy];cbv) | (with_reducible apply next_at hA;cbv))
     refine calm_at hA _ hcmp ?_
     cbv
     cases hb:ltR x y
     ·rw [hb] at hneg
      rw [hneg]
      cbv
      repeat ((with_reducible apply next_at hA);cbv)
      try simp (maxSteps:=4000000) only [nc] at *
      refine ⟨(qa .i64 (qb z 1),N),⟨k + 1,hz1,.inr h9,hdone ?_,hNl,hNm⟩,hmz,?_⟩
      ·rw [hsn]
       exact all_le (by rw [← hsn];exact (srt_append.1 (by rw [← hEE];exact hEs)).1) hb
      ·cbv
     ·rw [hb] at hneg
      rw [hneg]
      cbv
      repeat ((with_reducible apply next_at hA);cbv)
      try simp (maxSteps:=4000000) only [nc] at *
      repeat (first | (rw [gx];cbv) | (rw [gy];cbv) | (rw [gy2];cbv) | (with_reducible apply next_at hA;cbv))
      try simp only [nc] at *
      refine ⟨(qa .i64 (qc zj 1),ve (ve N zj [.sc (.string ny),y1,y2,y3,y4]) (qa .i64 (qc zj 1)) [.sc (.string nx),x1,x2,x3,x4]),⟨L0,y :: L2,wj,by rw [hEE,hsn];simp,?_,?_,?_,?_⟩,?_,?_⟩
      ·intro r hr
       rcases List.mem_cons.1 hr with rfl | hr
       ·exact hb
       ·exact hL2 r hr
      ·show ve (ve N zj _) _ _ = _
       rw [m4,m4,wj,hj,Int.toNat_natCast,Int.toNat_natCast,hNP,← hxx,← hyy,show P.length + L1.length = P.length + L0.length + 1 by omega,swap_adj _ _ _ _ hpl]
       simp
      ·show (ve (ve N zj _) _ _).length = _
       rw [m4,m4,List.length_set,List.length_set]
       exact hNl
      ·intro r hr
       have hr:r ∈ ve (ve N zj [.sc (.string ny),y1,y2,y3,y4]) (qa .i64 (qc zj 1)) [.sc (.string nx),x1,x2,x3,x4]:=hr
       rw [m4,m4,← hxx,← hyy] at hr
       rcases List.mem_or_eq_of_mem_set hr with hr | rfl
       ·rcases List.mem_or_eq_of_mem_set hr with hr | rfl
        ·exact hNm r hr
        ·exact hym
       ·exact hxm
      ·show (qa .i64 (qc zj 1)).toNat < zj.toNat
       rw [wj,hj]
       omega
      ·cbv
  ·rw [decide_eq_false h9] at hlt
   rw [hlt]
   cbv
   repeat ((with_reducible apply next_at hA);cbv)
   try simp (maxSteps:=4000000) only [nc] at *
   have e:Q = M:=by rw [hQ,hM,List.take_of_length_le (by omega),List.drop_eq_nil_of_le (by omega)];rfl
   rw [e]
   exact hK [] [.row false 85 M] ⟨rfl,rfl⟩
end Go.Proofs.YtahpnackkmbmgaaGreatDoor.Vm
end

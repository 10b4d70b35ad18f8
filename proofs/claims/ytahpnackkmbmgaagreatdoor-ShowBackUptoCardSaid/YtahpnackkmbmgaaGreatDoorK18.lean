/- Part 18 of the proof: LTok4, LTokens, VTok, VEye1, VEye2, VLike, VEye3, VEye4, VTk5, VSB2, VEye5, VEye6, VEye7, VEye8, VEye9, VEyS, VRead1, VZ1, VZ2, VZ3, VZ4, VZ5, VZ6, LRTok0, LRTok1, VZ7, VSB3, VMark, VAl5, VAlk2, VSB4. Conditions: none. -/
import Derived.Test.YtahpnackkmbmgaaGreatDoorK1
import Derived.Test.YtahpnackkmbmgaaGreatDoorK3
import Derived.Test.YtahpnackkmbmgaaGreatDoorK6
import Derived.Test.YtahpnackkmbmgaaGreatDoorK8
import Derived.Test.YtahpnackkmbmgaaGreatDoorK12
import Derived.Test.YtahpnackkmbmgaaGreatDoorK16
import Derived.Test.YtahpnackkmbmgaaGreatDoorK17
import Derived.IntWalk
set_option linter.all false
set_option linter.unusedVariables false
set_option linter.unusedSimpArgs false
section
namespace Go.Proofs.YtahpnackkmbmgaaGreatDoor
open Go.RowKit
section
theorem token_any (g len cap a:Nat) (A:Option Addr) (l:List Int) (w:World) (hl:l.length = len) (hcap:len ≤ cap) (hm:len ≤ 9223372036854775807) (hb:Byt l) (hs:SliceAt w .u8 A l) (hne:∀ b off,A = some ⟨b,off,none⟩ → l ≠ [] → b ≠ g)
  (hg:Scn w g A len cap a) (ha:a < len) (hbl:blankB (gb l a) = false) (h35:gb l a ≠ 35) :
  Calls Tryz.prog 55 #[.pointer (some ⟨g,0,none⟩)] w (TokLeft w g A len cap a l):=by
 obtain ⟨b,off,rfl,hlb,hc⟩:=hs.cells (by omega)
 cases hr:runsB (gb l a)
 ·by_cases hz:signS (l.drop a) = 0
  ·exact token_none g len cap a b off l w hl hcap hm hb hc hlb hg ha hbl h35 hr hz
  ·exact token_sign g len cap a b off l w hl hcap hm hb hc hlb hg ha hbl h35 hr hz
 ·exact token_run g len cap a b off l w hl hcap hm hb hc hlb (hne b off rfl (by rintro rfl;simp at hl;omega)) hg ha hr
def OwnT (w:World) (base:Nat) (v:Value) (ts:List Tok):Prop:=w.ownsRow base 47 4 v ts.length (ts.flatMap Tok.cells)
section
variable {w w':World} {base:Nat} {v:Value} {ts:List Tok}
theorem OwnT.kept {row:Option Nat} (h:OwnT w base v ts) (hg:w.grownBy w' row) (hne:v.ownBlock = none ∨ v.ownBlock ≠ row):OwnT w' base v ts:=World.ownsRow.kept h hg hne
theorem OwnT.nil (w:World) (base:Nat):OwnT w base (.slice none 0 0) []:=World.ownsRow_nil _ _ _ _
theorem OwnT.alloc (h:OwnT w base v ts) (o:Obj):OwnT (w.alloc o) base v ts:=World.ownsRow.alloc h o
theorem OwnT.one {t:Tok} (h:w'.ownsRow base 47 4 v (ts.length + 1) (ts.flatMap Tok.cells ++ t.cells)):OwnT w' base v (ts ++ [t]):=by
 unfold OwnT
 rw [List.length_append,List.flatMap_append]
 simpa using h
theorem OwnT.mono {base':Nat} (h:OwnT w base v ts) (hb:base' ≤ base):OwnT w base' v ts:=by
 refine ⟨h.1,?_⟩
 rcases h.2 with h2 | ⟨g,cap,cur,hv,hg,r⟩
 ·exact .inl h2
 ·exact .inr ⟨g,cap,cur,hv,by omega,r⟩
end
end
theorem tok_info:(Tryz.prog.info? 47).map (fun i=>(i.zero,i.size,i.bytes)) = some (some (.agg #[.int .u8 0,.string ⟨#[]⟩,.int .i64 0,.int .i64 0]),4,40):=by kernel_rfl
def TksTold (k:IntKind) (l:List Int) (w:World) (e:Ending) (w':World):Prop :=
 ∃ v,e = .returned (.tuple #[v,.int .i64 (scanS l 0 false []).2.1,.int k (scanS l 0 false []).2.2]) ∧ OwnT w' w.heap.size v (scanS l 0 false []).1 ∧ Below w.heap.size w w'
theorem tks_of {k:IntKind} {l:List Int} {w w':World} {e:Ending} {v:Value} {ts:List Tok} {p c:Int} (h:scanS l 0 false [] = (ts,p,c)) (he:e = .returned (.tuple #[v,.int .i64 p,.int k c])) (ho:OwnT w' w.heap.size v ts) (hb:Below w.heap.size w w'):TksTold k l w e w':=by
 unfold TksTold
 rw [h]
 exact ⟨v,he,ho,hb⟩
set_option maxRecDepth 100000 in
set_option maxHeartbeats 4000000 in
theorem Tokens_any (A:Option Addr) (len cap:Nat) (l:List Int) (w:World) (hl:l.length = len) (hcap:len ≤ cap) (hm:len ≤ 9223372036854775807) (hb:Byt l) (hs:SliceAt w .u8 A l) (hmax:len ≤ 65536) :
  Calls Tryz.prog 32 #[.slice A len cap] w (TksTold .u8 l w):=by
 have hne:∀ b off,A = some ⟨b,off,none⟩ → l ≠ [] → b ≠ w.heap.size:=by
  rintro b off rfl hn
  rcases hs with h | ⟨b',off',h,hlt,_⟩
  ·exact absurd h hn
  ·injection h with h
   injection h with h
   omega
 have h6':(len:Int) ≤ 65536:=by omega
 have h6'':¬ (65536:Int) < (len:Int):=by omega
 obtain ⟨i0,hi,hz0,hz1,hz2⟩:=info_parts tok_info
 have HL:=Lib.hid hl
 have HB:=Lib.hid hb
 have HS:=Lib.hid hs
 have HNE:=Lib.hid hne
 clear hl hb hs hne
 go_enter Tryz.func32,Tryz.ntmps32
 go_wp2_with fail
 have CB:=fun a wr hs hg ha=>Lib.hid (blanks_any w.heap.size len cap a A l wr HL.out hcap hm HB.out hs HNE.out hg ha)
 have CT:=fun a wr hs hg ha h1 h2=>Lib.hid (token_any w.heap.size len cap a A l wr HL.out hcap hm HB.out hs HNE.out hg ha h1 h2)
 go_loopg [6] len (fun n v wr=>∃ (k:Nat) (ts:List Tok),n = len - k ∧ k ≤ len ∧ ts.length ≤ k ∧ scanS l 0 false [] = scanS l k false ts ∧ Below w.heap.size w wr ∧ w.heap.size + 1 ≤ wr.heap.size ∧ Scn wr w.heap.size A len cap k ∧ OwnT wr (w.heap.size + 1) v ts)
 case atStart=>exact ⟨0,[],by omega,Nat.zero_le _,Nat.le_refl _,rfl,(Below.refl _ _).alloc (Nat.le_refl _) _,by simp,Blk.new _ _ _,OwnT.nil _ _⟩
 case round =>
  obtain ⟨k,ts,rfl,hk,htl,hE,hbel,hsz,hg,ho⟩:=hrel
  have HE:=Lib.hid hE
  have HW:=Lib.hid hbel
  have HO:=Lib.hid ho
  have CBB:=CB k wr (HS.out.below_all hbel) hg hk
  clear hE hbel hg ho CB
  go_wp2_with fail
  refine CBB.out.mono ?_
  rintro e w1 ⟨a',ok,rfl,h1,h2,h3,h4,h5,h6,h7⟩
  have hb1:Below w.heap.size w w1:=HW.out.grown h5 (by omega) (fun k hk=>by injection hk with hk;omega)
  have ho1:OwnT w1 (w.heap.size + 1) u6 ts:=HO.out.kept h5 (by
   right
   intro h
   have:=World.ownsRow.lt HO.out _ h
   omega)
  have HB1:=Lib.hid hb1
  have HO1:=Lib.hid ho1
  have H3:=Lib.hid h3
  have H4:=Lib.hid h4
  have H7:=Lib.hid h7
  have hsz1:w.heap.size + 1 ≤ w1.heap.size:=by omega
  obtain ⟨kc0,kc1,kf⟩:=h7.cells
  clear h3 h4 h5 h6 h7 CBB hb1 ho1 HO
  cases ok
  ·go_wp2_with fail
   go_quiet (fail)
   go_wp2_with fail
   refine bodyPost_ret (v:=.tuple #[.slice none 0 0,.int .i64 (a':Int),.int .u8 3]) (by simp [results,Tryz.results32,go_sem]) rfl ?_
   exact tks_of (HE.out.trans (H4.out (by trivial) ts)) rfl (OwnT.nil _ _) (below_drewN HB1.out _)
  ·by_cases hend:a' = len
   ·have e1:((a':Int) == (len:Int)) = true:=by rw [hend];exact beq_self_eq_true _
    have e2:((a' == len) = true):=by rw [hend];exact beq_self_eq_true _
    have hsc:scanS l 0 false [] = (ts ++ [⟨4,⟨#[]⟩,0,a'⟩],0,0):=by
     rw [HE.out,(H3.out (by trivial)).2 ts,scan_end (by rw [HL.out];omega),HL.out,hend]
    have HSC:=Lib.hid hsc
    have HEND:=Lib.hid hend
    clear hsc hend CT
    go_wp2_with (at_builtin;refine wpList_append_own _ rfl _ _ 39 rfl (w.heap.size + 1) 47 i0 _ 4 40 Tryz.underlying39 hi hz0 hz1 hz2 rfl (by decide) _ _ _ rfl (OwnT.alloc HO1.out _) ⟨w1.heap.size,0,none⟩ 1 1 (Tok.cells ⟨4,⟨#[]⟩,0,a'⟩) rfl rfl ?c1 ?c2 ?c3 ?c4 ?c5 ?_)
    case c1 =>
     intro j u hj
     match j,hj with
     | 0,hj=>simp [Tok.cells] at hj;subst hj;simp [Addr.add]
     | 1,hj=>simp [Tok.cells] at hj;subst hj;simp [Addr.add]
     | 2,hj=>simp [Tok.cells] at hj;subst hj;simp [Addr.add]
     | 3,hj=>simp [Tok.cells] at hj;subst hj;simp [Addr.add]
    case c2=>intro u hu;simp [Tok.cells] at hu;rcases hu with rfl | rfl | rfl | rfl <;> rfl
    case c3=>unfold maxLen;omega
    case c4=>omega
    case c5=>first | omega | (simp;omega)
    intro v' w2 hown' hgrow _
    have ho2:=Lib.hid ((OwnT.one hown').mono (Nat.le_succ _))
    have hb2:=Lib.hid ((HB1.out.alloc (by omega) _).grown hgrow (by first | omega | (simp;omega)) (fun k hk=>Nat.le_trans (Nat.le_succ _) (World.ownsRow.lt HO1.out k hk).1))
    clear hown' hgrow
    go_wp2_with fail
    refine bodyPost_ret (v:=.tuple #[_,.int .i64 0,.int .u8 0]) (by simp [results,Tryz.results32,go_sem];rfl) rfl ?_
    exact tks_of HSC.out rfl ho2.out hb2.out
   ·have e1:((a':Int) == (len:Int)) = false:=by rw [beq_eq_false_iff_ne];omega
    have e2:((a' == len) = false):=by rw [beq_eq_false_iff_ne];omega
    have hx:=(H3.out (by trivial)).1 (by omega)
    have CTT:=CT a' w1 (HS.out.below_all HB1.out) H7.out (by omega) hx.1 hx.2
    clear CT hx
    have HLT:=Lib.hid (show a' < len by omega)
    go_wp2_with fail
    refine CTT.out.mono ?_
    rintro e w2 ⟨⟨kd,tx,n,at_⟩,c,a2,rfl,q1,q2,q3,q4,q5⟩
    simp only [Tok.val]
    have hb2:Below w.heap.size w w2:=HB1.out.grown q4 (by omega) (fun k hk=>by injection hk with hk;omega)
    have ho2:OwnT w2 (w.heap.size + 1) u6 ts:=HO1.out.kept q4 (by
     right
     intro h
     have:=World.ownsRow.lt HO1.out _ h
     omega)
    have hsz2:w.heap.size + 1 ≤ w2.heap.size:=Nat.le_trans hsz1 q4.size
    have HB2:=Lib.hid hb2
    have HO2:=Lib.hid ho2
    have Q2:=Lib.hid q2
    have Q3:=Lib.hid q3
    have Q5:=Lib.hid (q5.alloc (.cells #[.int .u8 kd,.string tx,.int .i64 n,.int .i64 at_] 47))
    obtain ⟨kd0,kd1,_⟩:=q5.cells
    have hgl:w.heap.size < w2.heap.size:=by omega
    clear q2 q3 q4 q5 hb2 ho2 kc0 kc1 kf
    by_cases hc:c = 0
    ·subst hc
     have Q2':=Lib.hid (Q2.out rfl)
     go_wp2_with (at_builtin;refine wpList_append_own _ rfl _ _ 39 rfl (w.heap.size + 1) 47 i0 _ 4 40 Tryz.underlying39 hi hz0 hz1 hz2 rfl (by decide) _ _ _ rfl (OwnT.alloc (OwnT.alloc HO2.out _) _) ⟨w2.heap.size + 1,0,none⟩ 1 1 (Tok.cells ⟨kd,tx,n,at_⟩) rfl rfl ?c1 ?c2 ?c3 ?c4 ?c5 ?_)
     case c1 =>
      intro j u hj
      match j,hj with
      | 0,hj=>simp [Tok.cells] at hj;subst hj;simp
      | 1,hj=>simp [Tok.cells] at hj;subst hj;simp
      | 2,hj=>simp [Tok.cells] at hj;subst hj;simp
      | 3,hj=>simp [Tok.cells] at hj;subst hj;simp
     case c2=>intro u hu;simp [Tok.cells] at hu;rcases hu with rfl | rfl | rfl | rfl <;> rfl
     case c3=>unfold maxLen;omega
     case c4=>omega
     case c5=>first | omega | (simp;omega)
     intro v' w3 hown' hgrow _
     have ho3:=Lib.hid (OwnT.one hown')
     have hb3:=Lib.hid (((HB2.out.alloc (by omega) _).alloc (by first | omega | (simp;omega)) _).grown hgrow (by first | omega | (simp;omega)) (fun k hk=>Nat.le_trans (Nat.le_succ _) (World.ownsRow.lt HO2.out k hk).1))
     have hs3:=Lib.hid (show w.heap.size + 1 ≤ w3.heap.size by have:=hgrow.size;(try simp at this);omega)
     have hq3:Scn w3 w.heap.size A len cap a2:=Blk.grown (Blk.alloc Q5.out _) hgrow (by
      intro h
      have:=World.ownsRow.lt HO2.out _ h.symm
      omega)
     have HQ3:=Lib.hid hq3
     clear hown' hgrow hq3
     go_wp2_with fail
     go_roundg (len - a2)
     case measure=>have:=HLT.out;have:=Q2'.out.1;omega
     case rel=>exact ⟨a2,ts ++ [⟨kd,tx,n,at_⟩],rfl,q1,by (have:=Q2'.out.1;simp;omega),by rw [HE.out,(H3.out (by trivial)).2 ts,Q2'.out.2 ts],hb3.out,hs3.out,HQ3.out,ho3.out⟩
    ·have g0:(c != 0) = true:=bne_iff_ne.2 hc
     have Q3':=Lib.hid (Q3.out hc)
     go_wp2_with fail
     go_quiet (fail)
     go_wp2_with fail
     refine bodyPost_ret (v:=.tuple #[.slice none 0 0,.int .i64 (a2:Int),.int .u8 c]) (by simp [results,Tryz.results32,go_sem]) rfl ?_
     exact tks_of (HE.out.trans (((H3.out (by trivial)).2 ts).trans (Q3'.out ts))) rfl (OwnT.nil _ _) (below_drewN (HB2.out.alloc (by omega) _) _)
end Go.Proofs.YtahpnackkmbmgaaGreatDoor
end
section
namespace Go.Proofs.YtahpnackkmbmgaaGreatDoor.Vm
open Go.RowKit
def tkD (t:Tok):List D:=[.sc (.int .u8 t.kind),.sc (.string t.text),.sc (.int .i64 t.n),.sc (.int .i64 t.at_)]
def rTk (ts:List Tok):List (List D):=ts.map tkD
def numsU (l:List UInt8):List Int:=l.map fun c=>(c.toNat:Int)
theorem rTk_len (ts:List Tok):(rTk ts).length = ts.length:=by unfold rTk;rw [List.length_map]
theorem rTk_get {ts:List Tok} {k:Nat} {t:Tok} (h:ts[k]? = some t):(rTk ts)[k]? = some (tkD t):=by unfold rTk;rw [List.getElem?_map,h];rfl
theorem gb_nums (l:List UInt8) (i:Nat) (c:UInt8) (h:l[i]? = some c):gb (numsU l) i = (c.toNat:Int):=by
 unfold gb numsU
 rw [List.getD_eq_getElem?_getD,List.getElem?_map,h]
 rfl
theorem byt_nums (l:List UInt8):Byt (numsU l):=fun x hx=>by
 unfold numsU at hx
 obtain ⟨c,_,rfl⟩:=List.mem_map.1 hx
 have:=c.toNat_lt
 omega
theorem tks_at_ds {I:Nat → Nat → Prop} {w:World}:∀ ts:List Tok,AtDs I w (ts.flatMap Tok.cells) (rTk ts).flatten
 | []=>.nil I w
 | t :: ts=>.cons (.sc _ rfl) (.cons (.sc _ rfl) (.cons (.sc _ rfl) (.cons (.sc _ rfl) (tks_at_ds ts))))
theorem toks_spec {f:Nat} {k:IntKind} (l:List UInt8) (hf:fnOk Tryz.prog f = true) (h:∀ (A:Option Addr) (cap:Nat) (w:World),l.length ≤ cap → SliceAt w .u8 A (numsU l) → Calls Tryz.prog f #[.slice A l.length cap] w (TksTold k (numsU l) w)) :
  Spec f [.one (.sl 1 (rU l))] [.one (.sl 4 (rTk (scanS (numsU l) 0 false []).1)),.one (.sc (.int .i64 (scanS (numsU l) 0 false []).2.1)),.one (.sc (.int k (scanS (numsU l) 0 false []).2.2))]:=by
 refine ⟨hf,fun I w args hI hat=>?_⟩
 match args,hat with
 | [v1],⟨h1,_⟩ =>
  have h1:AtD I w v1 (.sl 1 (rU l)):=h1
  obtain ⟨A,cap,rfl,hcap,hrows⟩:=h1.slice
  rw [rU_len] at hcap
  rw [rU_len]
  have hs:SliceAt w .u8 A (numsU l):=by
   rcases hrows with h0 | ⟨b,off,us,rfl,hup,hr,hlen,hc,hd⟩
   ·have:l = []:=by
     have:=congrArg List.length h0
     rw [rU_len] at this
     exact List.eq_nil_of_length_eq_zero this
    subst this
    exact .inl rfl
   ·by_cases hl:l = []
    ·subst hl;exact .inl rfl
    have hus:=row_cells l hd
    obtain ⟨hh,_,hib⟩:=hup
    refine .inr ⟨b,off,rfl,hI.1 _ _ hib,fun i hi=>?_⟩
    have hi':i < l.length:=by unfold numsU at hi;rw [List.length_map] at hi;exact hi
    have hg:l[i]? = some l[i]:=List.getElem?_eq_getElem hi'
    rw [hc i (.int .u8 (l[i].toNat:Int)) (by rw [hus,List.getElem?_map,hg];rfl),gb_nums l i _ hg]
  refine (h A cap w hcap hs).mono ?_
  rintro e w' ⟨v,rfl,ho,hb⟩
  refine ⟨_,rfl,?_,hb⟩
  refine ⟨[v,.int .i64 (scanS (numsU l) 0 false []).2.1,.int k (scanS (numsU l) 0 false []).2.2],rfl,?_,⟨.sc _ rfl,⟨.sc _ rfl,trivial⟩⟩⟩
  show AtD (nxt I w w') w' v (.sl 4 (rTk (scanS (numsU l) 0 false []).1))
  generalize (scanS (numsU l) 0 false []).1 = ts at *
  rcases ho.2 with ⟨e0,hz⟩ | ⟨g,cap',cur,e0,hbase,hg,hnc,hcm,hcs,htake⟩
  ·have:ts = []:=List.eq_nil_of_length_eq_zero hz
   subst this
   rw [e0]
   exact .nil _ _ _
  ·rw [e0,← rTk_len]
   refine .sl g 0 cap' 4 (rTk ts) (ts.flatMap Tok.cells) (by rw [rTk_len];exact hnc) ⟨_,Nat.le_refl _,.inr ⟨hbase,(Array.getElem?_eq_some_iff.1 hg).1⟩⟩ (fun r hr=>?_) ?_ (fun i u hu=>?_) ((tks_at_ds ts).2)
   ·unfold rTk at hr
    obtain ⟨t,_,rfl⟩:=List.mem_map.1 hr
    rfl
   ·rw [rTk_len];exact ho.1
   ·rw [Nat.zero_add,cell_get hg]
    have h5:(cur.toList.take (ts.length * 4))[i]? = some u:=by rw [htake];exact hu
    rw [List.getElem?_take] at h5
    split at h5
    ·simpa using h5
    ·cases h5
theorem Tokens_s (l:List UInt8) (hl:l.length ≤ 65536):Spec 32 [.one (.sl 1 (rU l))] [.one (.sl 4 (rTk (scanS (numsU l) 0 false []).1)),.one (.sc (.int .i64 (scanS (numsU l) 0 false []).2.1)),.one (.sc (.int .u8 (scanS (numsU l) 0 false []).2.2))] :=
 toks_spec l (by kernel_rfl) fun A cap w hcap hs=>Tokens_any A l.length cap (numsU l) w (by unfold numsU;rw [List.length_map]) hcap (by omega) (byt_nums l) hs hl
end Go.Proofs.YtahpnackkmbmgaaGreatDoor.Vm
end
section
namespace Go.Proofs.YtahpnackkmbmgaaGreatDoor.Vm
open Go.RowKit
set_option maxRecDepth 100000
set_option maxHeartbeats 4000000
def rdB (T:List (List D)) (a:Int):List O:=[.box [.d (.sl 4 T),.d (.sc (.int .i64 a))]]
def eyB (e p:Int) (T:List (List D)) (a:Int):List O:=[.box [.ptr 1 0,.d (.sc (.int .u8 e)),.d (.sc (.int .i64 p))],.box [.d (.sl 4 T),.d (.sc (.int .i64 a))]]
def isG (t:Tok) (s:ByteArray):Bool:=(t.kind == 3) && (t.text.toList == s.toList)
theorem Clone_s (T:List (List D)) (hne:T ≠ []) (hl:T.length ≤ 1048576):Spec 37 [.one (.sl 4 T)] [.one (.sl 4 T)]:=by
 refine spec_of Tryz.func37 rfl (by kernel_rfl) (by kernel_rfl) (by kernel_rfl) fun qa qb qc qd qe qg qh qi qj qk ql qm qo qp qq qt qu qv qw qx qy qz va vc vd ve vf vg vh vj vk vl vm vn vo vp vq vr vt vu vv vw vx hA=>?_
 obtain ⟨r1,r2,r3,r4⟩:=row_at hA
 have q:va T ≠ 0:=by
  rw [r1]
  cases T with
  | nil=>exact absurd rfl hne
  | cons x T=>simp;omega
 have q4:ve [] T = T:=by rw [r4];rfl
 iterate 2 (try cbv;repeat ((first | with_reducible apply next_at hA | rw [q4] | refine nz_at hA q ?_ | refine new_at hA true ?_ | (refine room_at hA (by simp only [List.length_nil];omega) ?_));cbv))
 try simp (maxSteps:=4000000) only [nc] at *
theorem NewReader_s (T:List (List D)) (hne:T ≠ []) (hl:T.length ≤ 1048576):SpecO 16 [.d (.sl 4 T)] [] (fun res os=>res = [.ptr 0 0] ∧ os = rdB T 0):=by
 have h1:=Clone_s T hne hl
 unfold rdB
 refine speco_of Tryz.func16 rfl (by kernel_rfl) (by kernel_rfl) (by kernel_rfl) fun qa qb qc qd qe qg qh qi qj qk ql qm qo qp qq qt qu qv qw qx qy qz va vc vd ve vf vg vh vj vk vl vm vn vo vp vq vr vt vu vv vw vx hA=>?_
 iterate 2 (try cbv;repeat ((first | with_reducible apply next_at hA | refine call_at hA _ h1 rfl ?_ | refine calm_at hA _ h1 ?_);cbv))
 try simp (maxSteps:=4000000) only [nc] at *
 exact keep_is hA [0] (res':=[.ptr 0 0]) ⟨rfl,rfl,rfl,rfl,rfl,rfl,rfl,rfl⟩ ⟨rfl,rfl⟩
theorem Peek_s (ts:List Tok) (t:Tok) (a:Nat) (ht:ts[a]? = some t) (hl:ts.length ≤ 1048576):SpecS 19 [.ptr 0 0] (rdB (rTk ts) (a:Int)) (fun res os=>res = [.ag (ofD (tkD t))] ∧ os = rdB (rTk ts) (a:Int)):=by
 have hg:=rTk_get ht
 have hlt:=(List.getElem?_eq_some_iff.1 ht).1
 have hln:=rTk_len ts
 unfold tkD at hg ⊢
 unfold rdB
 generalize rTk ts = T at *
 generalize t.kind = tk at *
 generalize t.text = tx at *
 generalize t.n = tn at *
 generalize t.at_ = ta at *
 obtain ⟨z,hz⟩:∃ z,z = (a:Int):=⟨_,rfl⟩
 rw [← hz]
 refine specr_of Tryz.func19 rfl (by kernel_rfl) (by kernel_rfl) (by kernel_rfl) rfl fun qa qb qc qd qe qg qh qi qj qk ql qm qo qp qq qt qu qv qw qx qy qz va vc vd ve vf vg vh vj vk vl vm vn vo vp vq vr vt vu vv vw vx hA K hK=>?_
 obtain ⟨e1,e2,e3,e4,e5,e6,e7,e8,e9⟩:=ar_at hA
 obtain ⟨r1,r2,r3,r4⟩:=row_at hA
 have q1:qk (va T) 0 = false:=by rw [e9,r1,hln];simp;intro h;rw [h] at hlt;simp at hlt
 have q2:qi z (va T) = true:=by rw [e7,r1,hln,hz];exact decide_eq_true (by omega)
 have g:vc T z = some [.sc (.int .u8 tk),.sc (.string tx),.sc (.int .i64 tn),.sc (.int .i64 ta)]:=by rw [r2,hz,if_pos (by omega),show ((a:Int)).toNat = a by omega];exact hg
 iterate 2 (try cbv;repeat ((first | with_reducible apply next_at hA | rw [q1] | rw [q2] | rw [g]);cbv))
 try simp (maxSteps:=4000000) only [nc] at *
 exact hK _ rfl
theorem Is_s (ts:List Tok) (t:Tok) (a:Nat) (ht:ts[a]? = some t) (hl:ts.length ≤ 1048576) (s:ByteArray):SpecS 104 [.ptr 0 0,vs s] (rdB (rTk ts) (a:Int)) (fun res os=>res = [vb (isG t s)] ∧ os = rdB (rTk ts) (a:Int)):=by
 have hp:=Peek_s ts t a ht hl
 unfold isG
 unfold tkD rdB at hp
 unfold rdB
 generalize rTk ts = T at *
 generalize t.kind = tk at *
 generalize t.text = tx at *
 generalize t.n = tn at *
 generalize t.at_ = ta at *
 obtain ⟨z,hz⟩:∃ z,z = (a:Int):=⟨_,rfl⟩
 rw [← hz] at hp ⊢
 obtain ⟨b,hb⟩:∃ b,b = (tx.toList == s.toList):=⟨_,rfl⟩
 obtain ⟨c,hc⟩:∃ c,c = (tk == 3):=⟨_,rfl⟩
 rw [← hb,← hc]
 refine specr_of Tryz.func104 rfl (by kernel_rfl) (by kernel_rfl) (by kernel_rfl) rfl fun qa qb qc qd qe qg qh qi qj qk ql qm qo qp qq qt qu qv qw qx qy qz va vc vd ve vf vg vh vj vk vl vm vn vo vp vq vr vt vu vv vw vx hA K hK=>?_
 obtain ⟨e1,e2,e3,e4,e5,e6,e7,e8,e9⟩:=ar_at hA
 obtain ⟨s1,s2,s3,s4,s5,s6,s7⟩:=str_at hA
 have q1:qk tk 3 = c:=by rw [e9,hc]
 have q2:qm (qp tx) (qp s) = b:=by rw [s1,s3,s3,hb]
 cases c
 ·iterate 2 (try cbv;repeat ((first | with_reducible apply next_at hA | rw [q1] | (refine rd_at hA [0] hp ⟨rfl,rfl,rfl,rfl,rfl,rfl,rfl⟩ rfl ?_;rintro _ rfl));cbv))
  try simp (maxSteps:=4000000) only [nc] at *
  exact hK _ rfl
 ·iterate 2 (try cbv;repeat ((first | with_reducible apply next_at hA | rw [q1] | rw [q2] | (refine rd_at hA [0] hp ⟨rfl,rfl,rfl,rfl,rfl,rfl,rfl⟩ rfl ?_;rintro _ rfl));cbv))
  try simp (maxSteps:=4000000) only [nc] at *
  exact hK _ rfl
theorem Take_s (ts:List Tok) (t:Tok) (a:Nat) (ht:ts[a]? = some t) (hl:ts.length ≤ 1048576):SpecO 105 [.ptr 0 0] (rdB (rTk ts) (a:Int)) (fun res os=>res = [.ag (ofD (tkD t))] ∧ os = rdB (rTk ts) ((a + 1:Nat):Int)):=by
 have hp:=Peek_s ts t a ht hl
 have hlt:=(List.getElem?_eq_some_iff.1 ht).1
 have hln:=rTk_len ts
 unfold tkD rdB at hp
 unfold tkD rdB
 generalize rTk ts = T at *
 generalize t.kind = tk at *
 generalize t.text = tx at *
 generalize t.n = tn at *
 generalize t.at_ = ta at *
 obtain ⟨z,hz⟩:∃ z,z = (a:Int):=⟨_,rfl⟩
 obtain ⟨y,hy⟩:∃ y,y = ((a + 1:Nat):Int):=⟨_,rfl⟩
 rw [← hz] at hp ⊢
 rw [← hy]
 refine speco_of Tryz.func105 rfl (by kernel_rfl) (by kernel_rfl) (by kernel_rfl) fun qa qb qc qd qe qg qh qi qj qk ql qm qo qp qq qt qu qv qw qx qy qz va vc vd ve vf vg vh vj vk vl vm vn vo vp vq vr vt vu vv vw vx hA=>?_
 obtain ⟨e1,e2,e3,e4,e5,e6,e7,e8,e9⟩:=ar_at hA
 obtain ⟨r1,r2,r3,r4⟩:=row_at hA
 have q2:qi z (va T) = true:=by rw [e7,r1,hln,hz];exact decide_eq_true (by omega)
 have q3:qa .i64 (qb z 1) = y:=by rw [e1,e2,hz,hy,IntWalk.i64_in _ (by omega)];omega
 iterate 2 (try cbv;repeat ((first | with_reducible apply next_at hA | rw [q2] | rw [q3] | (refine rd_at hA [0] hp ⟨rfl,rfl,rfl,rfl,rfl,rfl,rfl⟩ rfl ?_;rintro _ rfl));cbv))
 try simp (maxSteps:=4000000) only [nc] at *
 exact keep_is hA [0] ⟨rfl,rfl,rfl,rfl,rfl,rfl,rfl,rfl⟩ ⟨rfl,rfl⟩
theorem Skip_s (ts:List Tok) (t:Tok) (a:Nat) (ht:ts[a]? = some t) (hl:ts.length ≤ 1048576) (s:ByteArray):SpecO 88 [.ptr 0 0,vs s] (rdB (rTk ts) (a:Int)) (fun res os=>res = [vb (isG t s)] ∧ os = rdB (rTk ts) ((if isG t s = true then a + 1 else a:Nat):Int)):=by
 have hp:=Is_s ts t a ht hl s
 have hq:=Take_s ts t a ht hl
 unfold tkD rdB at hq
 unfold rdB at hp
 unfold rdB
 generalize rTk ts = T at *
 generalize t.kind = tk at *
 generalize t.text = tx at *
 generalize t.n = tn at *
 generalize t.at_ = ta at *
 generalize isG t s = b at *
 cases b
 ·rw [if_neg (by decide)]
  generalize ((a:Nat):Int) = z at *
  refine speco_of Tryz.func88 rfl (by kernel_rfl) (by kernel_rfl) (by kernel_rfl) fun qa qb qc qd qe qg qh qi qj qk ql qm qo qp qq qt qu qv qw qx qy qz va vc vd ve vf vg vh vj vk vl vm vn vo vp vq vr vt vu vv vw vx hA=>?_
  iterate 2 (try cbv;repeat ((first | with_reducible apply next_at hA | (refine rd_at hA [0] hp ⟨rfl,rfl,rfl,rfl,rfl,rfl,rfl⟩ rfl ?_;rintro _ rfl));cbv))
  try simp (maxSteps:=4000000) only [nc] at *
  exact keep_is hA [0] ⟨rfl,rfl,rfl,rfl,rfl,rfl,rfl,rfl⟩ ⟨rfl,rfl⟩
 ·rw [if_pos rfl]
  generalize ((a:Nat):Int) = z at *
  generalize ((a + 1:Nat):Int) = y at *
  refine speco_of Tryz.func88 rfl (by kernel_rfl) (by kernel_rfl) (by kernel_rfl) fun qa qb qc qd qe qg qh qi qj qk ql qm qo qp qq qt qu qv qw qx qy qz va vc vd ve vf vg vh vj vk vl vm vn vo vp vq vr vt vu vv vw vx hA=>?_
  iterate 2 (try cbv;repeat ((first | with_reducible apply next_at hA | (refine rd_at hA [0] hp ⟨rfl,rfl,rfl,rfl,rfl,rfl,rfl⟩ rfl ?_;rintro _ rfl) | (refine callo_at hA [0] hq ⟨rfl,rfl,rfl,rfl,rfl,rfl,rfl⟩ ?_;rintro _ _ ⟨rfl,rfl⟩));cbv))
  try simp (maxSteps:=4000000) only [nc] at *
  exact keep_is hA [0] ⟨rfl,rfl,rfl,rfl,rfl,rfl,rfl,rfl⟩ ⟨rfl,rfl⟩
theorem fail_ok (ts:List Tok) (t:Tok) (a:Nat) (ht:ts[a]? = some t) (hl:ts.length ≤ 1048576) (c:Int):SpecO 62 [.ptr 0 0,vi .u8 c] (eyB 0 0 (rTk ts) (a:Int)) (fun res os=>res = [] ∧ os = eyB c t.at_ (rTk ts) (a:Int)):=by
 have hp:=Peek_s ts t a ht hl
 unfold tkD rdB at hp
 unfold eyB
 generalize rTk ts = T at *
 generalize t.kind = tk at *
 generalize t.text = tx at *
 generalize t.n = tn at *
 generalize t.at_ = ta at *
 generalize ((a:Nat):Int) = z at *
 refine speco_of Tryz.func62 rfl (by kernel_rfl) (by kernel_rfl) (by kernel_rfl) fun qa qb qc qd qe qg qh qi qj qk ql qm qo qp qq qt qu qv qw qx qy qz va vc vd ve vf vg vh vj vk vl vm vn vo vp vq vr vt vu vv vw vx hA=>?_
 obtain ⟨e1,e2,e3,e4,e5,e6,e7,e8,e9⟩:=ar_at hA
 have q1:qk 0 0 = true:=by rw [e9];rfl
 iterate 2 (try cbv;repeat ((first | with_reducible apply next_at hA | rw [q1] | (refine rd_at hA [1] hp ⟨rfl,rfl,rfl,rfl,rfl,rfl,rfl⟩ rfl ?_;rintro _ rfl));cbv))
 try simp (maxSteps:=4000000) only [nc] at *
 exact keep_is hA [0,1] ⟨rfl,rfl,rfl,rfl,rfl,rfl,rfl,rfl⟩ ⟨rfl,rfl⟩
theorem fail_err (T:List (List D)) (e p z c:Int) (he:e ≠ 0):SpecO 62 [.ptr 0 0,vi .u8 c] (eyB e p T z) (fun res os=>res = [] ∧ os = eyB e p T z):=by
 unfold eyB
 refine speco_of Tryz.func62 rfl (by kernel_rfl) (by kernel_rfl) (by kernel_rfl) fun qa qb qc qd qe qg qh qi qj qk ql qm qo qp qq qt qu qv qw qx qy qz va vc vd ve vf vg vh vj vk vl vm vn vo vp vq vr vt vu vv vw vx hA=>?_
 obtain ⟨e1,e2,e3,e4,e5,e6,e7,e8,e9⟩:=ar_at hA
 have q1:qk e 0 = false:=by rw [e9];exact decide_eq_false he
 iterate 2 (try cbv;repeat ((first | with_reducible apply next_at hA | rw [q1]);cbv))
 try simp (maxSteps:=4000000) only [nc] at *
 exact keep_is hA [0,1] ⟨rfl,rfl,rfl,rfl,rfl,rfl,rfl,rfl⟩ ⟨rfl,rfl⟩
theorem skip_ok (ts:List Tok) (t:Tok) (a:Nat) (ht:ts[a]? = some t) (hl:ts.length ≤ 1048576) (s:ByteArray):SpecO 64 [.ptr 0 0,vs s] (eyB 0 0 (rTk ts) (a:Int)) (fun res os=>res = [vb (isG t s)] ∧ os = eyB 0 0 (rTk ts) ((if isG t s = true then a + 1 else a:Nat):Int)):=by
 have hq:=Skip_s ts t a ht hl s
 unfold rdB at hq
 unfold eyB
 generalize rTk ts = T at *
 generalize isG t s = b at *
 generalize ((if b = true then a + 1 else a:Nat):Int) = y at *
 generalize ((a:Nat):Int) = z at *
 refine speco_of Tryz.func64 rfl (by kernel_rfl) (by kernel_rfl) (by kernel_rfl) fun qa qb qc qd qe qg qh qi qj qk ql qm qo qp qq qt qu qv qw qx qy qz va vc vd ve vf vg vh vj vk vl vm vn vo vp vq vr vt vu vv vw vx hA=>?_
 obtain ⟨e1,e2,e3,e4,e5,e6,e7,e8,e9⟩:=ar_at hA
 have q1:qk 0 0 = true:=by rw [e9];rfl
 cases b
 ·iterate 2 (try cbv;repeat ((first | with_reducible apply next_at hA | rw [q1] | (refine callo_at hA [1] hq ⟨rfl,rfl,rfl,rfl,rfl,rfl,rfl⟩ ?_;rintro _ _ ⟨rfl,rfl⟩));cbv))
  try simp (maxSteps:=4000000) only [nc] at *
  exact keep_is hA [0,1] ⟨rfl,rfl,rfl,rfl,rfl,rfl,rfl,rfl⟩ ⟨rfl,rfl⟩
 ·iterate 2 (try cbv;repeat ((first | with_reducible apply next_at hA | rw [q1] | (refine callo_at hA [1] hq ⟨rfl,rfl,rfl,rfl,rfl,rfl,rfl⟩ ?_;rintro _ _ ⟨rfl,rfl⟩));cbv))
  try simp (maxSteps:=4000000) only [nc] at *
  exact keep_is hA [0,1] ⟨rfl,rfl,rfl,rfl,rfl,rfl,rfl,rfl⟩ ⟨rfl,rfl⟩
theorem skip_err (T:List (List D)) (e p z:Int) (he:e ≠ 0) (s:ByteArray):SpecO 64 [.ptr 0 0,vs s] (eyB e p T z) (fun res os=>res = [vb false] ∧ os = eyB e p T z):=by
 unfold eyB
 refine speco_of Tryz.func64 rfl (by kernel_rfl) (by kernel_rfl) (by kernel_rfl) fun qa qb qc qd qe qg qh qi qj qk ql qm qo qp qq qt qu qv qw qx qy qz va vc vd ve vf vg vh vj vk vl vm vn vo vp vq vr vt vu vv vw vx hA=>?_
 obtain ⟨e1,e2,e3,e4,e5,e6,e7,e8,e9⟩:=ar_at hA
 have q1:qk e 0 = false:=by rw [e9];exact decide_eq_false he
 iterate 2 (try cbv;repeat ((first | with_reducible apply next_at hA | rw [q1]);cbv))
 try simp (maxSteps:=4000000) only [nc] at *
 exact keep_is hA [0,1] ⟨rfl,rfl,rfl,rfl,rfl,rfl,rfl,rfl⟩ ⟨rfl,rfl⟩
theorem want_ok (ts:List Tok) (t:Tok) (a:Nat) (ht:ts[a]? = some t) (hl:ts.length ≤ 1048576) (s:ByteArray):SpecO 84 [.ptr 0 0,vs s] (eyB 0 0 (rTk ts) (a:Int)) (fun res os=>res = [] ∧ os = if isG t s = true then eyB 0 0 (rTk ts) ((a + 1:Nat):Int) else eyB 5 t.at_ (rTk ts) (a:Int)):=by
 have hq:=Skip_s ts t a ht hl s
 have hf:=fail_ok ts t a ht hl 5
 unfold rdB at hq
 unfold eyB at hf ⊢
 generalize rTk ts = T at *
 generalize isG t s = b at *
 generalize t.at_ = ta at *
 cases b
 ·rw [if_neg (by decide)] at hq
  rw [if_neg (by decide)]
  generalize ((a:Nat):Int) = z at *
  refine speco_of Tryz.func84 rfl (by kernel_rfl) (by kernel_rfl) (by kernel_rfl) fun qa qb qc qd qe qg qh qi qj qk ql qm qo qp qq qt qu qv qw qx qy qz va vc vd ve vf vg vh vj vk vl vm vn vo vp vq vr vt vu vv vw vx hA=>?_
  obtain ⟨e1,e2,e3,e4,e5,e6,e7,e8,e9⟩:=ar_at hA
  have q1:qk 0 0 = true:=by rw [e9];rfl
  iterate 2 (try cbv;repeat ((first | with_reducible apply next_at hA | rw [q1] | (refine callo_at hA [1] hq ⟨rfl,rfl,rfl,rfl,rfl,rfl,rfl⟩ ?_;rintro _ _ ⟨rfl,rfl⟩) | (refine callo_at hA [0,1] hf ⟨rfl,rfl,rfl,rfl,rfl,rfl,rfl⟩ ?_;rintro _ _ ⟨rfl,rfl⟩));cbv))
  try simp (maxSteps:=4000000) only [nc] at *
  exact keep_is hA [0,1] ⟨rfl,rfl,rfl,rfl,rfl,rfl,rfl,rfl⟩ ⟨rfl,rfl⟩
 ·rw [if_pos rfl] at hq
  rw [if_pos rfl]
  generalize ((a + 1:Nat):Int) = y at *
  generalize ((a:Nat):Int) = z at *
  refine speco_of Tryz.func84 rfl (by kernel_rfl) (by kernel_rfl) (by kernel_rfl) fun qa qb qc qd qe qg qh qi qj qk ql qm qo qp qq qt qu qv qw qx qy qz va vc vd ve vf vg vh vj vk vl vm vn vo vp vq vr vt vu vv vw vx hA=>?_
  obtain ⟨e1,e2,e3,e4,e5,e6,e7,e8,e9⟩:=ar_at hA
  have q1:qk 0 0 = true:=by rw [e9];rfl
  iterate 2 (try cbv;repeat ((first | with_reducible apply next_at hA | rw [q1] | (refine callo_at hA [1] hq ⟨rfl,rfl,rfl,rfl,rfl,rfl,rfl⟩ ?_;rintro _ _ ⟨rfl,rfl⟩));cbv))
  try simp (maxSteps:=4000000) only [nc] at *
  exact keep_is hA [0,1] ⟨rfl,rfl,rfl,rfl,rfl,rfl,rfl,rfl⟩ ⟨rfl,rfl⟩
theorem want_err (T:List (List D)) (e p z:Int) (he:e ≠ 0) (s:ByteArray):SpecO 84 [.ptr 0 0,vs s] (eyB e p T z) (fun res os=>res = [] ∧ os = eyB e p T z):=by
 unfold eyB
 refine speco_of Tryz.func84 rfl (by kernel_rfl) (by kernel_rfl) (by kernel_rfl) fun qa qb qc qd qe qg qh qi qj qk ql qm qo qp qq qt qu qv qw qx qy qz va vc vd ve vf vg vh vj vk vl vm vn vo vp vq vr vt vu vv vw vx hA=>?_
 obtain ⟨e1,e2,e3,e4,e5,e6,e7,e8,e9⟩:=ar_at hA
 have q1:qk e 0 = false:=by rw [e9];exact decide_eq_false he
 iterate 2 (try cbv;repeat ((first | with_reducible apply next_at hA | rw [q1]);cbv))
 try simp (maxSteps:=4000000) only [nc] at *
 exact keep_is hA [0,1] ⟨rfl,rfl,rfl,rfl,rfl,rfl,rfl,rfl⟩ ⟨rfl,rfl⟩
theorem SpecO.reread {f:Nat} {vs:List V} {os:List O} {Q Q2:List V → List O → Prop} (h:SpecO f vs os Q) (hQ:∀ res os2,Q res os2 → ∃ res2,Q2 res2 os2 ∧ ∀ (I:Nat → Nat → Prop) (w:World) (g:Nat → Value) (us:List Value),AtVs I w g us res → AtVs I w g us res2):SpecO f vs os Q2 :=
 ⟨h.1,fun I w g args hr=>(h.2 I w g args hr).mono fun e w' ⟨us,res,os2,I',g',e1,e2,e3⟩=>by
  obtain ⟨res2,q,hv⟩:=hQ res os2 e2
  exact ⟨us,res2,os2,I',g',e1,q,⟨e3.im,e3.lt,e3.fr,e3.kp,e3.lo,e3.st,e3.obj,e3.dis,e3.out,hv _ _ _ _ e3.tmp,e3.dfr⟩⟩⟩
theorem nil4 {I:Nat → Nat → Prop} {w:World} {g:Nat → Value} {us:List Value} {a b c:V} {z:Nat} (h:AtVs I w g us [.ag [a,b,c,.em]]):AtVs I w g us [.ag [a,b,c,.d (.sl z [])]] :=
 h.reset (i:=0) fun v hv=>by
  have h4:=h.2 0 v _ hv rfl
  obtain ⟨ks,rfl,h5⟩:=h4.unag
  exact atV_ag (h5.reset (i:=3) fun v hv=>by rw [(h5.2 3 v _ hv rfl).unem];exact .d (.nil _ _ _))
theorem SpecO.nil4 {f:Nat} {vs:List V} {os os':List O} {a b c:V} {z:Nat} (h:SpecO f vs os (fun res os2=>res = [.ag [a,b,c,.em]] ∧ os2 = os')):SpecO f vs os (fun res os2=>res = [.ag [a,b,c,.d (.sl z [])]] ∧ os2 = os') :=
 h.reread fun res os2 ⟨h1,h2⟩=>⟨_,⟨rfl,h2⟩,fun I w g us hv=>Vm.nil4 (h1 ▸ hv)⟩
theorem zero_c:ofD (cT zeroTy) = [.d (.sc (.int .u8 0)),.d (.sc (.string ⟨#[]⟩)),.d (.sc (.int .i64 0)),.d (.sl 4 [])]:=by
 unfold zeroTy
 rw [cT,rT]
 rfl
theorem whole_err (T:List (List D)) (e p z L:Int) (he:e ≠ 0):SpecO 38 [.ptr 0 0,vi .i64 L] (eyB e p T z) (fun res os=>res = [.ag (ofD (cT zeroTy))] ∧ os = eyB e p T z):=by
 unfold eyB
 rw [zero_c]
 refine SpecO.nil4 ?_
 refine speco_of Tryz.func38 rfl (by kernel_rfl) (by kernel_rfl) (by kernel_rfl) fun qa qb qc qd qe qg qh qi qj qk ql qm qo qp qq qt qu qv qw qx qy qz va vc vd ve vf vg vh vj vk vl vm vn vo vp vq vr vt vu vv vw vx hA=>?_
 obtain ⟨e1,e2,e3,e4,e5,e6,e7,e8,e9⟩:=ar_at hA
 have q1:qk e 0 = false:=by rw [e9];exact decide_eq_false he
 iterate 2 (try cbv;repeat ((first | with_reducible apply next_at hA | rw [q1]);cbv))
 try simp (maxSteps:=4000000) only [nc] at *
 exact keep_is hA [0,1] ⟨rfl,rfl,rfl,rfl,rfl,rfl,rfl,rfl⟩ ⟨rfl,rfl⟩
theorem whole_deep (ts:List Tok) (t:Tok) (a:Nat) (ht:ts[a]? = some t) (hl:ts.length ≤ 1048576) (L:Int) (hL:200 < L):SpecO 38 [.ptr 0 0,vi .i64 L] (eyB 0 0 (rTk ts) (a:Int)) (fun res os=>res = [.ag (ofD (cT zeroTy))] ∧ os = eyB 6 t.at_ (rTk ts) (a:Int)):=by
 have hf:=fail_ok ts t a ht hl 6
 unfold eyB at *
 rw [zero_c]
 refine SpecO.nil4 ?_
 generalize rTk ts = T at *
 generalize t.at_ = ta at *
 generalize ((a:Nat):Int) = z at *
 refine speco_of Tryz.func38 rfl (by kernel_rfl) (by kernel_rfl) (by kernel_rfl) fun qa qb qc qd qe qg qh qi qj qk ql qm qo qp qq qt qu qv qw qx qy qz va vc vd ve vf vg vh vj vk vl vm vn vo vp vq vr vt vu vv vw vx hA=>?_
 obtain ⟨e1,e2,e3,e4,e5,e6,e7,e8,e9⟩:=ar_at hA
 have q1:qk 0 0 = true:=by rw [e9];rfl
 have q2:qi 200 L = true:=by rw [e7];exact decide_eq_true hL
 iterate 2 (try cbv;repeat ((first | with_reducible apply next_at hA | rw [q1] | rw [q2] | (refine callo_at hA [0,1] hf ⟨rfl,rfl,rfl,rfl,rfl,rfl,rfl⟩ ?_;rintro _ _ ⟨rfl,rfl⟩));cbv))
 try simp (maxSteps:=4000000) only [nc] at *
 exact keep_is hA [0,1] ⟨rfl,rfl,rfl,rfl,rfl,rfl,rfl,rfl⟩ ⟨rfl,rfl⟩
end Go.Proofs.YtahpnackkmbmgaaGreatDoor.Vm
end
section
namespace Go.Proofs.YtahpnackkmbmgaaGreatDoor.Vm
open Go.RowKit
inductive LikeD:D → D → Prop
 | refl (d:D):LikeD d d
 | nil (n m:Nat):LikeD (.sl n []) (.sl m [])
 | sl (sz:Nat) (rows rows':List (List D)) (hl:rows.length = rows'.length) (hr:∀ r ∈ rows',r.length = sz) (hf:rows.flatten.length = rows'.flatten.length)
   (h:∀ (i:Nat) (d d':D),rows.flatten[i]? = some d → rows'.flatten[i]? = some d' → LikeD d d'):LikeD (.sl sz rows) (.sl sz rows')
theorem LikeD.at {d d':D} (h:LikeD d d'):∀ {I:Nat → Nat → Prop} {w:World} {v:Value},AtD I w v d → AtD I w v d':=by
 induction h with
 | refl d=>exact fun h=>h
 | nil n m=>exact fun h=>h.empty m
 | sl sz rows rows' hl hr hf _ ih =>
  intro I w v h
  generalize hd:D.sl sz rows = d at h
  cases h with
  | sc v hv=>cases hd
  | nil A cap sz2 =>
   injection hd with e1 e2
   subst e2
   have:rows' = []:=List.eq_nil_of_length_eq_zero (by rw [← hl];rfl)
   subst this
   exact .nil _ _ _
  | sl b off cap sz2 rows2 us hcap hI hr2 hlen hc hdd =>
   injection hd with e1 e2
   subst e1
   subst e2
   rw [hl]
   refine .sl b off cap sz rows' us (by omega) (by rw [← hl];exact hI) hr (by rw [← hl];exact hlen) hc fun i u d' hu hd'=>?_
   have hlt:i < rows.flatten.length:=by rw [hf];exact (List.getElem?_eq_some_iff.1 hd').1
   exact ih i _ d' (List.getElem?_eq_getElem hlt) hd' (hdd i u _ hu (List.getElem?_eq_getElem hlt))
def LikeDs (ds ds':List D):Prop:=ds.length = ds'.length ∧ ∀ (i:Nat) (d d':D),ds[i]? = some d → ds'[i]? = some d' → LikeD d d'
theorem LikeDs.at {ds ds':List D} (h:LikeDs ds ds') {I:Nat → Nat → Prop} {w:World} {us:List Value} (hu:AtDs I w us ds):AtDs I w us ds' :=
 ⟨hu.1.trans h.1,fun i u d' hui hd'=>by
  have hlt:i < ds.length:=by rw [h.1];exact (List.getElem?_eq_some_iff.1 hd').1
  exact (h.2 i _ d' (List.getElem?_eq_getElem hlt) hd').at (hu.2 i u _ hui (List.getElem?_eq_getElem hlt))⟩
inductive LikeR:R → R → Prop
 | one {d d':D} (h:LikeD d d'):LikeR (.one d) (.one d')
 | ag {ds ds':List D} (h:LikeDs ds ds'):LikeR (.ag ds) (.ag ds')
theorem LikeR.at {r r':R} (h:LikeR r r') {I:Nat → Nat → Prop} {w:World} {v:Value} (hv:AtR I w v r):AtR I w v r':=by
 cases h with
 | one h=>exact h.at hv
 | ag h=>obtain ⟨us,e,h2⟩:=hv;exact ⟨us,e,h.at h2⟩
def LikeRs:List R → List R → Prop
 | [],[]=>True
 | r :: rs,r' :: rs'=>LikeR r r' ∧ LikeRs rs rs'
 | _,_=>False
theorem LikeRs.at:∀ {rs rs':List R},LikeRs rs rs' → ∀ {I:Nat → Nat → Prop} {w:World} {us:List Value},AtRs I w us rs → AtRs I w us rs'
 | [],[],_,_,_,us,h=>h
 | r :: rs,r' :: rs',h,I,w,us,hu=>by
  match us,hu with
  | u :: us,hu=>exact ⟨h.1.at hu.1,LikeRs.at h.2 hu.2⟩
theorem Spec.like {f:Nat} {rs rs' q:List R} (h:Spec f rs q) (hl:LikeRs rs' rs):Spec f rs' q:=⟨h.1,fun I w args hI hat=>h.2 I w args hI (hl.at hat)⟩
theorem LikeRs.res:∀ {q q':List R},LikeRs q q' → ∀ {I:Nat → Nat → Prop} {w:World} {v:Value},AtRes I w v q → AtRes I w v q'
 | [],[],_,_,_,v,h=>h
 | [r],[r'],h,_,_,v,hv=>h.1.at hv
 | r :: s :: rs,r' :: s' :: rs',h,_,_,v,hv=>by
  obtain ⟨us,e,h2⟩:=hv
  exact ⟨us,e,h.at h2⟩
theorem Spec.likeq {f:Nat} {rs q q':List R} (h:Spec f rs q) (hl:LikeRs q q'):Spec f rs q':=h.mono fun I w v hv=>hl.res hv
theorem LikeR.same (r:R):LikeR r r:=by
 cases r with
 | one x=>exact .one (.refl _)
 | ag xs=>exact .ag ⟨rfl,fun i d d' h h'=>by rw [h] at h';cases h';exact .refl _⟩
end Go.Proofs.YtahpnackkmbmgaaGreatDoor.Vm
end
section
namespace Go.Proofs.YtahpnackkmbmgaaGreatDoor.Vm
open Go.RowKit
set_option maxRecDepth 100000
set_option maxHeartbeats 4000000
abbrev noS:ByteArray:=⟨#[]⟩
abbrev lfT (op:Int):Ty:=.mk op noS 0 []
def lf0 (op:Int):List D:=[.sc (.int .u8 op),.sc (.string noS),.sc (.int .i64 0),.sl 0 []]
theorem lf0_like (op:Int):LikeR (.ag (lf0 op)) (.ag [.sc (.int .u8 op),.sc (.string noS),.sc (.int .i64 0),.sl 4 []]) :=
 .ag ⟨rfl,fun i d d' h h'=>by
  match i,h,h' with
  | 0,h,h'=>cases h;cases h';exact .refl _
  | 1,h,h'=>cases h;cases h';exact .refl _
  | 2,h,h'=>cases h;cases h';exact .refl _
  | 3,h,h'=>cases h;cases h';exact .nil _ _⟩
theorem Int_s:Spec 81 [] [.ag (cT (lfT 1))]:=by
 rw [cT,rT]
 refine Spec.likeq (q:=[.ag (lf0 1)]) ?_ ⟨lf0_like 1,trivial⟩
 unfold lf0
 refine spec_of Tryz.func81 rfl (by kernel_rfl) (by kernel_rfl) (by kernel_rfl) fun qa qb qc qd qe qg qh qi qj qk ql qm qo qp qq qt qu qv qw qx qy qz va vc vd ve vf vg vh vj vk vl vm vn vo vp vq vr vt vu vv vw vx hA=>?_
 iterate 2 (try cbv;repeat ((first | with_reducible apply next_at hA);cbv))
 try simp (maxSteps:=4000000) only [nc] at *
theorem Bool_s:Spec 82 [] [.ag (cT (lfT 2))]:=by
 rw [cT,rT]
 refine Spec.likeq (q:=[.ag (lf0 2)]) ?_ ⟨lf0_like 2,trivial⟩
 unfold lf0
 refine spec_of Tryz.func82 rfl (by kernel_rfl) (by kernel_rfl) (by kernel_rfl) fun qa qb qc qd qe qg qh qi qj qk ql qm qo qp qq qt qu qv qw qx qy qz va vc vd ve vf vg vh vj vk vl vm vn vo vp vq vr vt vu vv vw vx hA=>?_
 iterate 2 (try cbv;repeat ((first | with_reducible apply next_at hA);cbv))
 try simp (maxSteps:=4000000) only [nc] at *
theorem Dyn_s:Spec 83 [] [.ag (cT (lfT 3))]:=by
 rw [cT,rT]
 refine Spec.likeq (q:=[.ag (lf0 3)]) ?_ ⟨lf0_like 3,trivial⟩
 unfold lf0
 refine spec_of Tryz.func83 rfl (by kernel_rfl) (by kernel_rfl) (by kernel_rfl) fun qa qb qc qd qe qg qh qi qj qk ql qm qo qp qq qt qu qv qw qx qy qz va vc vd ve vf vg vh vj vk vl vm vn vo vp vq vr vt vu vv vw vx hA=>?_
 iterate 2 (try cbv;repeat ((first | with_reducible apply next_at hA);cbv))
 try simp (maxSteps:=4000000) only [nc] at *
theorem Rec_s (t:Ty) (h:t.parts.length ≤ 1048576):Spec 86 [.ag (cT t)] [.ag (cT (.mk 5 noS 0 [t]))]:=by
 have hc:=copied_s t h
 rw [show cT (.mk 5 noS 0 [t]) = [.sc (.int .u8 5),.sc (.string noS),.sc (.int .i64 0),.sl 4 [cT t]] by rw [cT,rT,rT]]
 obtain ⟨a0,a1,a2,a3,ha⟩:=cT_four t
 rw [ha] at hc ⊢
 refine spec_of Tryz.func86 rfl (by kernel_rfl) (by kernel_rfl) (by kernel_rfl) fun qa qb qc qd qe qg qh qi qj qk ql qm qo qp qq qt qu qv qw qx qy qz va vc vd ve vf vg vh vj vk vl vm vn vo vp vq vr vt vu vv vw vx hA=>?_
 iterate 2 (try cbv;repeat ((first | with_reducible apply next_at hA | refine call_at hA _ hc rfl ?_ | refine calm_at hA _ hc ?_ | refine lit_at hA true ?_);cbv))
 try simp (maxSteps:=4000000) only [nc] at *
theorem Vnt_s (t:Ty) (h:t.parts.length ≤ 1048576):Spec 87 [.ag (cT t)] [.ag (cT (.mk 6 noS 0 [t]))]:=by
 have hc:=copied_s t h
 rw [show cT (.mk 6 noS 0 [t]) = [.sc (.int .u8 6),.sc (.string noS),.sc (.int .i64 0),.sl 4 [cT t]] by rw [cT,rT,rT]]
 obtain ⟨a0,a1,a2,a3,ha⟩:=cT_four t
 rw [ha] at hc ⊢
 refine spec_of Tryz.func87 rfl (by kernel_rfl) (by kernel_rfl) (by kernel_rfl) fun qa qb qc qd qe qg qh qi qj qk ql qm qo qp qq qt qu qv qw qx qy qz va vc vd ve vf vg vh vj vk vl vm vn vo vp vq vr vt vu vv vw vx hA=>?_
 iterate 2 (try cbv;repeat ((first | with_reducible apply next_at hA | refine call_at hA _ hc rfl ?_ | refine calm_at hA _ hc ?_ | refine lit_at hA true ?_);cbv))
 try simp (maxSteps:=4000000) only [nc] at *
theorem Fun_s (t u:Ty) (h:t.parts.length ≤ 1048576) (hu:u.parts.length ≤ 1048576):Spec 65 [.ag (cT t),.ag (cT u)] [.ag (cT (.mk 4 noS 0 [t,u]))]:=by
 have hc:=copied_s t h
 have hc2:=copied_s u hu
 rw [show cT (.mk 4 noS 0 [t,u]) = [.sc (.int .u8 4),.sc (.string noS),.sc (.int .i64 0),.sl 4 [cT t,cT u]] by rw [cT,rT,rT,rT]]
 obtain ⟨a0,a1,a2,a3,ha⟩:=cT_four t
 obtain ⟨b0,b1,b2,b3,hb⟩:=cT_four u
 rw [ha] at hc ⊢
 rw [hb] at hc2 ⊢
 refine spec_of Tryz.func65 rfl (by kernel_rfl) (by kernel_rfl) (by kernel_rfl) fun qa qb qc qd qe qg qh qi qj qk ql qm qo qp qq qt qu qv qw qx qy qz va vc vd ve vf vg vh vj vk vl vm vn vo vp vq vr vt vu vv vw vx hA=>?_
 iterate 2 (try cbv;repeat ((first | with_reducible apply next_at hA | refine call_at hA _ hc rfl ?_ | refine calm_at hA _ hc ?_ | refine call_at hA _ hc2 rfl ?_ | refine calm_at hA _ hc2 ?_ | refine lit_at hA true ?_);cbv))
 try simp (maxSteps:=4000000) only [nc] at *
theorem Join_s (fs:List (ByteArray × Ty)) (tl:Ty) (hn:fs.length ≤ 1048576) (htl:tl.parts.length ≤ 1048576) (hf:∀ f ∈ fs,f.2.parts.length ≤ 1048576):Spec 75 [.one (.sl 5 (rF fs)),.ag (cT tl)] [.ag (cT (rowS fs tl))]:=by
 have hct:=copied_s tl htl
 have hj:=joinD_is tl fs
 have hcf:∀ r ∈ rF fs,∃ nm c0 c1 c2 c3,r = [nm,c0,c1,c2,c3] ∧ Spec 89 [.ag [c0,c1,c2,c3]] [.ag [c0,c1,c2,c3]]:=fun r hr=>by
  obtain ⟨f,hf0,rfl⟩:=List.mem_map.1 hr
  have h3:=copied_s f.2 (hf f hf0)
  obtain ⟨c0,c1,c2,c3,hcc⟩:=cT_four f.2
  rw [hcc] at h3
  exact ⟨_,c0,c1,c2,c3,by show D.sc _ :: cT f.2 = _;rw [hcc],h3⟩
 obtain ⟨q0,q1,q2,q3,hq⟩:=cT_four tl
 rw [hq] at hct hj ⊢
 have hJ:=join_s (rF fs) q0 q1 q2 q3 (by rw [rF_len];omega) hct hcf
 rw [hj] at hJ
 exact hJ
abbrev PE:=Nat × Int
def tk0:Tok:=⟨4,noS,0,0⟩
def tkA (ts:List Tok) (a:Nat):Tok:=(ts[a]?).getD tk0
def skB (ts:List Tok) (s:ByteArray) (p:PE):Bool:=(p.2 == 0) && isG (tkA ts p.1) s
def skP (ts:List Tok) (s:ByteArray) (p:PE):PE:=if skB ts s p = true then (p.1 + 1,0) else p
def wantP (ts:List Tok) (s:ByteArray) (p:PE):PE:=if p.2 ≠ 0 then p else if isG (tkA ts p.1) s = true then (p.1 + 1,0) else (p.1,5)
def failP (c:Int) (p:PE):PE:=if p.2 ≠ 0 then p else (p.1,c)
abbrev gInt:ByteArray:=⟨#[73,110,116]⟩
abbrev gBool:ByteArray:=⟨#[66,111,111,108]⟩
abbrev gDyn:ByteArray:=⟨#[63]⟩
abbrev gOpen:ByteArray:=⟨#[40]⟩
abbrev gShut:ByteArray:=⟨#[41]⟩
abbrev gRec:ByteArray:=⟨#[123]⟩
abbrev gRecE:ByteArray:=⟨#[125]⟩
abbrev gVnt:ByteArray:=⟨#[60]⟩
abbrev gVntE:ByteArray:=⟨#[62]⟩
abbrev gTo:ByteArray:=⟨#[45,62]⟩
abbrev gComma:ByteArray:=⟨#[44]⟩
abbrev gColon:ByteArray:=⟨#[58]⟩
abbrev gBar:ByteArray:=⟨#[124]⟩
def fieldW (rd:PE → Ty × PE) (ts:List Tok) (p:PE):(ByteArray × Ty) × PE :=
 if (tkA ts p.1).kind ≠ 1 then ((noS,zeroTy),failP 5 p)
 else (((tkA ts p.1).text,(rd (wantP ts gColon (p.1 + 1,p.2))).1),(rd (wantP ts gColon (p.1 + 1,p.2))).2)
def fieldsW (rd:PE → Ty × PE) (ts:List Tok):Nat → PE → List (ByteArray × Ty) → List (ByteArray × Ty) × PE
 | 0,p,l=>(l,p)
 | k + 1,p,l=>if skB ts gComma p = true then fieldsW rd ts k (fieldW rd ts (p.1 + 1,0)).2 (l ++ [(fieldW rd ts (p.1 + 1,0)).1]) else (l,p)
def headW (rd:PE → Ty × PE) (ts:List Tok) (p:PE):List (ByteArray × Ty) × PE :=
 if (tkA ts p.1).kind = 1 then fieldsW rd ts ts.length (fieldW rd ts p).2 [(fieldW rd ts p).1] else ([],p)
def tlW (ts:List Tok) (l:List (ByteArray × Ty)) (p:PE):Ty × PE :=
 if skB ts gBar p = true then (rowS l (lfT 9),wantP ts gDyn (p.1 + 1,0)) else (rowS l (lfT 8),p)
def rowR (rd:PE → Ty × PE) (ts:List Tok) (p:PE):Ty × PE:=tlW ts (headW rd ts p).1 (headW rd ts p).2
def atomW (rd:PE → Ty × PE) (ts:List Tok) (p:PE):Ty × PE :=
 if skB ts gInt p = true then (lfT 1,(p.1 + 1,0))
 else if skB ts gBool p = true then (lfT 2,(p.1 + 1,0))
 else if skB ts gDyn p = true then (lfT 3,(p.1 + 1,0))
 else if skB ts gOpen p = true then ((rd (p.1 + 1,0)).1,wantP ts gShut (rd (p.1 + 1,0)).2)
 else if skB ts gRec p = true then (.mk 5 noS 0 [(rowR rd ts (p.1 + 1,0)).1],wantP ts gRecE (rowR rd ts (p.1 + 1,0)).2)
 else if skB ts gVnt p = true then (.mk 6 noS 0 [(rowR rd ts (p.1 + 1,0)).1],wantP ts gVntE (rowR rd ts (p.1 + 1,0)).2)
 else (zeroTy,failP 5 p)
def wholeW (ts:List Tok):Nat → PE → Ty × PE
 | 0,p=>(zeroTy,failP 6 p)
 | n + 1,p =>
  if p.2 ≠ 0 then (zeroTy,p)
  else if skB ts gTo (atomW (wholeW ts n) ts p).2 = true then
   (.mk 4 noS 0 [(atomW (wholeW ts n) ts p).1,(wholeW ts n ((atomW (wholeW ts n) ts p).2.1 + 1,0)).1],(wholeW ts n ((atomW (wholeW ts n) ts p).2.1 + 1,0)).2)
  else atomW (wholeW ts n) ts p
def EndsT (ts:List Tok):Prop:=∀ a,a < ts.length → (tkA ts a).kind ≠ 4 → a + 1 < ts.length
theorem tkA_is {ts:List Tok} {a:Nat} (h:a < ts.length):ts[a]? = some (tkA ts a):=by
 unfold tkA
 rw [List.getElem?_eq_getElem h]
 rfl
theorem isG_kind {t:Tok} {s:ByteArray} (h:isG t s = true):t.kind = 3:=by
 unfold isG at h
 rw [Bool.and_eq_true,beq_iff_eq] at h
 exact h.1
theorem skB_at {ts:List Tok} {s:ByteArray} {p:PE} (hE:EndsT ts) (hp:p.1 < ts.length) (h:skB ts s p = true):p.2 = 0 ∧ p.1 + 1 < ts.length:=by
 unfold skB at h
 rw [Bool.and_eq_true,beq_iff_eq] at h
 exact ⟨h.1,hE _ hp (by rw [isG_kind h.2];decide)⟩
theorem wantP_lt {ts:List Tok} {s:ByteArray} {p:PE} (hE:EndsT ts) (hp:p.1 < ts.length):(wantP ts s p).1 < ts.length ∧ p.1 ≤ (wantP ts s p).1 ∧ ((wantP ts s p).2 = 0 → p.2 = 0 ∧ (wantP ts s p).1 = p.1 + 1):=by
 unfold wantP
 by_cases h0:p.2 ≠ 0
 ·rw [if_pos h0]
  exact ⟨hp,Nat.le_refl _,fun h=>absurd h h0⟩
 ·rw [if_neg h0]
  by_cases h1:isG (tkA ts p.1) s = true
  ·rw [if_pos h1]
   exact ⟨hE _ hp (by rw [isG_kind h1];decide),Nat.le_succ _,fun _=>⟨Decidable.not_not.1 h0,rfl⟩⟩
  ·rw [if_neg h1]
   exact ⟨hp,Nat.le_refl _,fun h=>absurd (show (5:Int) = 0 from h) (by decide)⟩
theorem failP_at (c:Int) (hc:c ≠ 0) (p:PE):(failP c p).1 = p.1 ∧ (failP c p).2 ≠ 0:=by
 unfold failP
 by_cases h0:p.2 ≠ 0
 ·rw [if_pos h0];exact ⟨rfl,h0⟩
 ·rw [if_neg h0];exact ⟨rfl,hc⟩
structure Fit (ts:List Tok) (p:PE) (r:Ty × PE) (k:Nat):Prop where
 lo:p.1 ≤ r.2.1
 hi:r.2.1 < ts.length
 sz:r.1.parts.length + p.1 ≤ r.2.1 + 2
 ok:r.2.2 = 0 → p.2 = 0 ∧ r.1.parts.length + p.1 ≤ r.2.1 + k
 sp:SpineAll r.1
end Go.Proofs.YtahpnackkmbmgaaGreatDoor.Vm
end
section
namespace Go.Proofs.YtahpnackkmbmgaaGreatDoor.Vm
open Go.RowKit
theorem leaf_parts (op:Int):(lfT op).parts.length = 1:=by rw [parts_kids];rfl
theorem zero_parts:zeroTy.parts.length = 1:=leaf_parts 0
theorem leaf_spine (op:Int) (h:op ≠ 11):SpineAll (lfT op):=.mk (spine_end h) fun x hx=>by cases hx
theorem zero_spine:SpineAll zeroTy:=leaf_spine 0 (by decide)
theorem one_parts (op:Int) (nm:ByteArray) (n:Int) (t:Ty):(Ty.mk op nm n [t]).parts.length = 1 + t.parts.length:=by rw [parts_kids];simp only [Ty.kids,List.flatMap_cons,List.flatMap_nil,List.append_nil,List.length_cons];omega
theorem two_parts (op:Int) (nm:ByteArray) (n:Int) (t u:Ty):(Ty.mk op nm n [t,u]).parts.length = 1 + t.parts.length + u.parts.length:=by rw [parts_kids];simp only [Ty.kids,List.flatMap_cons,List.flatMap_nil,List.append_nil,List.length_cons,List.length_append];omega
theorem one_spine {op:Int} {nm:ByteArray} {n:Int} {t:Ty} (h:op ≠ 11) (ht:SpineAll t):SpineAll (.mk op nm n [t]):=.mk (spine_end h) fun x hx=>by
 cases hx with
 | head=>exact ht
 | tail _ hx=>cases hx
theorem two_spine {op:Int} {nm:ByteArray} {n:Int} {t u:Ty} (h:op ≠ 11) (ht:SpineAll t) (hu:SpineAll u):SpineAll (.mk op nm n [t,u]):=.mk (spine_end h) fun x hx=>by
 cases hx with
 | head=>exact ht
 | tail _ hx=>cases hx with
  | head=>exact hu
  | tail _ hx=>cases hx
theorem fld_snoc (l:List (ByteArray × Ty)) (f:ByteArray × Ty):fldParts (l ++ [f]) = fldParts l + (1 + f.2.parts.length):=by unfold fldParts;rw [List.map_append,List.sum_append];simp
theorem fld_len (l:List (ByteArray × Ty)):2 * l.length ≤ fldParts l ∧ ∀ f ∈ l,f.2.parts.length ≤ fldParts l:=by
 induction l with
 | nil=>exact ⟨Nat.le_refl _,fun f hf=>by cases hf⟩
 | cons a l ih =>
  have h:fldParts (a :: l) = (1 + a.2.parts.length) + fldParts l:=by unfold fldParts;simp
  have:=parts_pos a.2
  rw [h,List.length_cons]
  refine ⟨by omega,fun f hf=>?_⟩
  cases hf with
  | head=>omega
  | tail _ hf=>have:=ih.2 f hf;omega
def FitR (ts:List Tok) (rd:PE → Ty × PE):Prop:=∀ p:PE,p.1 < ts.length → Fit ts p (rd p) 0 ∧ (p.2 ≠ 0 → rd p = (zeroTy,p))
structure FitF (ts:List Tok) (p:PE) (r:(ByteArray × Ty) × PE):Prop where
 lo:p.1 ≤ r.2.1
 hi:r.2.1 < ts.length
 sz:r.1.2.parts.length + p.1 ≤ r.2.1 + 1
 sw:(tkA ts p.1).kind = 1 → r.1.2.parts.length + p.1 ≤ r.2.1
 ok:r.2.2 = 0 → p.2 = 0 ∧ r.1.2.parts.length + p.1 + 2 ≤ r.2.1
 sp:SpineAll r.1.2
theorem fit_field {ts:List Tok} {rd:PE → Ty × PE} (hE:EndsT ts) (hr:FitR ts rd) (p:PE) (hp:p.1 < ts.length):FitF ts p (fieldW rd ts p):=by
 unfold fieldW
 by_cases hk:(tkA ts p.1).kind ≠ 1
 ·rw [if_pos hk]
  obtain ⟨f1,f2⟩:=failP_at 5 (by decide) p
  exact ⟨by rw [f1];exact Nat.le_refl _,by rw [f1];exact hp,by show zeroTy.parts.length + _ ≤ _;rw [zero_parts,f1];omega,fun h=>absurd h hk,fun h=>absurd h f2,zero_spine⟩
 ·rw [if_neg hk]
  replace hk:=Decidable.not_not.1 hk
  have h1:=hE _ hp (by rw [hk];decide)
  obtain ⟨w1,w2,w3⟩:=wantP_lt (s:=gColon) (p:=(p.1 + 1,p.2)) hE h1
  generalize wantP ts gColon (p.1 + 1,p.2) = q at *
  obtain ⟨hq,hz⟩:=hr q w1
  simp only at w2 w3
  have key:(rd q).1.parts.length + p.1 ≤ (rd q).2.1:=by
   have:=hq.sz
   by_cases hq0:q.2 = 0
   ·have:=(w3 hq0).2;omega
   ·rw [hz hq0];show zeroTy.parts.length + _ ≤ q.1;rw [zero_parts];omega
  generalize rd q = r at *
  obtain ⟨a1,a2,a3,a4,a5⟩:=hq
  exact ⟨by show p.1 ≤ r.2.1;omega,a2,by show r.1.parts.length + _ ≤ r.2.1 + 1;omega,fun _=>key,fun h=>by
   have h3:=a4 h
   have h4:=w3 h3.1
   refine ⟨h4.1,?_⟩
   show r.1.parts.length + _ + _ ≤ r.2.1
   omega,a5⟩
structure FitL (ts:List Tok) (p:PE) (r:List (ByteArray × Ty) × PE):Prop where
 lo:p.1 ≤ r.2.1
 hi:r.2.1 < ts.length
 sz:fldParts r.1 + p.1 ≤ r.2.1 + 1
 ok:r.2.2 = 0 → p.2 = 0 ∧ fldParts r.1 + p.1 ≤ r.2.1
 sp:∀ f ∈ r.1,SpineAll f.2
theorem fit_fields {ts:List Tok} {rd:PE → Ty × PE} (hE:EndsT ts) (hr:FitR ts rd) (p0:PE):∀ (k:Nat) (p:PE) (l:List (ByteArray × Ty)),FitL ts p0 (l,p) → FitL ts p0 (fieldsW rd ts k p l)
 | 0,p,l,h=>h
 | k + 1,p,l,h=>by
  rw [fieldsW]
  by_cases hs:skB ts gComma p = true
  ·rw [if_pos hs]
   obtain ⟨s1,s2⟩:=skB_at hE h.hi hs
   have hf:=fit_field hE hr (p.1 + 1,0) s2
   generalize fieldW rd ts (p.1 + 1,0) = f at *
   obtain ⟨a1,a2,a3,a4,a5,a6⟩:=hf
   obtain ⟨b1,b2,b3,b4,b5⟩:=h
   simp only at *
   have b6:=b4 s1
   refine fit_fields hE hr p0 k f.2 (l ++ [f.1]) ⟨by show p0.1 ≤ f.2.1;omega,a2,?_,fun h=>⟨b6.1,?_⟩,fun x hx=>?_⟩
   ·show fldParts (l ++ [f.1]) + p0.1 ≤ f.2.1 + 1
    rw [fld_snoc];omega
   ·show fldParts (l ++ [f.1]) + p0.1 ≤ f.2.1
    rw [fld_snoc];have:=(a5 h).2;omega
   ·rcases List.mem_append.1 hx with hx | hx
    ·exact b5 x hx
    ·cases List.mem_singleton.1 hx;exact a6
  ·rw [if_neg hs];exact h
theorem fit_head {ts:List Tok} {rd:PE → Ty × PE} (hE:EndsT ts) (hr:FitR ts rd) (p:PE) (hp:p.1 < ts.length):FitL ts p (headW rd ts p):=by
 unfold headW
 by_cases hk:(tkA ts p.1).kind = 1
 ·rw [if_pos hk]
  have hf:=fit_field hE hr p hp
  generalize fieldW rd ts p = f at *
  obtain ⟨a1,a2,a3,a4,a5,a6⟩:=hf
  have e1:fldParts [f.1] = 1 + f.1.2.parts.length:=rfl
  have a7:=a4 hk
  refine fit_fields hE hr p _ _ _ ⟨a1,a2,by show fldParts [f.1] + _ ≤ f.2.1 + 1;omega,fun h=>⟨(a5 h).1,by show fldParts [f.1] + _ ≤ f.2.1;have:=(a5 h).2;omega⟩,fun x hx=>?_⟩
  cases List.mem_singleton.1 hx
  exact a6
 ·rw [if_neg hk]
  have e1:fldParts [] = 0:=rfl
  exact ⟨Nat.le_refl _,hp,by show fldParts [] + p.1 ≤ p.1 + 1;omega,fun h=>⟨h,by show fldParts [] + p.1 ≤ p.1;omega⟩,fun x hx=>by cases hx⟩
theorem fit_row {ts:List Tok} {rd:PE → Ty × PE} (hE:EndsT ts) (hr:FitR ts rd) (p:PE) (hp:p.1 < ts.length):Fit ts p (rowR rd ts p) 1:=by
 unfold rowR
 have hh:=fit_head hE hr p hp
 generalize headW rd ts p = r at *
 obtain ⟨b1,b2,b3,b4,b5⟩:=hh
 unfold tlW
 have e1:∀ o:Int,(rowS r.1 (lfT o)).parts.length = fldParts r.1 + 1:=fun o=>by rw [rowS_parts,leaf_parts]
 by_cases hs:skB ts gBar r.2 = true
 ·rw [if_pos hs]
  obtain ⟨s1,s2⟩:=skB_at hE b2 hs
  obtain ⟨w1,w2,w3⟩:=wantP_lt (s:=gDyn) (p:=(r.2.1 + 1,0)) hE s2
  have b6:=b4 s1
  generalize wantP ts gDyn (r.2.1 + 1,0) = q at *
  simp only at w2 w3
  exact ⟨by show p.1 ≤ q.1;omega,w1,by show (rowS r.1 (lfT 9)).parts.length + p.1 ≤ q.1 + 2;rw [e1];omega,fun h=>⟨b6.1,by show (rowS r.1 (lfT 9)).parts.length + p.1 ≤ q.1 + 1;rw [e1];omega⟩,rowS_spine (leaf_spine 9 (by decide)) b5⟩
 ·rw [if_neg hs]
  exact ⟨b1,b2,by show (rowS r.1 (lfT 8)).parts.length + p.1 ≤ r.2.1 + 2;rw [e1];omega,fun h=>⟨(b4 h).1,by show (rowS r.1 (lfT 8)).parts.length + p.1 ≤ r.2.1 + 1;rw [e1];have:=(b4 h).2;omega⟩,rowS_spine (leaf_spine 8 (by decide)) b5⟩
theorem fit_leaf {ts:List Tok} {p:PE} {s:ByteArray} (op:Int) (ho:op ≠ 11) (hE:EndsT ts) (hp:p.1 < ts.length) (h:skB ts s p = true):Fit ts p (lfT op,(p.1 + 1,0)) 0:=by
 obtain ⟨s1,s2⟩:=skB_at hE hp h
 exact ⟨Nat.le_succ _,s2,by show (lfT op).parts.length + p.1 ≤ p.1 + 1 + 2;rw [leaf_parts];omega,fun _=>⟨s1,by show (lfT op).parts.length + p.1 ≤ p.1 + 1 + 0;rw [leaf_parts];omega⟩,leaf_spine op ho⟩
theorem fit_shut {ts:List Tok} {p:PE} {s c:ByteArray} (op:Int) (ho:op ≠ 11) (hE:EndsT ts) (hp:p.1 < ts.length) (h:skB ts s p = true) {r:Ty × PE} (hr:Fit ts (p.1 + 1,0) r 1):Fit ts p (.mk op noS 0 [r.1],wantP ts c r.2) 0:=by
 obtain ⟨s1,s2⟩:=skB_at hE hp h
 obtain ⟨a1,a2,a3,a4,a5⟩:=hr
 obtain ⟨w1,w2,w3⟩:=wantP_lt (s:=c) (p:=r.2) hE a2
 simp only at a1 a3 a4
 exact ⟨by show p.1 ≤ (wantP ts c r.2).1;omega,w1,by show (Ty.mk op noS 0 [r.1]).parts.length + p.1 ≤ (wantP ts c r.2).1 + 2;rw [one_parts];omega,fun h=>⟨s1,by
  show (Ty.mk op noS 0 [r.1]).parts.length + p.1 ≤ (wantP ts c r.2).1 + 0
  have h3:=w3 h
  have h4:=a4 h3.1
  rw [one_parts];omega⟩,one_spine ho a5⟩
theorem fit_atom {ts:List Tok} {rd:PE → Ty × PE} (hE:EndsT ts) (hr:FitR ts rd) (p:PE) (hp:p.1 < ts.length):Fit ts p (atomW rd ts p) 0:=by
 unfold atomW
 by_cases h1:skB ts gInt p = true
 ·rw [if_pos h1];exact fit_leaf 1 (by decide) hE hp h1
 rw [if_neg h1]
 by_cases h2:skB ts gBool p = true
 ·rw [if_pos h2];exact fit_leaf 2 (by decide) hE hp h2
 rw [if_neg h2]
 by_cases h3:skB ts gDyn p = true
 ·rw [if_pos h3];exact fit_leaf 3 (by decide) hE hp h3
 rw [if_neg h3]
 by_cases h4:skB ts gOpen p = true
 ·rw [if_pos h4]
  obtain ⟨s1,s2⟩:=skB_at hE hp h4
  obtain ⟨hq,_⟩:=hr (p.1 + 1,0) s2
  generalize rd (p.1 + 1,0) = r at *
  obtain ⟨a1,a2,a3,a4,a5⟩:=hq
  obtain ⟨w1,w2,w3⟩:=wantP_lt (s:=gShut) (p:=r.2) hE a2
  simp only at a1 a3 a4
  exact ⟨by show p.1 ≤ (wantP ts gShut r.2).1;omega,w1,by show r.1.parts.length + p.1 ≤ (wantP ts gShut r.2).1 + 2;omega,fun h=>⟨s1,by
   show r.1.parts.length + p.1 ≤ (wantP ts gShut r.2).1 + 0
   have h3:=w3 h
   have h4:=a4 h3.1
   omega⟩,a5⟩
 rw [if_neg h4]
 by_cases h5:skB ts gRec p = true
 ·rw [if_pos h5];exact fit_shut 5 (by decide) hE hp h5 (fit_row hE hr (p.1 + 1,0) (skB_at hE hp h5).2)
 rw [if_neg h5]
 by_cases h6:skB ts gVnt p = true
 ·rw [if_pos h6];exact fit_shut 6 (by decide) hE hp h6 (fit_row hE hr (p.1 + 1,0) (skB_at hE hp h6).2)
 rw [if_neg h6]
 obtain ⟨f1,f2⟩:=failP_at 5 (by decide) p
 exact ⟨by rw [f1];exact Nat.le_refl _,by rw [f1];exact hp,by show zeroTy.parts.length + _ ≤ _;rw [zero_parts,f1];omega,fun h=>absurd h f2,zero_spine⟩
theorem fit_whole {ts:List Tok} (hE:EndsT ts):∀ n:Nat,FitR ts (wholeW ts n)
 | 0,p,hp=>by
  rw [wholeW]
  obtain ⟨f1,f2⟩:=failP_at 6 (by decide) p
  refine ⟨⟨by rw [f1];exact Nat.le_refl _,by rw [f1];exact hp,by show zeroTy.parts.length + _ ≤ _;rw [zero_parts,f1];omega,fun h=>absurd h f2,zero_spine⟩,fun h=>?_⟩
  unfold failP
  rw [if_pos h]
 | n + 1,p,hp=>by
  have ih:=fit_whole hE n
  rw [wholeW]
  by_cases h0:p.2 ≠ 0
  ·rw [if_pos h0]
   exact ⟨⟨Nat.le_refl _,hp,by show zeroTy.parts.length + p.1 ≤ p.1 + 2;rw [zero_parts];omega,fun h=>absurd h h0,zero_spine⟩,fun _=>rfl⟩
  rw [if_neg h0]
  refine ⟨?_,fun h=>absurd h h0⟩
  have ha:=fit_atom hE ih p hp
  generalize atomW (wholeW ts n) ts p = r at *
  by_cases hs:skB ts gTo r.2 = true
  ·rw [if_pos hs]
   obtain ⟨a1,a2,a3,a4,a5⟩:=ha
   obtain ⟨s1,s2⟩:=skB_at hE a2 hs
   obtain ⟨hq,_⟩:=ih (r.2.1 + 1,0) s2
   generalize wholeW ts n (r.2.1 + 1,0) = u at *
   obtain ⟨b1,b2,b3,b4,b5⟩:=hq
   have a6:=a4 s1
   simp only at b1 b3 b4
   exact ⟨by show p.1 ≤ u.2.1;omega,b2,by show (Ty.mk 4 noS 0 [r.1,u.1]).parts.length + p.1 ≤ u.2.1 + 2;rw [two_parts];omega,fun h=>⟨a6.1,by
    show (Ty.mk 4 noS 0 [r.1,u.1]).parts.length + p.1 ≤ u.2.1 + 0
    have h4:=(b4 h).2
    rw [two_parts];omega⟩,two_spine (by decide) a5 b5⟩
  ·rw [if_neg hs];exact ha
theorem okL_all:∀ (l:List UInt8) (f:Bool),(∀ (i:Nat) (c:UInt8),l[i]? = some c → okB (f && (i == 0)) (c.toNat:Int) = true) → okL f l = true
 | [],f,h=>rfl
 | c :: l,f,h=>by
  rw [okL,okL_all l false fun i x hx=>by
   have:=h (i + 1) x (by simpa using hx)
   simpa using this]
  have:=h 0 c rfl
  simp at this
  rw [this]
  rfl
theorem gb_of (s:ByteArray) (i:Nat) (c:UInt8) (h:(btl s)[i]? = some c):gb (numsOf s) i = (c.toNat:Int):=by
 unfold btl at h
 unfold gb numsOf
 rw [List.getD_eq_getElem?_getD,List.getElem?_map,h]
 rfl
theorem word_of (s:ByteArray) (h1:ownB s = false) (h2:wordlyB (numsOf s) = true) (h3:(numsOf s).length ≤ 32):wordB s = true:=by
 rw [nums_len] at h3
 unfold wordlyB at h2
 rw [Bool.and_eq_true,decide_eq_true_iff,List.all_eq_true,nums_len] at h2
 obtain ⟨h4,h5⟩:=h2
 unfold wordB wordlyS
 rw [h1,decide_eq_true h3,decide_eq_true h4,okL_all _ _ fun i c hc=>by
  have hi:i < s.size:=by
   have:=(List.getElem?_eq_some_iff.1 hc).1
   unfold btl at this
   rwa [Array.length_toList] at this
  have h6:=h5 i (List.mem_range.2 hi)
  unfold okAt at h6
  rw [gb_of s i c hc] at h6
  unfold okB
  by_cases hz:i = 0
  ·subst hz
   simpa using h6
  ·rw [decide_eq_true (by omega:0 < i)] at h6
   rw [show (i == 0) = false from beq_false_of_ne hz]
   simpa using h6]
 rfl
def TkOk (t:Tok):Prop:=t.kind ≠ 4 ∧ (t.kind = 1 → wordB t.text = true)
theorem runTk_ok (s:ByteArray) (a:Int) (h:(runS s a).2 = 0):TkOk (runS s a).1:=by
 unfold runS at h ⊢
 by_cases h1:digitB (gb (numsOf s) 0) = true
 ·rw [if_pos h1] at h ⊢
  exact ⟨show (2:Int) ≠ 4 by decide,fun h=>absurd (show (2:Int) = 1 from h) (by decide)⟩
 rw [if_neg h1] at h ⊢
 by_cases h2:ownB s = true
 ·rw [if_pos h2] at h ⊢
  exact ⟨show (3:Int) ≠ 4 by decide,fun h=>absurd (show (3:Int) = 1 from h) (by decide)⟩
 rw [if_neg h2] at h ⊢
 by_cases h3:wordlyB (numsOf s) = false
 ·rw [if_pos h3] at h
  exact absurd (show (4:Int) = 0 from h) (by decide)
 rw [if_neg h3] at h ⊢
 by_cases h4:32 < (numsOf s).length
 ·rw [if_pos h4] at h
  exact absurd (show (7:Int) = 0 from h) (by decide)
 rw [if_neg h4]
 exact ⟨show (1:Int) ≠ 4 by decide,fun _=>word_of s (Bool.eq_false_iff.2 h2) (by simpa using h3) (by omega)⟩
def TksOk (l:List Int) (r:List Tok × Int × Int) (n:Nat):Prop:=r.2.2 = 0 → ∃ pre,r.1 = pre ++ [⟨4,⟨#[]⟩,0,(l.length:Int)⟩] ∧ (∀ t ∈ pre,TkOk t) ∧ pre.length ≤ n
theorem scan_ok (l:List Int):∀ (m a:Nat) (rem:Bool) (out:List Tok) (n:Nat),l.length - a ≤ m → (∀ t ∈ out,TkOk t) → out.length + (l.length - a) ≤ n → TksOk l (scanS l a rem out) n
 | m,a,rem,out,n,hm,ho,hn=>by
  rw [scan_eq]
  unfold body
  by_cases ha:a < l.length
  ·rw [if_pos ha]
   have go:∀ (a':Nat) (rem:Bool) (out':List Tok),a < a' → (∀ t ∈ out',TkOk t) → out'.length ≤ out.length + 1 → TksOk l (scanS l a' rem out') n:=fun a' rem' out' h1 h2 h3=>by
    match m,hm with
    | 0,hm=>omega
    | m + 1,hm=>exact scan_ok l m a' rem' out' n (by omega) h2 (by omega)
   have bad:∀ (p c:Int),c ≠ 0 → TksOk l ([],p,c) n:=fun p c hc h=>absurd h hc
   have snoc:∀ t,TkOk t → ∀ x ∈ out ++ [t],TkOk x:=fun t ht x hx=>by
    rcases List.mem_append.1 hx with hx | hx
    ·exact ho x hx
    ·cases List.mem_singleton.1 hx;exact ht
   by_cases h0:nx l a = 0
   ·rw [if_pos h0];exact bad _ _ (by decide)
   rw [if_neg h0]
   by_cases h1:rem = true
   ·rw [if_pos h1];exact go _ _ _ (by omega) ho (by omega)
   rw [if_neg h1]
   by_cases h2:blankB (gb l a) = true
   ·rw [if_pos h2];exact go _ _ _ (by omega) ho (by omega)
   rw [if_neg h2]
   by_cases h3:gb l a = 35
   ·rw [if_pos h3];exact go _ _ _ (by omega) ho (by omega)
   rw [if_neg h3]
   by_cases h4:runsB (gb l a) = true
   ·rw [if_pos h4]
    by_cases h5:(runS (strOfNums (runAt l a)) a).2 = 0
    ·rw [if_pos h5]
     have:=run_pos ha h4
     exact go _ _ _ (by omega) (snoc _ (runTk_ok _ _ h5)) (by simp)
    ·rw [if_neg h5];exact bad _ _ h5
   rw [if_neg h4]
   by_cases h6:signS (l.drop a) = 0
   ·rw [if_pos h6];exact bad _ _ (by decide)
   rw [if_neg h6]
   exact go _ _ _ (by omega) (snoc _ ⟨show (3:Int) ≠ 4 by decide,fun h=>absurd (show (3:Int) = 1 from h) (by decide)⟩) (by simp)
  ·rw [if_neg ha]
   exact fun _=>⟨out,rfl,ho,by omega⟩
def NamesT (ts:List Tok):Prop:=∀ a,a < ts.length → (tkA ts a).kind = 1 → wordB (tkA ts a).text = true
theorem toks_ok (l:List Int) (h:(scanS l 0 false []).2.2 = 0):EndsT (scanS l 0 false []).1 ∧ NamesT (scanS l 0 false []).1 ∧ 0 < (scanS l 0 false []).1.length ∧ (scanS l 0 false []).1.length ≤ l.length + 1:=by
 obtain ⟨pre,h1,h2,h3⟩:=scan_ok l l.length 0 false [] l.length (by omega) (fun t ht=>by cases ht) (by simp) h
 rw [h1]
 have hin:∀ a,a < (pre ++ [(⟨4,⟨#[]⟩,0,(l.length:Int)⟩:Tok)]).length → (tkA (pre ++ [⟨4,⟨#[]⟩,0,(l.length:Int)⟩]) a) ∈ pre ∧ a < pre.length ∨ (tkA (pre ++ [⟨4,⟨#[]⟩,0,(l.length:Int)⟩]) a).kind = 4:=fun a ha=>by
  rw [List.length_append,List.length_singleton] at ha
  unfold tkA
  by_cases hp:a < pre.length
  ·left
   rw [List.getElem?_append_left hp,List.getElem?_eq_getElem hp]
   exact ⟨List.getElem_mem hp,hp⟩
  ·right
   have:a = pre.length:=by omega
   subst this
   rw [List.getElem?_append_right (Nat.le_refl _),Nat.sub_self]
   rfl
 refine ⟨fun a ha hk=>?_,fun a ha hk=>?_,by simp,by simp;omega⟩
 ·rcases hin a ha with ⟨_,hp⟩ | h4
  ·simp;omega
  ·exact absurd h4 hk
 ·rcases hin a ha with ⟨hm,_⟩ | h4
  ·exact (h2 _ hm).2 hk
  ·rw [h4] at hk;exact absurd hk (by decide)
abbrev Lex:=Int × List UInt8
def flatX (xs:List Lex):List UInt8:=xs.flatMap fun x=>x.2
def tkX (x:Lex) (a:Nat):Tok:=⟨x.1,⟨x.2.toArray⟩,0,(a:Int)⟩
def toksX:List Lex → Nat → List Tok
 | [],_=>[]
 | x :: xs,a=>tkX x a :: toksX xs (a + x.2.length)
def LexOk (x:Lex) (r:List UInt8):Prop:=∀ (pre:List UInt8) (out:List Tok),scanS (numsU (pre ++ (x.2 ++ r))) pre.length false out = scanS (numsU (pre ++ (x.2 ++ r))) (pre.length + x.2.length) false (out ++ [tkX x pre.length])
def LexAll:List Lex → List UInt8 → Prop
 | [],_=>True
 | x :: xs,r=>LexOk x (flatX xs ++ r) ∧ LexAll xs r
theorem flatX_cons (x:Lex) (xs:List Lex):flatX (x :: xs) = x.2 ++ flatX xs:=rfl
theorem flatX_app (xs ys:List Lex):flatX (xs ++ ys) = flatX xs ++ flatX ys:=List.flatMap_append
theorem LexAll.app:∀ {xs ys:List Lex} {r:List UInt8},LexAll xs (flatX ys ++ r) → LexAll ys r → LexAll (xs ++ ys) r
 | [],_,_,_,h=>h
 | x :: xs,ys,r,h,h2=>⟨by have:=h.1;rw [← List.append_assoc,← flatX_app] at this;exact this,LexAll.app h.2 h2⟩
theorem scan_lex:∀ (xs:List Lex) (r pre:List UInt8) (out:List Tok),LexAll xs r → scanS (numsU (pre ++ (flatX xs ++ r))) pre.length false out = scanS (numsU (pre ++ (flatX xs ++ r))) (pre.length + (flatX xs).length) false (out ++ toksX xs pre.length)
 | [],r,pre,out,_=>by simp [flatX,toksX]
 | x :: xs,r,pre,out,h=>by
  rw [flatX_cons,List.append_assoc,h.1 pre out]
  have h2:=scan_lex xs r (pre ++ x.2) (out ++ [tkX x pre.length]) h.2
  rw [List.append_assoc,List.length_append] at h2
  rw [h2,List.length_append,toksX,Nat.add_assoc,List.append_assoc]
  rfl
theorem toksX_len:∀ (xs:List Lex) (a:Nat),(toksX xs a).length = xs.length
 | [],_=>rfl
 | x :: xs,a=>by rw [toksX,List.length_cons,toksX_len xs,List.length_cons]
theorem scan_all (xs:List Lex) (h:LexAll xs []):scanS (numsU (flatX xs)) 0 false [] = (toksX xs 0 ++ [⟨4,⟨#[]⟩,0,((flatX xs).length:Int)⟩],0,0):=by
 have h1:=scan_lex xs [] [] [] h
 simp only [List.append_nil,List.nil_append,List.length_nil,Nat.zero_add] at h1
 rw [h1,scan_end (by unfold numsU;rw [List.length_map];exact Nat.le_refl _)]
 unfold numsU
 rw [List.length_map]
theorem gb_pre (pre r:List UInt8) (c:UInt8):gb (numsU (pre ++ c :: r)) pre.length = (c.toNat:Int):=gb_nums _ _ _ (by rw [List.getElem?_append_right (Nat.le_refl _),Nat.sub_self];rfl)
theorem drop_pre (pre r:List UInt8):(numsU (pre ++ r)).drop pre.length = numsU r:=by
 unfold numsU
 rw [List.map_append,List.drop_left' (by rw [List.length_map])]
theorem str_nums (w:List UInt8):strOfNums (numsU w) = ⟨w.toArray⟩:=by
 refine ByteArray.ext (Array.ext' ?_)
 rw [strOfNums_data]
 unfold numsU
 rw [List.map_map]
 conv=>rhs;rw [show (⟨w.toArray⟩:ByteArray).data.toList = w from rfl,← List.map_id w]
 exact List.map_congr_left fun c _=>by simp
theorem len_lt (pre r:List UInt8) (c:UInt8):pre.length < (numsU (pre ++ c :: r)).length:=by unfold numsU;rw [List.length_map,List.length_append,List.length_cons];omega
theorem nums_cons (c:UInt8) (r:List UInt8):numsU (c :: r) = (c.toNat:Int) :: numsU r:=rfl
theorem sgl_runs {c:Int} (h:c ∈ sgls):runsB c = false:=by
 rw [mem_sgls] at h
 rw [runs_no]
 omega
theorem lex_sign (c:UInt8) (r:List UInt8) (hc:(c.toNat:Int) ∈ sgls) (h1:c.toNat ≠ 61 ∧ c.toNat ≠ 45) (h2:c.toNat = 58 → ∀ d,r.head? = some d → d.toNat ≠ 61):LexOk (3,[c]) r:=by
 intro pre out
 have ha:=sgl_ascii hc
 have hg:=gb_pre pre r c
 have hlt:=len_lt pre r c
 have hd:=drop_pre pre (c :: r)
 show scanS (numsU (pre ++ c :: r)) pre.length false out = scanS (numsU (pre ++ c :: r)) (pre.length + 1) false (out ++ [tkX (3,[c]) pre.length])
 have hs:signS ((numsU (pre ++ c :: r)).drop pre.length) = 1:=by
  rw [hd,nums_cons]
  unfold signS
  have g0:gb ((c.toNat:Int) :: numsU r) 0 = (c.toNat:Int):=rfl
  rw [if_neg,if_pos (by rw [g0];exact hc)]
  rintro ⟨_,h⟩
  unfold dblB at h
  rw [g0] at h
  simp only [Bool.or_eq_true,Bool.and_eq_true,beq_iff_eq] at h
  rcases h with ⟨h,_⟩ | ⟨h,_⟩ | ⟨h,h3⟩ | ⟨h,_⟩
  ·omega
  ·omega
  ·cases r with
   | nil=>exact absurd (show (0:Int) = 61 from h3) (by decide)
   | cons d r =>
    have h3:(d.toNat:Int) = 61:=h3
    have:=h2 (by omega) d rfl
    omega
  ·omega
 rw [scan_sign hlt (by rw [nx_ascii (byt_nums _) hlt (by rw [hg];omega)];decide) (by rw [hg,blank_no];omega) (by rw [hg];omega) (by rw [hg];exact sgl_runs hc) (by rw [hs];decide),hs,hd,nums_cons,List.take_succ_cons,List.take_zero,show [(c.toNat:Int)] = numsU [c] from rfl,str_nums]
 rfl
theorem lex_to (r:List UInt8):LexOk (3,[45,62]) r:=by
 intro pre out
 have hg:=gb_pre pre (62 :: r) 45
 have hlt:=len_lt pre (62 :: r) 45
 have hd:=drop_pre pre (45 :: 62 :: r)
 show scanS (numsU (pre ++ 45 :: 62 :: r)) pre.length false out = scanS (numsU (pre ++ 45 :: 62 :: r)) (pre.length + 2) false (out ++ [tkX (3,[45,62]) pre.length])
 have hs:signS ((numsU (pre ++ 45 :: 62 :: r)).drop pre.length) = 2:=by
  rw [hd]
  unfold signS
  rw [if_pos ⟨by unfold numsU;simp,rfl⟩]
 rw [scan_sign hlt (by rw [nx_ascii (byt_nums _) hlt (by rw [hg];decide)];decide) (by rw [hg];decide) (by rw [hg];decide) (by rw [hg];decide) (by rw [hs];decide),hs,hd,show (numsU (45 :: 62 :: r)).take 2 = numsU [45,62] from rfl,str_nums]
 rfl
def runsU (c:UInt8):Bool:=runsB (c.toNat:Int)
theorem lex_run (k:Int) (c:UInt8) (w r:List UInt8) (hw:∀ x ∈ c :: w,runsU x = true) (hr:NoP runsU r) (h:∀ a:Int,runS ⟨(c :: w).toArray⟩ a = (⟨k,⟨(c :: w).toArray⟩,0,a⟩,0)):LexOk (k,c :: w) r:=by
 intro pre out
 have hg:=gb_pre pre (w ++ r) c
 have hlt:=len_lt pre (w ++ r) c
 have hd:=drop_pre pre (c :: (w ++ r))
 have hc:runsB (c.toNat:Int) = true:=hw c (List.mem_cons_self ..)
 obtain ⟨c1,c2,c3⟩:=runs_asc hc
 show scanS (numsU (pre ++ c :: (w ++ r))) pre.length false out = scanS (numsU (pre ++ c :: (w ++ r))) (pre.length + (c :: w).length) false (out ++ [tkX (k,c :: w) pre.length])
 have hrun:runAt (numsU (pre ++ c :: (w ++ r))) pre.length = numsU (c :: w):=by
  unfold runAt
  rw [hd,show c :: (w ++ r) = (c :: w) ++ r from rfl]
  unfold numsU
  rw [List.map_append,List.takeWhile_append_of_pos (fun x hx=>by
   obtain ⟨y,hy,rfl⟩:=List.mem_map.1 hx
   exact hw y hy)]
  have:(r.map fun c:UInt8=>(c.toNat:Int)).takeWhile runsB = []:=by
   cases r with
   | nil=>rfl
   | cons d r =>
    have:=hr d rfl
    rw [List.map_cons,List.takeWhile_cons_of_neg (by unfold runsU at this;rw [this];decide)]
  rw [this,List.append_nil]
 rw [scan_run hlt (by rw [nx_ascii (byt_nums _) hlt (by rw [hg];exact c3)];decide) (by rw [hg];exact c1) (by rw [hg];exact c2) (by rw [hg];exact hc),hrun,str_nums,h]
 rw [if_pos rfl,show (numsU (c :: w)).length = (c :: w).length by unfold numsU;rw [List.length_map]]
 rfl
theorem run_name {s:ByteArray} (h:wordB s = true) (a:Int):runS s a = (⟨1,s,0,a⟩,0):=by
 have h0:=h
 unfold wordB wordlyS at h
 simp only [Bool.and_eq_true,decide_eq_true_eq] at h
 obtain ⟨h32,⟨h1,h2⟩,h3⟩:=h
 have h3:ownB s = false:=by simpa using h3
 have hl:=nums_len s
 have hat:∀ (l:List UInt8) (f:Bool),okL f l = true → ∀ (i:Nat) (c:UInt8),l[i]? = some c → okB (f && (i == 0)) (c.toNat:Int) = true:=by
  intro l
  induction l with
  | nil=>intro f _ i c hc;simp at hc
  | cons x l ih =>
   intro f hf i c hc
   rw [okL,Bool.and_eq_true] at hf
   cases i with
   | zero=>simp at hc;subst hc;simpa using hf.1
   | succ i =>
    have:=ih false hf.2 i c (by simpa using hc)
    simpa using this
 have hg:∀ i,i < s.size → okAt (numsOf s) i = true:=fun i hi=>by
  have hi2:i < (btl s).length:=by unfold btl;rw [Array.length_toList];exact hi
  have hc:(btl s)[i]? = some (btl s)[i]:=List.getElem?_eq_getElem hi2
  have h4:=hat _ true h1 i _ hc
  unfold okAt
  rw [gb_of s i _ hc]
  unfold okB at h4
  by_cases hz:i = 0
  ·subst hz
   simpa using h4
  ·rw [show (i == 0) = false from beq_false_of_ne hz] at h4
   rw [decide_eq_true (by omega:0 < i)]
   simpa using h4
 have hw:wordlyB (numsOf s) = true:=by rw [wordly_end fun i hi=>hg i (by omega),hl];exact decide_eq_true h2
 have hd:digitB (gb (numsOf s) 0) = false:=by
  have:=hg 0 h2
  unfold okAt at this
  simp at this
  rw [small_iff] at this
  rw [digit_no]
  omega
 unfold runS
 rw [if_neg (by rw [hd];decide),if_neg (by rw [h3];decide),if_neg (by rw [hw];decide),if_neg (by omega)]
theorem w_runs {c:UInt8} (h:wU c = true):runsU c = true:=by
 unfold wU at h
 unfold runsU
 rw [runs_iff]
 simp only [Bool.or_eq_true,beq_iff_eq,small_iff,digit_iff] at h
 omega
theorem lex_name {s:ByteArray} (h:wordB s = true) (r:List UInt8) (hr:NoP runsU r):LexOk (1,s.data.toList) r:=by
 obtain ⟨h1,c,l,h2,_⟩:=word_w h
 have e:s = ⟨(c :: l).toArray⟩:=by rw [← h2]
 have h3:=fun a=>run_name h a
 rw [e] at h3
 rw [h2] at h1 ⊢
 exact lex_run 1 c l r (fun x hx=>w_runs (h1 x hx)) hr h3
theorem run_own (i:Nat) (s:ByteArray) (hi:ownWs[i]? = some s) (hd:digitB (gb (numsOf s) 0) = false) (a:Int):runS s a = (⟨3,s,0,a⟩,0):=by
 unfold runS
 rw [if_neg (by rw [hd];decide),if_pos (own_hit i s hi (by rw [ByteArray.toList_eq];rfl))]
theorem lex_int (r:List UInt8) (hr:NoP runsU r):LexOk (3,[73,110,116]) r :=
 lex_run 3 73 [110,116] r (by decide) hr fun a=>run_own 13 _ rfl rfl a
theorem lex_bool (r:List UInt8) (hr:NoP runsU r):LexOk (3,[66,111,111,108]) r :=
 lex_run 3 66 [111,111,108] r (by decide) hr fun a=>run_own 14 _ rfl rfl a
end Go.Proofs.YtahpnackkmbmgaaGreatDoor.Vm
end
section
namespace Go.Proofs.YtahpnackkmbmgaaGreatDoor.Vm
open Go.RowKit
set_option maxRecDepth 100000
set_option maxHeartbeats 4000000
section
abbrev SkN (T:List (List D)) (s:ByteArray) (b:Bool) (e q a e' q' a':Int):Prop:=SpecO 64 [.ptr 0 0,vs s] [.box [.ptr 1 0,.d (.sc (.int .u8 e)),.d (.sc (.int .i64 q))],.box [.d (.sl 4 T),.d (.sc (.int .i64 a))]] (fun res os=>res = [vb b] ∧ os = [.box [.ptr 1 0,.d (.sc (.int .u8 e')),.d (.sc (.int .i64 q'))],.box [.d (.sl 4 T),.d (.sc (.int .i64 a'))]])
abbrev WaN (T:List (List D)) (s:ByteArray) (e q a e' q' a':Int):Prop:=SpecO 84 [.ptr 0 0,vs s] [.box [.ptr 1 0,.d (.sc (.int .u8 e)),.d (.sc (.int .i64 q))],.box [.d (.sl 4 T),.d (.sc (.int .i64 a))]] (fun res os=>res = [] ∧ os = [.box [.ptr 1 0,.d (.sc (.int .u8 e')),.d (.sc (.int .i64 q'))],.box [.d (.sl 4 T),.d (.sc (.int .i64 a'))]])
abbrev FaN (T:List (List D)) (c:Int) (e q a e' q' a':Int):Prop:=SpecO 62 [.ptr 0 0,vi .u8 c] [.box [.ptr 1 0,.d (.sc (.int .u8 e)),.d (.sc (.int .i64 q))],.box [.d (.sl 4 T),.d (.sc (.int .i64 a))]] (fun res os=>res = [] ∧ os = [.box [.ptr 1 0,.d (.sc (.int .u8 e')),.d (.sc (.int .i64 q'))],.box [.d (.sl 4 T),.d (.sc (.int .i64 a'))]])
abbrev TyN (f:Nat) (T:List (List D)) (L:Int) (x:List V) (e q a e' q' a':Int):Prop:=SpecO f [.ptr 0 0,vi .i64 L] [.box [.ptr 1 0,.d (.sc (.int .u8 e)),.d (.sc (.int .i64 q))],.box [.d (.sl 4 T),.d (.sc (.int .i64 a))]] (fun res os=>res = [.ag x] ∧ os = [.box [.ptr 1 0,.d (.sc (.int .u8 e')),.d (.sc (.int .i64 q'))],.box [.d (.sl 4 T),.d (.sc (.int .i64 a'))]])
section
variable {T:List (List D)} {L e q a e1 q1 a1 e2 q2 a2 e3 q3 a3:Int}
theorem atom_int (h1:SkN T gInt true e q a e1 q1 a1):TyN 63 T L (ofD (cT (lfT 1))) e q a e1 q1 a1:=by
 have hi:=Int_s
 rw [cT,rT] at hi ⊢
 refine speco_of Tryz.func63 rfl (by kernel_rfl) (by kernel_rfl) (by kernel_rfl) fun qa qb qc qd qe qg qh qi qj qk ql qm qo qp qq qt qu qv qw qx qy qz va vc vd ve vf vg vh vj vk vl vm vn vo vp vq vr vt vu vv vw vx hA=>?_
 iterate 2 (try cbv;repeat ((first | with_reducible apply next_at hA | refine call_at hA _ hi rfl ?_ | refine calm_at hA _ hi ?_ | (refine callo_at hA [0,1] h1 ⟨rfl,rfl,rfl,rfl,rfl,rfl,rfl⟩ ?_;rintro _ _ ⟨rfl,rfl⟩));cbv))
 try simp (maxSteps:=4000000) only [nc] at *
 exact keep_is hA [0,1] ⟨rfl,rfl,rfl,rfl,rfl,rfl,rfl,rfl⟩ ⟨rfl,rfl⟩
theorem atom_bool (h1:SkN T gInt false e q a e q a) (h2:SkN T gBool true e q a e1 q1 a1):TyN 63 T L (ofD (cT (lfT 2))) e q a e1 q1 a1:=by
 have hi:=Bool_s
 rw [cT,rT] at hi ⊢
 refine speco_of Tryz.func63 rfl (by kernel_rfl) (by kernel_rfl) (by kernel_rfl) fun qa qb qc qd qe qg qh qi qj qk ql qm qo qp qq qt qu qv qw qx qy qz va vc vd ve vf vg vh vj vk vl vm vn vo vp vq vr vt vu vv vw vx hA=>?_
 iterate 2 (try cbv;repeat ((first | with_reducible apply next_at hA | refine call_at hA _ hi rfl ?_ | refine calm_at hA _ hi ?_ | (refine callo_at hA [0,1] h1 ⟨rfl,rfl,rfl,rfl,rfl,rfl,rfl⟩ ?_;rintro _ _ ⟨rfl,rfl⟩) | (refine callo_at hA [0,1] h2 ⟨rfl,rfl,rfl,rfl,rfl,rfl,rfl⟩ ?_;rintro _ _ ⟨rfl,rfl⟩));cbv))
 try simp (maxSteps:=4000000) only [nc] at *
 exact keep_is hA [0,1] ⟨rfl,rfl,rfl,rfl,rfl,rfl,rfl,rfl⟩ ⟨rfl,rfl⟩
theorem atom_dyn (h1:SkN T gInt false e q a e q a) (h2:SkN T gBool false e q a e q a) (h3:SkN T gDyn true e q a e1 q1 a1):TyN 63 T L (ofD (cT (lfT 3))) e q a e1 q1 a1:=by
 have hi:=Dyn_s
 rw [cT,rT] at hi ⊢
 refine speco_of Tryz.func63 rfl (by kernel_rfl) (by kernel_rfl) (by kernel_rfl) fun qa qb qc qd qe qg qh qi qj qk ql qm qo qp qq qt qu qv qw qx qy qz va vc vd ve vf vg vh vj vk vl vm vn vo vp vq vr vt vu vv vw vx hA=>?_
 iterate 2 (try cbv;repeat ((first | with_reducible apply next_at hA | refine call_at hA _ hi rfl ?_ | refine calm_at hA _ hi ?_ | (refine callo_at hA [0,1] h1 ⟨rfl,rfl,rfl,rfl,rfl,rfl,rfl⟩ ?_;rintro _ _ ⟨rfl,rfl⟩) | (refine callo_at hA [0,1] h2 ⟨rfl,rfl,rfl,rfl,rfl,rfl,rfl⟩ ?_;rintro _ _ ⟨rfl,rfl⟩) | (refine callo_at hA [0,1] h3 ⟨rfl,rfl,rfl,rfl,rfl,rfl,rfl⟩ ?_;rintro _ _ ⟨rfl,rfl⟩));cbv))
 try simp (maxSteps:=4000000) only [nc] at *
 exact keep_is hA [0,1] ⟨rfl,rfl,rfl,rfl,rfl,rfl,rfl,rfl⟩ ⟨rfl,rfl⟩
theorem atom_open {t:Ty} (hL:0 ≤ L) (hL2:L ≤ 1048576) (h1:SkN T gInt false e q a e q a) (h2:SkN T gBool false e q a e q a) (h3:SkN T gDyn false e q a e q a) (h4:SkN T gOpen true e q a e1 q1 a1) (hw:TyN 38 T (L + 1) (ofD (cT t)) e1 q1 a1 e2 q2 a2) (hn:WaN T gShut e2 q2 a2 e3 q3 a3):TyN 63 T L (ofD (cT t)) e q a e3 q3 a3:=by
 obtain ⟨c0,c1,c2,c3,hc⟩:=cT_four t
 rw [hc] at hw ⊢
 obtain ⟨L1,hL1⟩:∃ L1,L1 = L + 1:=⟨_,rfl⟩
 rw [← hL1] at hw
 refine speco_of Tryz.func63 rfl (by kernel_rfl) (by kernel_rfl) (by kernel_rfl) fun qa qb qc qd qe qg qh qi qj qk ql qm qo qp qq qt qu qv qw qx qy qz va vc vd ve vf vg vh vj vk vl vm vn vo vp vq vr vt vu vv vw vx hA=>?_
 obtain ⟨ee1,ee2,e3,e4,e5,e6,e7,e8,e9⟩:=ar_at hA
 have g1:qa .i64 (qb L 1) = L1:=by rw [ee1,ee2,IntWalk.i64_in _ (by omega)];exact hL1.symm
 iterate 2 (try cbv;repeat ((first | with_reducible apply next_at hA | rw [g1] | (refine callo_at hA [0,1] h1 ⟨rfl,rfl,rfl,rfl,rfl,rfl,rfl⟩ ?_;rintro _ _ ⟨rfl,rfl⟩) | (refine callo_at hA [0,1] h2 ⟨rfl,rfl,rfl,rfl,rfl,rfl,rfl⟩ ?_;rintro _ _ ⟨rfl,rfl⟩) | (refine callo_at hA [0,1] h3 ⟨rfl,rfl,rfl,rfl,rfl,rfl,rfl⟩ ?_;rintro _ _ ⟨rfl,rfl⟩) | (refine callo_at hA [0,1] h4 ⟨rfl,rfl,rfl,rfl,rfl,rfl,rfl⟩ ?_;rintro _ _ ⟨rfl,rfl⟩) | (refine callo_at hA [0,1] hw ⟨rfl,rfl,rfl,rfl,rfl,rfl,rfl⟩ ?_;rintro _ _ ⟨rfl,rfl⟩) | (refine callo_at hA [0,1] hn ⟨rfl,rfl,rfl,rfl,rfl,rfl,rfl⟩ ?_;rintro _ _ ⟨rfl,rfl⟩));cbv))
 try simp (maxSteps:=4000000) only [nc] at *
 exact keep_is hA [0,1] ⟨rfl,rfl,rfl,rfl,rfl,rfl,rfl,rfl⟩ ⟨rfl,rfl⟩
theorem atom_rec {t:Ty} (ht:t.parts.length ≤ 1048576) (h1:SkN T gInt false e q a e q a) (h2:SkN T gBool false e q a e q a) (h3:SkN T gDyn false e q a e q a) (h4:SkN T gOpen false e q a e q a) (h5:SkN T gRec true e q a e1 q1 a1) (hw:TyN 85 T L (ofD (cT t)) e1 q1 a1 e2 q2 a2) (hn:WaN T gRecE e2 q2 a2 e3 q3 a3):TyN 63 T L (ofD (cT (.mk 5 noS 0 [t]))) e q a e3 q3 a3:=by
 have hr:=Rec_s t ht
 obtain ⟨c0,c1,c2,c3,hc⟩:=cT_four t
 obtain ⟨d0,d1,d2,d3,hd⟩:=cT_four (.mk 5 noS 0 [t])
 rw [hc] at hw hr
 rw [hd] at hr ⊢
 refine speco_of Tryz.func63 rfl (by kernel_rfl) (by kernel_rfl) (by kernel_rfl) fun qa qb qc qd qe qg qh qi qj qk ql qm qo qp qq qt qu qv qw qx qy qz va vc vd ve vf vg vh vj vk vl vm vn vo vp vq vr vt vu vv vw vx hA=>?_
 iterate 2 (try cbv;repeat ((first | with_reducible apply next_at hA | refine call_at hA _ hr rfl ?_ | refine calm_at hA _ hr ?_ | (refine callo_at hA [0,1] h1 ⟨rfl,rfl,rfl,rfl,rfl,rfl,rfl⟩ ?_;rintro _ _ ⟨rfl,rfl⟩) | (refine callo_at hA [0,1] h2 ⟨rfl,rfl,rfl,rfl,rfl,rfl,rfl⟩ ?_;rintro _ _ ⟨rfl,rfl⟩) | (refine callo_at hA [0,1] h3 ⟨rfl,rfl,rfl,rfl,rfl,rfl,rfl⟩ ?_;rintro _ _ ⟨rfl,rfl⟩) | (refine callo_at hA [0,1] h4 ⟨rfl,rfl,rfl,rfl,rfl,rfl,rfl⟩ ?_;rintro _ _ ⟨rfl,rfl⟩) | (refine callo_at hA [0,1] h5 ⟨rfl,rfl,rfl,rfl,rfl,rfl,rfl⟩ ?_;rintro _ _ ⟨rfl,rfl⟩) | (refine callo_at hA [0,1] hw ⟨rfl,rfl,rfl,rfl,rfl,rfl,rfl⟩ ?_;rintro _ _ ⟨rfl,rfl⟩) | (refine callo_at hA [0,1] hn ⟨rfl,rfl,rfl,rfl,rfl,rfl,rfl⟩ ?_;rintro _ _ ⟨rfl,rfl⟩));cbv))
 try simp (maxSteps:=4000000) only [nc] at *
 exact keep_is hA [0,1] ⟨rfl,rfl,rfl,rfl,rfl,rfl,rfl,rfl⟩ ⟨rfl,rfl⟩
theorem atom_vnt {t:Ty} (ht:t.parts.length ≤ 1048576) (h1:SkN T gInt false e q a e q a) (h2:SkN T gBool false e q a e q a) (h3:SkN T gDyn false e q a e q a) (h4:SkN T gOpen false e q a e q a) (h5:SkN T gRec false e q a e q a) (h6:SkN T gVnt true e q a e1 q1 a1) (hw:TyN 85 T L (ofD (cT t)) e1 q1 a1 e2 q2 a2) (hn:WaN T gVntE e2 q2 a2 e3 q3 a3):TyN 63 T L (ofD (cT (.mk 6 noS 0 [t]))) e q a e3 q3 a3:=by
 have hr:=Vnt_s t ht
 obtain ⟨c0,c1,c2,c3,hc⟩:=cT_four t
 obtain ⟨d0,d1,d2,d3,hd⟩:=cT_four (.mk 6 noS 0 [t])
 rw [hc] at hw hr
 rw [hd] at hr ⊢
 refine speco_of Tryz.func63 rfl (by kernel_rfl) (by kernel_rfl) (by kernel_rfl) fun qa qb qc qd qe qg qh qi qj qk ql qm qo qp qq qt qu qv qw qx qy qz va vc vd ve vf vg vh vj vk vl vm vn vo vp vq vr vt vu vv vw vx hA=>?_
 iterate 2 (try cbv;repeat ((first | with_reducible apply next_at hA | refine call_at hA _ hr rfl ?_ | refine calm_at hA _ hr ?_ | (refine callo_at hA [0,1] h1 ⟨rfl,rfl,rfl,rfl,rfl,rfl,rfl⟩ ?_;rintro _ _ ⟨rfl,rfl⟩) | (refine callo_at hA [0,1] h2 ⟨rfl,rfl,rfl,rfl,rfl,rfl,rfl⟩ ?_;rintro _ _ ⟨rfl,rfl⟩) | (refine callo_at hA [0,1] h3 ⟨rfl,rfl,rfl,rfl,rfl,rfl,rfl⟩ ?_;rintro _ _ ⟨rfl,rfl⟩) | (refine callo_at hA [0,1] h4 ⟨rfl,rfl,rfl,rfl,rfl,rfl,rfl⟩ ?_;rintro _ _ ⟨rfl,rfl⟩) | (refine callo_at hA [0,1] h5 ⟨rfl,rfl,rfl,rfl,rfl,rfl,rfl⟩ ?_;rintro _ _ ⟨rfl,rfl⟩) | (refine callo_at hA [0,1] h6 ⟨rfl,rfl,rfl,rfl,rfl,rfl,rfl⟩ ?_;rintro _ _ ⟨rfl,rfl⟩) | (refine callo_at hA [0,1] hw ⟨rfl,rfl,rfl,rfl,rfl,rfl,rfl⟩ ?_;rintro _ _ ⟨rfl,rfl⟩) | (refine callo_at hA [0,1] hn ⟨rfl,rfl,rfl,rfl,rfl,rfl,rfl⟩ ?_;rintro _ _ ⟨rfl,rfl⟩));cbv))
 try simp (maxSteps:=4000000) only [nc] at *
 exact keep_is hA [0,1] ⟨rfl,rfl,rfl,rfl,rfl,rfl,rfl,rfl⟩ ⟨rfl,rfl⟩
theorem atom_none (h1:SkN T gInt false e q a e q a) (h2:SkN T gBool false e q a e q a) (h3:SkN T gDyn false e q a e q a) (h4:SkN T gOpen false e q a e q a) (h5:SkN T gRec false e q a e q a) (h6:SkN T gVnt false e q a e q a) (hf:FaN T 5 e q a e1 q1 a1):TyN 63 T L (ofD (cT zeroTy)) e q a e1 q1 a1:=by
 unfold TyN
 rw [zero_c]
 refine SpecO.nil4 ?_
 refine speco_of Tryz.func63 rfl (by kernel_rfl) (by kernel_rfl) (by kernel_rfl) fun qa qb qc qd qe qg qh qi qj qk ql qm qo qp qq qt qu qv qw qx qy qz va vc vd ve vf vg vh vj vk vl vm vn vo vp vq vr vt vu vv vw vx hA=>?_
 iterate 2 (try cbv;repeat ((first | with_reducible apply next_at hA | (refine callo_at hA [0,1] h1 ⟨rfl,rfl,rfl,rfl,rfl,rfl,rfl⟩ ?_;rintro _ _ ⟨rfl,rfl⟩) | (refine callo_at hA [0,1] h2 ⟨rfl,rfl,rfl,rfl,rfl,rfl,rfl⟩ ?_;rintro _ _ ⟨rfl,rfl⟩) | (refine callo_at hA [0,1] h3 ⟨rfl,rfl,rfl,rfl,rfl,rfl,rfl⟩ ?_;rintro _ _ ⟨rfl,rfl⟩) | (refine callo_at hA [0,1] h4 ⟨rfl,rfl,rfl,rfl,rfl,rfl,rfl⟩ ?_;rintro _ _ ⟨rfl,rfl⟩) | (refine callo_at hA [0,1] h5 ⟨rfl,rfl,rfl,rfl,rfl,rfl,rfl⟩ ?_;rintro _ _ ⟨rfl,rfl⟩) | (refine callo_at hA [0,1] h6 ⟨rfl,rfl,rfl,rfl,rfl,rfl,rfl⟩ ?_;rintro _ _ ⟨rfl,rfl⟩) | (refine callo_at hA [0,1] hf ⟨rfl,rfl,rfl,rfl,rfl,rfl,rfl⟩ ?_;rintro _ _ ⟨rfl,rfl⟩));cbv))
 try simp (maxSteps:=4000000) only [nc] at *
 exact keep_is hA [0,1] ⟨rfl,rfl,rfl,rfl,rfl,rfl,rfl,rfl⟩ ⟨rfl,rfl⟩
end
end
section
section
variable {T:List (List D)} {L e q a e1 q1 a1 e2 q2 a2 e3 q3 a3:Int}
theorem whole_atom {t:Ty} (hL2:L ≤ 200) (h1:TyN 63 T L (ofD (cT t)) 0 q a e1 q1 a1) (h2:SkN T gTo false e1 q1 a1 e1 q1 a1):TyN 38 T L (ofD (cT t)) 0 q a e1 q1 a1:=by
 obtain ⟨c0,c1,c2,c3,hc⟩:=cT_four t
 rw [hc] at h1 ⊢
 refine speco_of Tryz.func38 rfl (by kernel_rfl) (by kernel_rfl) (by kernel_rfl) fun qa qb qc qd qe qg qh qi qj qk ql qm qo qp qq qt qu qv qw qx qy qz va vc vd ve vf vg vh vj vk vl vm vn vo vp vq vr vt vu vv vw vx hA=>?_
 obtain ⟨ee1,ee2,e3,e4,e5,e6,e7,e8,e9⟩:=ar_at hA
 have g1:qk 0 0 = true:=by rw [e9];rfl
 have g2:qi 200 L = false:=by rw [e7];exact decide_eq_false (by omega)
 iterate 2 (try cbv;repeat ((first | with_reducible apply next_at hA | rw [g1] | rw [g2] | (refine callo_at hA [0,1] h1 ⟨rfl,rfl,rfl,rfl,rfl,rfl,rfl⟩ ?_;rintro _ _ ⟨rfl,rfl⟩) | (refine callo_at hA [0,1] h2 ⟨rfl,rfl,rfl,rfl,rfl,rfl,rfl⟩ ?_;rintro _ _ ⟨rfl,rfl⟩));cbv))
 try simp (maxSteps:=4000000) only [nc] at *
 exact keep_is hA [0,1] ⟨rfl,rfl,rfl,rfl,rfl,rfl,rfl,rfl⟩ ⟨rfl,rfl⟩
theorem whole_fun {t u:Ty} (ht:t.parts.length ≤ 1048576) (hu:u.parts.length ≤ 1048576) (hL1:0 ≤ L) (hL2:L ≤ 200) (h1:TyN 63 T L (ofD (cT t)) 0 q a e1 q1 a1) (h2:SkN T gTo true e1 q1 a1 e2 q2 a2) (h3:TyN 38 T (L + 1) (ofD (cT u)) e2 q2 a2 e3 q3 a3):TyN 38 T L (ofD (cT (.mk 4 noS 0 [t,u]))) 0 q a e3 q3 a3:=by
 have hf:=Fun_s t u ht hu
 obtain ⟨c0,c1,c2,c3,hc⟩:=cT_four t
 obtain ⟨b0,b1,b2,b3,hb⟩:=cT_four u
 obtain ⟨d0,d1,d2,d3,hd⟩:=cT_four (.mk 4 noS 0 [t,u])
 rw [hc] at h1 hf
 rw [hb] at h3 hf
 rw [hd] at hf ⊢
 obtain ⟨L1,hL⟩:∃ L1,L1 = L + 1:=⟨_,rfl⟩
 rw [← hL] at h3
 have h3b:=SpecO.box h3 rfl
 refine speco_of Tryz.func38 rfl (by kernel_rfl) (by kernel_rfl) (by kernel_rfl) fun qa qb qc qd qe qg qh qi qj qk ql qm qo qp qq qt qu qv qw qx qy qz va vc vd ve vf vg vh vj vk vl vm vn vo vp vq vr vt vu vv vw vx hA=>?_
 obtain ⟨ee1,ee2,e3,e4,e5,e6,e7,e8,e9⟩:=ar_at hA
 have g1:qk 0 0 = true:=by rw [e9];rfl
 have g2:qi 200 L = false:=by rw [e7];exact decide_eq_false (by omega)
 have g3:qa .i64 (qb L 1) = L1:=by rw [ee1,ee2,IntWalk.i64_in _ (by omega)];exact hL.symm
 iterate 2 (try cbv;repeat ((first | with_reducible apply next_at hA | rw [g1] | rw [g2] | rw [g3] | refine call_at hA _ hf rfl ?_ | refine calm_at hA _ hf ?_ | (refine callo_at hA [0,1] h1 ⟨rfl,rfl,rfl,rfl,rfl,rfl,rfl⟩ ?_;rintro _ _ ⟨rfl,rfl⟩) | (refine callo_at hA [0,1] h2 ⟨rfl,rfl,rfl,rfl,rfl,rfl,rfl⟩ ?_;rintro _ _ ⟨rfl,rfl⟩) | (refine callx_at hA [0,1] h3b ⟨rfl,rfl,rfl,rfl,rfl,rfl,rfl⟩ ?_;rintro _ _ ⟨rfl,rfl⟩;refine ⟨?_,?_⟩;exact keepsL_cons (fun k hk=>by injection hk with hk;subst hk;rfl) (keepsL_nil _ _ _)));cbv))
 try simp (maxSteps:=4000000) only [nc] at *
 exact keep_is hA [0,1] ⟨rfl,rfl,rfl,rfl,rfl,rfl,rfl,rfl⟩ ⟨rfl,rfl⟩
theorem field_none {s0:ByteArray} {k n0 p0:Int} (hk:k ≠ 1) (hp:SpecS 19 [.ptr 0 0] [.box [.d (.sl 4 T),.d (.sc (.int .i64 a))]] (fun res os=>res = [.ag [.d (.sc (.int .u8 k)),.d (.sc (.string s0)),.d (.sc (.int .i64 n0)),.d (.sc (.int .i64 p0))]] ∧ os = [.box [.d (.sl 4 T),.d (.sc (.int .i64 a))]])) (hf:FaN T 5 e q a e1 q1 a1) :
  TyN 103 T L [.d (.sc (.string noS)),.d (.sc (.int .u8 0)),.d (.sc (.string noS)),.d (.sc (.int .i64 0)),.em] e q a e1 q1 a1:=by
 refine speco_of Tryz.func103 rfl (by kernel_rfl) (by kernel_rfl) (by kernel_rfl) fun qa qb qc qd qe qg qh qi qj qk ql qm qo qp qq qt qu qv qw qx qy qz va vc vd ve vf vg vh vj vk vl vm vn vo vp vq vr vt vu vv vw vx hA=>?_
 obtain ⟨ee1,ee2,e3,e4,e5,e6,e7,e8,e9⟩:=ar_at hA
 have g1:qk k 1 = false:=by rw [e9];exact decide_eq_false hk
 iterate 2 (try cbv;repeat ((first | with_reducible apply next_at hA | rw [g1] | (refine rd_at hA [1] hp ⟨rfl,rfl,rfl,rfl,rfl,rfl,rfl⟩ rfl ?_;rintro _ rfl) | (refine callo_at hA [0,1] hf ⟨rfl,rfl,rfl,rfl,rfl,rfl,rfl⟩ ?_;rintro _ _ ⟨rfl,rfl⟩));cbv))
 try simp (maxSteps:=4000000) only [nc] at *
 exact keep_is hA [0,1] ⟨rfl,rfl,rfl,rfl,rfl,rfl,rfl,rfl⟩ ⟨rfl,rfl⟩
theorem field_some {s0:ByteArray} {n0 p0:Int} {t:Ty} (hL1:0 ≤ L) (hL2:L ≤ 1048576) (hp:SpecS 19 [.ptr 0 0] [.box [.d (.sl 4 T),.d (.sc (.int .i64 a))]] (fun res os=>res = [.ag [.d (.sc (.int .u8 1)),.d (.sc (.string s0)),.d (.sc (.int .i64 n0)),.d (.sc (.int .i64 p0))]] ∧ os = [.box [.d (.sl 4 T),.d (.sc (.int .i64 a))]]))
  (hq:SpecO 105 [.ptr 0 0] [.box [.d (.sl 4 T),.d (.sc (.int .i64 a))]] (fun res os=>res = [.ag [.d (.sc (.int .u8 1)),.d (.sc (.string s0)),.d (.sc (.int .i64 n0)),.d (.sc (.int .i64 p0))]] ∧ os = [.box [.d (.sl 4 T),.d (.sc (.int .i64 a1))]]))
  (hn:WaN T gColon e q a1 e2 q2 a2) (hw:TyN 38 T (L + 1) (ofD (cT t)) e2 q2 a2 e3 q3 a3) :
  TyN 103 T L (.d (.sc (.string s0)) :: ofD (cT t)) e q a e3 q3 a3:=by
 obtain ⟨c0,c1,c2,c3,hc⟩:=cT_four t
 rw [hc] at hw ⊢
 obtain ⟨L1,hL⟩:∃ L1,L1 = L + 1:=⟨_,rfl⟩
 rw [← hL] at hw
 refine speco_of Tryz.func103 rfl (by kernel_rfl) (by kernel_rfl) (by kernel_rfl) fun qa qb qc qd qe qg qh qi qj qk ql qm qo qp qq qt qu qv qw qx qy qz va vc vd ve vf vg vh vj vk vl vm vn vo vp vq vr vt vu vv vw vx hA=>?_
 obtain ⟨ee1,ee2,e3,e4,e5,e6,e7,e8,e9⟩:=ar_at hA
 have g1:qk 1 1 = true:=by rw [e9];rfl
 have g3:qa .i64 (qb L 1) = L1:=by rw [ee1,ee2,IntWalk.i64_in _ (by omega)];exact hL.symm
 iterate 2 (try cbv;repeat ((first | with_reducible apply next_at hA | rw [g1] | rw [g3] | (refine rd_at hA [1] hp ⟨rfl,rfl,rfl,rfl,rfl,rfl,rfl⟩ rfl ?_;rintro _ rfl) | (refine callo_at hA [1] hq ⟨rfl,rfl,rfl,rfl,rfl,rfl,rfl⟩ ?_;rintro _ _ ⟨rfl,rfl⟩) | (refine callo_at hA [0,1] hn ⟨rfl,rfl,rfl,rfl,rfl,rfl,rfl⟩ ?_;rintro _ _ ⟨rfl,rfl⟩) | (refine callo_at hA [0,1] hw ⟨rfl,rfl,rfl,rfl,rfl,rfl,rfl⟩ ?_;rintro _ _ ⟨rfl,rfl⟩));cbv))
 try simp (maxSteps:=4000000) only [nc] at *
 exact keep_is hA [0,1] ⟨rfl,rfl,rfl,rfl,rfl,rfl,rfl,rfl⟩ ⟨rfl,rfl⟩
end
end
def cQ (ts:List Tok) (p:PE):Int:=if p.2 = 0 then 0 else (tkA ts p.1).at_
theorem cQ_0 (ts:List Tok) {p:PE} (h:p.2 = 0):cQ ts p = 0:=if_pos h
theorem cQ_1 (ts:List Tok) {p:PE} (h:p.2 ≠ 0):cQ ts p = (tkA ts p.1).at_:=if_neg h
abbrev TyS (f:Nat) (ts:List Tok) (L:Int) (x:List V) (p p':PE):Prop:=TyN f (rTk ts) L x p.2 (cQ ts p) (p.1:Int) p'.2 (cQ ts p') (p'.1:Int)
theorem skip_s (ts:List Tok) (hl:ts.length ≤ 1048576) (s:ByteArray) (p:PE) (hp:p.1 < ts.length):SkN (rTk ts) s (skB ts s p) p.2 (cQ ts p) (p.1:Int) (skP ts s p).2 (cQ ts (skP ts s p)) ((skP ts s p).1:Int):=by
 by_cases h0:p.2 = 0
 ·have h1:=skip_ok ts _ p.1 (tkA_is hp) hl s
  unfold eyB at h1
  have e1:skB ts s p = isG (tkA ts p.1) s:=by unfold skB;rw [h0];rfl
  unfold skP
  rw [e1,h0,cQ_0 ts h0]
  by_cases hb:isG (tkA ts p.1) s = true
  ·rw [if_pos hb] at h1 ⊢
   exact h1
  ·rw [if_neg hb] at h1 ⊢
   rw [h0,cQ_0 ts h0]
   exact h1
 ·have h1:=skip_err (rTk ts) p.2 (cQ ts p) (p.1:Int) h0 s
  unfold eyB at h1
  have e1:skB ts s p = false:=by unfold skB;rw [beq_false_of_ne h0];rfl
  unfold skP
  rw [e1,if_neg (by decide)]
  exact h1
theorem skip_yes {ts:List Tok} (hl:ts.length ≤ 1048576) {s:ByteArray} {p:PE} (hp:p.1 < ts.length) (h:skB ts s p = true):SkN (rTk ts) s true p.2 (cQ ts p) (p.1:Int) 0 0 ((p.1 + 1:Nat):Int):=by
 have h1:=skip_s ts hl s p hp
 unfold skP at h1
 rw [h,if_pos rfl] at h1
 exact h1
theorem skip_no {ts:List Tok} (hl:ts.length ≤ 1048576) {s:ByteArray} {p:PE} (hp:p.1 < ts.length) (h:¬ skB ts s p = true):SkN (rTk ts) s false p.2 (cQ ts p) (p.1:Int) p.2 (cQ ts p) (p.1:Int):=by
 have h1:=skip_s ts hl s p hp
 unfold skP at h1
 rw [if_neg h,show skB ts s p = false from Bool.eq_false_iff.2 h] at h1
 exact h1
theorem want_s (ts:List Tok) (hl:ts.length ≤ 1048576) (s:ByteArray) (p:PE) (hp:p.1 < ts.length):WaN (rTk ts) s p.2 (cQ ts p) (p.1:Int) (wantP ts s p).2 (cQ ts (wantP ts s p)) ((wantP ts s p).1:Int):=by
 by_cases h0:p.2 = 0
 ·have h1:=want_ok ts _ p.1 (tkA_is hp) hl s
  unfold wantP
  rw [if_neg (fun h=>h h0),h0,cQ_0 ts h0]
  by_cases hb:isG (tkA ts p.1) s = true
  ·rw [if_pos hb] at h1 ⊢
   unfold eyB at h1
   exact h1
  ·rw [if_neg hb] at h1 ⊢
   unfold eyB at h1
   exact h1
 ·have h1:=want_err (rTk ts) p.2 (cQ ts p) (p.1:Int) h0 s
  unfold eyB at h1
  unfold wantP
  rw [if_pos h0]
  exact h1
theorem fail_s (ts:List Tok) (hl:ts.length ≤ 1048576) (c:Int) (hc:c ≠ 0) (p:PE) (hp:p.1 < ts.length):FaN (rTk ts) c p.2 (cQ ts p) (p.1:Int) (failP c p).2 (cQ ts (failP c p)) ((failP c p).1:Int):=by
 by_cases h0:p.2 = 0
 ·have h1:=fail_ok ts _ p.1 (tkA_is hp) hl c
  unfold eyB at h1
  unfold failP
  rw [if_neg (fun h=>h h0),h0,cQ_0 ts h0,cQ_1 ts (p:=(p.1,c)) hc]
  exact h1
 ·have h1:=fail_err (rTk ts) p.2 (cQ ts p) (p.1:Int) c h0
  unfold eyB at h1
  unfold failP
  rw [if_pos h0]
  exact h1
theorem nil5 {I:Nat → Nat → Prop} {w:World} {g:Nat → Value} {us:List Value} {n a b c:V} {z:Nat} (h:AtVs I w g us [.ag [n,a,b,c,.em]]):AtVs I w g us [.ag [n,a,b,c,.d (.sl z [])]] :=
 h.reset (i:=0) fun v hv=>by
  have h4:=h.2 0 v _ hv rfl
  obtain ⟨ks,rfl,h5⟩:=h4.unag
  exact atV_ag (h5.reset (i:=4) fun v hv=>by rw [(h5.2 4 v _ hv rfl).unem];exact .d (.nil _ _ _))
theorem field_s {ts:List Tok} (hE:EndsT ts) (hl:ts.length ≤ 1048576) {rd:PE → Ty × PE} {L:Int} (hL1:0 ≤ L) (hL2:L ≤ 1048576) (hr:FitR ts rd) (hw:∀ q:PE,q.1 < ts.length → TyS 38 ts (L + 1) (ofD (cT (rd q).1)) q (rd q).2) (a:Nat) (hp:a < ts.length) :
  TyS 103 ts L (.d (.sc (.string (fieldW rd ts (a,0)).1.1)) :: ofD (cT (fieldW rd ts (a,0)).1.2)) (a,0) (fieldW rd ts (a,0)).2:=by
 have hpk:=Peek_s ts _ a (tkA_is hp) hl
 unfold rdB tkD at hpk
 unfold fieldW
 by_cases hk:(tkA ts a).kind = 1
 ·rw [if_neg (fun h=>h hk)]
  have h1:=hE _ hp (by rw [hk];decide)
  have hq:=Take_s ts _ a (tkA_is hp) hl
  unfold rdB tkD at hq
  rw [hk] at hpk hq
  have hn:=want_s ts hl gColon (a + 1,0) h1
  obtain ⟨w1,w2,w3⟩:=wantP_lt (s:=gColon) (p:=(a + 1,0)) hE h1
  have hwh:=hw _ w1
  exact field_some hL1 hL2 hpk hq hn hwh
 ·rw [if_pos hk]
  have hf:=fail_s ts hl 5 (by decide) (a,0) hp
  have h1:=field_none (L:=L) hk hpk hf
  unfold TyS TyN
  rw [zero_c]
  exact SpecO.reread h1 fun res os2 ⟨e1,e2⟩=>⟨_,⟨rfl,e2⟩,fun I w g us hv=>nil5 (e1 ▸ hv)⟩
theorem atom_s {ts:List Tok} (hE:EndsT ts) (hl:ts.length ≤ 65537) {rd:PE → Ty × PE} {L:Int} (hL1:0 ≤ L) (hL2:L ≤ 1048576) (hr:FitR ts rd) (hw:∀ q:PE,q.1 < ts.length → TyS 38 ts (L + 1) (ofD (cT (rd q).1)) q (rd q).2)
  (hrow:∀ a:Nat,a < ts.length → TyS 85 ts L (ofD (cT (rowR rd ts (a,0)).1)) (a,0) (rowR rd ts (a,0)).2) (p:PE) (hp:p.1 < ts.length) :
  TyS 63 ts L (ofD (cT (atomW rd ts p).1)) p (atomW rd ts p).2:=by
 have hl2:ts.length ≤ 1048576:=by omega
 unfold atomW
 by_cases h1:skB ts gInt p = true
 ·rw [if_pos h1];exact atom_int (skip_yes hl2 hp h1)
 rw [if_neg h1]
 have n1:=skip_no hl2 hp h1
 by_cases h2:skB ts gBool p = true
 ·rw [if_pos h2];exact atom_bool n1 (skip_yes hl2 hp h2)
 rw [if_neg h2]
 have n2:=skip_no hl2 hp h2
 by_cases h3:skB ts gDyn p = true
 ·rw [if_pos h3];exact atom_dyn n1 n2 (skip_yes hl2 hp h3)
 rw [if_neg h3]
 have n3:=skip_no hl2 hp h3
 by_cases h4:skB ts gOpen p = true
 ·rw [if_pos h4]
  have s2:=(skB_at hE hp h4).2
  exact atom_open hL1 hL2 n1 n2 n3 (skip_yes hl2 hp h4) (hw (p.1 + 1,0) s2) (want_s ts hl2 gShut _ (hr (p.1 + 1,0) s2).1.hi)
 rw [if_neg h4]
 have n4:=skip_no hl2 hp h4
 have hbig:∀ a:Nat,a < ts.length → (rowR rd ts (a,0)).1.parts.length ≤ 1048576 ∧ (rowR rd ts (a,0)).2.1 < ts.length:=fun a ha=>by
  obtain ⟨f1,f2,f3,f4,f5⟩:=fit_row hE hr (a,0) ha
  exact ⟨by omega,f2⟩
 by_cases h5:skB ts gRec p = true
 ·rw [if_pos h5]
  have s2:=(skB_at hE hp h5).2
  exact atom_rec (hbig _ s2).1 n1 n2 n3 n4 (skip_yes hl2 hp h5) (hrow (p.1 + 1) s2) (want_s ts hl2 gRecE _ (hbig _ s2).2)
 rw [if_neg h5]
 have n5:=skip_no hl2 hp h5
 by_cases h6:skB ts gVnt p = true
 ·rw [if_pos h6]
  have s2:=(skB_at hE hp h6).2
  exact atom_vnt (hbig _ s2).1 n1 n2 n3 n4 n5 (skip_yes hl2 hp h6) (hrow (p.1 + 1) s2) (want_s ts hl2 gVntE _ (hbig _ s2).2)
 rw [if_neg h6]
 exact atom_none n1 n2 n3 n4 n5 (skip_no hl2 hp h6) (fail_s ts hl2 5 (by decide) p hp)
def RowEnd (T:List (List D)) (y:List D) (ef qf af:Int) (e q a:Int) (R:List (List D)):Prop :=
 (SkN T gBar false e q a ef qf af ∧ Spec 75 [.one (.sl 5 R),.ag (lf0 8)] [.ag y]) ∨
 (∃ e1 q1 a1,SkN T gBar true e q a e1 q1 a1 ∧ WaN T gDyn e1 q1 a1 ef qf af ∧ Spec 75 [.one (.sl 5 R),.ag (lf0 9)] [.ag y])
theorem row_none {T:List (List D)} {L e q a ef qf af:Int} {y0 y1 y2 y3:D} {s0:ByteArray} {k n0 p0:Int} (hk:k ≠ 1) (hp:SpecS 19 [.ptr 0 0] [.box [.d (.sl 4 T),.d (.sc (.int .i64 a))]] (fun res os=>res = [.ag [.d (.sc (.int .u8 k)),.d (.sc (.string s0)),.d (.sc (.int .i64 n0)),.d (.sc (.int .i64 p0))]] ∧ os = [.box [.d (.sl 4 T),.d (.sc (.int .i64 a))]]))
  (hend:RowEnd T [y0,y1,y2,y3] ef qf af e q a []):TyN 85 T L [.d y0,.d y1,.d y2,.d y3] e q a ef qf af:=by
 unfold RowEnd at hend
 refine speco_of Tryz.func85 rfl (by kernel_rfl) (by kernel_rfl) (by kernel_rfl) fun qa qb qc qd qe qg qh qi qj qk ql qm qo qp qq qt qu qv qw qx qy qz va vc vd ve vf vg vh vj vk vl vm vn vo vp vq vr vt vu vv vw vx hA=>?_
 obtain ⟨ee1,ee2,e3,e4,e5,e6,e7,e8,e9⟩:=ar_at hA
 have g1:qk k 1 = false:=by rw [e9];exact decide_eq_false hk
 cbv
 with_reducible apply next_at hA
 cbv
 refine own_at hA 5 85 true rfl ?_
 cbv
 rcases hend with ⟨hb,hj⟩ | ⟨e1,q1,a1,hb,hn,hj⟩
 ·unfold lf0 at hj
  iterate 2 (try cbv;repeat ((first | with_reducible apply next_at hA | rw [g1] | refine call_at hA _ hj rfl ?_ | refine calm_at hA _ hj ?_ | (refine rd_at hA [1] hp ⟨rfl,rfl,rfl,rfl,rfl,rfl,rfl⟩ rfl ?_;rintro _ rfl) | (refine callo_at hA [0,1] hb ⟨rfl,rfl,rfl,rfl,rfl,rfl,rfl⟩ ?_;rintro _ _ ⟨rfl,rfl⟩));cbv))
  try simp (maxSteps:=4000000) only [nc] at *
  exact keep_is hA [0,1] ⟨rfl,rfl,rfl,rfl,rfl,rfl,rfl,rfl⟩ ⟨rfl,rfl⟩
 ·unfold lf0 at hj
  iterate 2 (try cbv;repeat ((first | with_reducible apply next_at hA | rw [g1] | refine call_at hA _ hj rfl ?_ | refine calm_at hA _ hj ?_ | (refine rd_at hA [1] hp ⟨rfl,rfl,rfl,rfl,rfl,rfl,rfl⟩ rfl ?_;rintro _ rfl) | (refine callo_at hA [0,1] hb ⟨rfl,rfl,rfl,rfl,rfl,rfl,rfl⟩ ?_;rintro _ _ ⟨rfl,rfl⟩) | (refine callo_at hA [0,1] hn ⟨rfl,rfl,rfl,rfl,rfl,rfl,rfl⟩ ?_;rintro _ _ ⟨rfl,rfl⟩));cbv))
  try simp (maxSteps:=4000000) only [nc] at *
  exact keep_is hA [0,1] ⟨rfl,rfl,rfl,rfl,rfl,rfl,rfl,rfl⟩ ⟨rfl,rfl⟩
theorem row_some {T:List (List D)} {L e q a ef qf af:Int} {y0 y1 y2 y3:D} {s0:ByteArray} {n0 p0:Int} (hp:SpecS 19 [.ptr 0 0] [.box [.d (.sl 4 T),.d (.sc (.int .i64 a))]] (fun res os=>res = [.ag [.d (.sc (.int .u8 1)),.d (.sc (.string s0)),.d (.sc (.int .i64 n0)),.d (.sc (.int .i64 p0))]] ∧ os = [.box [.d (.sl 4 T),.d (.sc (.int .i64 a))]]))
  {f0 f1 f2 f3 f4:D} {es qs as0:Int} {m0:Nat} (inv:Int → Int → Int → List (List D) → Nat → Prop)
  (hf:TyN 103 T L [.d f0,.d f1,.d f2,.d f3,.d f4] e q a es qs as0) (h0:inv es qs as0 [[f0,f1,f2,f3,f4]] m0)
  (hst:∀ (e q a:Int) (R:List (List D)) (m:Nat),inv e q a R m → R.length < 1048576 ∧ ((∃ (e1 q1 a1:Int) (c0 c1 c2 c3 c4:D) (e2 q2 a2:Int) (m2:Nat),SkN T gComma true e q a e1 q1 a1 ∧ TyN 103 T L [.d c0,.d c1,.d c2,.d c3,.d c4] e1 q1 a1 e2 q2 a2 ∧ inv e2 q2 a2 (R ++ [[c0,c1,c2,c3,c4]]) m2 ∧ m2 < m)
   ∨ (SkN T gComma false e q a e q a ∧ RowEnd T [y0,y1,y2,y3] ef qf af e q a R))):TyN 85 T L [.d y0,.d y1,.d y2,.d y3] e q a ef qf af:=by
 refine speco_of Tryz.func85 rfl (by kernel_rfl) (by kernel_rfl) (by kernel_rfl) fun qa qb qc qd qe qg qh qi qj qk ql qm qo qp qq qt qu qv qw qx qy qz va vc vd ve vf vg vh vj vk vl vm vn vo vp vq vr vt vu vv vw vx hA=>?_
 obtain ⟨ee1,ee2,e3,e4,e5,e6,e7,e8,e9⟩:=ar_at hA
 obtain ⟨r1,r2,r3,r4⟩:=row_at hA
 have g1:qk 1 1 = true:=by rw [e9];rfl
 have g2:ve [] [[f0,f1,f2,f3,f4]] = [[f0,f1,f2,f3,f4]]:=by rw [r4];rfl
 cbv
 with_reducible apply next_at hA
 cbv
 refine own_at hA 5 85 true rfl ?_
 cbv
 iterate 2 (try cbv;repeat ((first | with_reducible apply next_at hA | rw [g1] | rw [g2] | (refine rd_at hA [1] hp ⟨rfl,rfl,rfl,rfl,rfl,rfl,rfl⟩ rfl ?_;rintro _ rfl) | (refine callo_at hA [0,1] hf ⟨rfl,rfl,rfl,rfl,rfl,rfl,rfl⟩ ?_;rintro _ _ ⟨rfl,rfl⟩) | refine lit_at hA true ?_ | refine room_at hA (by simp) ?_);cbv))
 try simp (maxSteps:=4000000) only [nc] at *
 refine loop_at hA (γ:=(Int × Int × Int) × List (List D) × Nat) (fun x=>[(5,.own 3),(19,.jk)]) (fun x=>[(0,.box [.ptr 1 0,.d (.sc (.int .u8 x.1.1)),.d (.sc (.int .i64 x.1.2.1))]),(1,.box [.d (.sl 4 T),.d (.sc (.int .i64 x.1.2.2))]),(3,.row true 85 x.2.1)]) (fun x=>inv x.1.1 x.1.2.1 x.1.2.2 x.2.1 x.2.2) (fun x=>x.2.2) ((es,qs,as0),[[f0,f1,f2,f3,f4]],m0) ?_ ?_ ?_
 ·exact h0
 ·cbv
 ·intro x hinv
  obtain ⟨⟨e,q,a⟩,R,m⟩:=x
  obtain ⟨hlen,hs⟩:=hst e q a R m hinv
  rcases hs with ⟨e1,q1,a1,c0,c1,c2,c3,c4,e2,q2,a2,m2,hc,hf2,hi2,hm2⟩ | ⟨hc,hend⟩
  ·have g3:ve R [[c0,c1,c2,c3,c4]] = R ++ [[c0,c1,c2,c3,c4]]:=by rw [r4]
   obtain ⟨R2,hR2⟩:∃ R2,R2 = R ++ [[c0,c1,c2,c3,c4]]:=⟨_,rfl⟩
   rw [← hR2] at g3 hi2
   iterate 2 (try cbv;repeat ((first | with_reducible apply next_at hA | rw [g3] | (refine callo_at hA [0,1] hc ⟨rfl,rfl,rfl,rfl,rfl,rfl,rfl⟩ ?_;rintro _ _ ⟨rfl,rfl⟩) | (refine callo_at hA [0,1] hf2 ⟨rfl,rfl,rfl,rfl,rfl,rfl,rfl⟩ ?_;rintro _ _ ⟨rfl,rfl⟩) | refine lit_at hA true ?_ | (refine room_at hA (by simp only [List.length_cons,List.length_nil];omega) ?_));cbv))
   try simp (maxSteps:=4000000) only [nc] at *
   refine ⟨((e2,q2,a2),R2,m2),hi2,hm2,?_⟩
   cbv
  ·unfold RowEnd at hend
   rcases hend with ⟨hb,hj⟩ | ⟨e1,q1,a1,hb,hn,hj⟩
   ·unfold lf0 at hj
    iterate 2 (try cbv;repeat ((first | with_reducible apply next_at hA | refine call_at hA _ hj rfl ?_ | refine calm_at hA _ hj ?_ | (refine callo_at hA [0,1] hc ⟨rfl,rfl,rfl,rfl,rfl,rfl,rfl⟩ ?_;rintro _ _ ⟨rfl,rfl⟩) | (refine callo_at hA [0,1] hb ⟨rfl,rfl,rfl,rfl,rfl,rfl,rfl⟩ ?_;rintro _ _ ⟨rfl,rfl⟩));cbv))
    try simp (maxSteps:=4000000) only [nc] at *
    exact keep_is hA [0,1] ⟨rfl,rfl,rfl,rfl,rfl,rfl,rfl,rfl⟩ ⟨rfl,rfl⟩
   ·unfold lf0 at hj
    iterate 2 (try cbv;repeat ((first | with_reducible apply next_at hA | refine call_at hA _ hj rfl ?_ | refine calm_at hA _ hj ?_ | (refine callo_at hA [0,1] hc ⟨rfl,rfl,rfl,rfl,rfl,rfl,rfl⟩ ?_;rintro _ _ ⟨rfl,rfl⟩) | (refine callo_at hA [0,1] hb ⟨rfl,rfl,rfl,rfl,rfl,rfl,rfl⟩ ?_;rintro _ _ ⟨rfl,rfl⟩) | (refine callo_at hA [0,1] hn ⟨rfl,rfl,rfl,rfl,rfl,rfl,rfl⟩ ?_;rintro _ _ ⟨rfl,rfl⟩));cbv))
    try simp (maxSteps:=4000000) only [nc] at *
    exact keep_is hA [0,1] ⟨rfl,rfl,rfl,rfl,rfl,rfl,rfl,rfl⟩ ⟨rfl,rfl⟩
theorem join_like (l:List (ByteArray × Ty)) (op:Int) (hn:l.length ≤ 1048576) (hf:∀ f ∈ l,f.2.parts.length ≤ 1048576):Spec 75 [.one (.sl 5 (rF l)),.ag (lf0 op)] [.ag (cT (rowS l (lfT op)))]:=by
 have h:=Join_s l (lfT op) hn (by rw [leaf_parts];omega) hf
 rw [show cT (lfT op) = [.sc (.int .u8 op),.sc (.string noS),.sc (.int .i64 0),.sl 4 []] by rw [cT,rT]] at h
 exact h.like ⟨.same _,lf0_like op,trivial⟩
theorem rowEnd_s {ts:List Tok} (hE:EndsT ts) (hl:ts.length ≤ 65537) (l:List (ByteArray × Ty)) (q:PE) (hq:q.1 < ts.length) (hn:fldParts l ≤ 1048576) :
  RowEnd (rTk ts) (cT (tlW ts l q).1) (tlW ts l q).2.2 (cQ ts (tlW ts l q).2) ((tlW ts l q).2.1:Int) q.2 (cQ ts q) (q.1:Int) (rF l):=by
 have hl2:ts.length ≤ 1048576:=by omega
 have hfl:=fld_len l
 have hlen:l.length ≤ 1048576:=by omega
 have hfs:∀ f ∈ l,f.2.parts.length ≤ 1048576:=fun f hf=>by have:=hfl.2 f hf;omega
 unfold tlW
 by_cases hb:skB ts gBar q = true
 ·rw [if_pos hb]
  have s2:=(skB_at hE hq hb).2
  exact .inr ⟨_,_,_,skip_yes hl2 hq hb,want_s ts hl2 gDyn (q.1 + 1,0) s2,join_like l 9 hlen hfs⟩
 ·rw [if_neg hb]
  exact .inl ⟨skip_no hl2 hq hb,join_like l 8 hlen hfs⟩
theorem row_s {ts:List Tok} (hE:EndsT ts) (hl:ts.length ≤ 65537) {rd:PE → Ty × PE} {L:Int} (hL1:0 ≤ L) (hL2:L ≤ 1048576) (hr:FitR ts rd) (hw:∀ q:PE,q.1 < ts.length → TyS 38 ts (L + 1) (ofD (cT (rd q).1)) q (rd q).2) (a:Nat) (hp:a < ts.length) :
  TyS 85 ts L (ofD (cT (rowR rd ts (a,0)).1)) (a,0) (rowR rd ts (a,0)).2:=by
 have hl2:ts.length ≤ 1048576:=by omega
 have hpk:=Peek_s ts _ a (tkA_is hp) hl2
 unfold rdB tkD at hpk
 obtain ⟨y0,y1,y2,y3,hy⟩:=cT_four (rowR rd ts (a,0)).1
 have hh:=fit_head hE hr (a,0) hp
 have hend:=rowEnd_s hE hl (headW rd ts (a,0)).1 (headW rd ts (a,0)).2 hh.hi (by have:=hh.sz;have:=hh.hi;omega)
 by_cases hk:(tkA ts a).kind = 1
 ·rw [hk] at hpk
  have hff:=fit_field hE hr (a,0) hp
  have hf:=field_s hE hl2 hL1 hL2 hr hw a hp
  have hhd:headW rd ts (a,0) = fieldsW rd ts ts.length (fieldW rd ts (a,0)).2 [(fieldW rd ts (a,0)).1]:=by unfold headW;rw [if_pos hk]
  obtain ⟨f1,f2,f3,f4,hc⟩:=cT_four (fieldW rd ts (a,0)).1.2
  rw [hc] at hf
  generalize hF:fieldW rd ts (a,0) = F at *
  have e1:fldParts [F.1] = 1 + F.1.2.parts.length:=rfl
  have hfl:FitL ts (a,0) ([F.1],F.2):=⟨hff.lo,hff.hi,by have:=hff.sw hk;show fldParts [F.1] + a ≤ F.2.1 + 1;rw [e1];simp only at this;omega,fun h=>⟨rfl,by have:=(hff.ok h).2;show fldParts [F.1] + a ≤ F.2.1;rw [e1];simp only at this;omega⟩,fun x hx=>by cases List.mem_singleton.1 hx;exact hff.sp⟩
  generalize hH:headW rd ts (a,0) = H at *
  unfold rowR at hy ⊢
  rw [hH] at hy ⊢
  rw [hy] at hend ⊢
  refine row_some (m0:=ts.length) hpk (fun e q z R m=>∃ (p:PE) (l:List (ByteArray × Ty)),e = p.2 ∧ q = cQ ts p ∧ z = (p.1:Int) ∧ R = rF l ∧ FitL ts (a,0) (l,p) ∧ ts.length - p.1 ≤ m ∧ fieldsW rd ts m p l = H) hf ⟨F.2,[F.1],rfl,rfl,rfl,by unfold rF;rw [List.map_cons,hc];rfl,hfl,Nat.sub_le ..,hhd.symm⟩ ?_
  rintro e q z R m ⟨p,l,rfl,rfl,rfl,rfl,hfit,hm,hfin⟩
  have hpi:=hfit.hi
  have hsz:=hfit.sz
  simp only at hpi hsz
  have hll:=(fld_len l).1
  refine ⟨by rw [rF_len];omega,?_⟩
  match m,hm,hfin with
  | 0,hm,hfin=>omega
  | m + 1,hm,hfin =>
   rw [fieldsW] at hfin
   by_cases hb:skB ts gComma p = true
   ·rw [if_pos hb] at hfin
    obtain ⟨s1,s2⟩:=skB_at hE hpi hb
    have hf2:=field_s hE hl2 hL1 hL2 hr hw (p.1 + 1) s2
    have hfg:=fit_fields hE hr (a,0) 1 p l hfit
    have hff2:=fit_field hE hr (p.1 + 1,0) s2
    rw [fieldsW,if_pos hb,fieldsW] at hfg
    obtain ⟨c1,c2,c3,c4,hc2⟩:=cT_four (fieldW rd ts (p.1 + 1,0)).1.2
    rw [hc2] at hf2
    generalize fieldW rd ts (p.1 + 1,0) = G at *
    exact .inl ⟨_,_,_,_,_,_,_,_,_,_,_,m,skip_yes hl2 hpi hb,hf2,⟨G.2,l ++ [G.1],rfl,rfl,rfl,by rw [rF_snoc,hc2],hfg,by have:=hff2.lo;simp only at this;omega,hfin⟩,Nat.lt_succ_self m⟩
   ·rw [if_neg hb] at hfin
    subst hfin
    exact .inr ⟨skip_no hl2 hpi hb,hend⟩
 ·have hhd:headW rd ts (a,0) = ([],(a,0)):=by unfold headW;rw [if_neg hk]
  unfold rowR at hy ⊢
  rw [hhd] at hend hy ⊢
  rw [hy] at hend ⊢
  exact row_none hk hpk hend
def LvOk (n:Nat) (L:Int):Prop:=(n = 0 ∧ 200 < L) ∨ (1 ≤ n ∧ n ≤ 201 ∧ L = 201 - (n:Int))
theorem whole_s {ts:List Tok} (hE:EndsT ts) (hl:ts.length ≤ 65537):∀ (n:Nat) (L:Int),LvOk n L → ∀ p:PE,p.1 < ts.length → TyS 38 ts L (ofD (cT (wholeW ts n p).1)) p (wholeW ts n p).2
 | n,L,hv,p,hp=>by
  have hl2:ts.length ≤ 1048576:=by omega
  by_cases h0:p.2 = 0
  ·rcases hv with ⟨rfl,hL⟩ | ⟨h1,h2,hL⟩
   ·have h:=whole_deep ts _ p.1 (tkA_is hp) hl2 L hL
    unfold eyB at h
    rw [wholeW]
    unfold failP
    rw [if_neg (fun h=>h h0)]
    unfold TyS
    rw [h0,cQ_0 ts h0]
    exact h
   ·obtain ⟨n,rfl⟩:∃ k,n = k + 1:=⟨n - 1,by omega⟩
    have hv2:LvOk n (L + 1):=by
     unfold LvOk
     by_cases hn:n = 0
     ·exact .inl ⟨hn,by omega⟩
     ·exact .inr ⟨by omega,by omega,by omega⟩
    have ih:=whole_s hE hl n (L + 1) hv2
    have hr:=fit_whole hE n
    have ha:=atom_s hE hl (by omega) (by omega) hr ih (row_s hE hl (by omega) (by omega) hr ih) p hp
    have hfa:=fit_atom hE hr p hp
    rw [wholeW,if_neg (fun h=>h h0)]
    unfold TyS at ha ⊢
    rw [h0] at ha ⊢
    by_cases hb:skB ts gTo (atomW (wholeW ts n) ts p).2 = true
    ·rw [if_pos hb]
     have s2:=(skB_at hE hfa.hi hb).2
     have hfu:=(hr ((atomW (wholeW ts n) ts p).2.1 + 1,0) s2).1
     exact whole_fun (by have:=hfa.sz;have:=hfa.hi;omega) (by have:=hfu.sz;have:=hfu.hi;omega) (by omega) (by omega) ha (skip_yes hl2 hfa.hi hb) (ih _ s2)
    ·rw [if_neg hb]
     exact whole_atom (by omega) ha (skip_no hl2 hfa.hi hb)
  ·have h:=whole_err (rTk ts) p.2 (cQ ts p) (p.1:Int) L h0
   unfold eyB at h
   have e:wholeW ts n p = (zeroTy,p):=by
    cases n with
    | zero=>rw [wholeW];unfold failP;rw [if_pos h0]
    | succ n=>rw [wholeW,if_pos h0]
   rw [e]
   exact h
end Go.Proofs.YtahpnackkmbmgaaGreatDoor.Vm
end
section
namespace Go.Proofs.YtahpnackkmbmgaaGreatDoor.Vm
open Go.RowKit
def NoV (t:Ty):Prop:=∀ x ∈ t.parts,x.op ≠ 7 ∧ x.op ≠ 10
def Rt (t:Ty) (s:Int):Prop:=shapeB wordB t s = true ∧ NoV t
theorem noS_nil:noS.toList = []:=by rw [ByteArray.toList_eq]
theorem NoV.mk {op:Int} {nm:ByteArray} {n:Int} {ks:List Ty} (h:op ≠ 7 ∧ op ≠ 10) (hk:∀ k ∈ ks,NoV k):NoV (.mk op nm n ks):=fun x hx=>by
 rw [parts_kids] at hx
 rcases List.mem_cons.1 hx with rfl | hx
 ·exact h
 ·obtain ⟨k,hkm,hxk⟩:=List.mem_flatMap.1 hx
  exact hk k hkm x hxk
theorem c3_no (op:Int) (h:op ≠ 11):c3B wordB op noS = true:=by unfold c3B;rw [if_neg h];exact decide_eq_true noS_nil
theorem rt_leaf (op s:Int) (h:op = 1 ∧ s = 116 ∨ op = 2 ∧ s = 116 ∨ op = 3 ∧ s = 116 ∨ op = 8 ∧ s = 114 ∨ op = 9 ∧ s = 114):Rt (lfT op) s:=by
 refine ⟨?_,NoV.mk (by omega) fun k hk=>by cases hk⟩
 have hk:kidsS op = some []:=by unfold kidsS;rw [if_pos (by omega)]
 rw [shape_some hk,c3_no op (by omega)]
 rcases h with ⟨rfl,rfl⟩ | ⟨rfl,rfl⟩ | ⟨rfl,rfl⟩ | ⟨rfl,rfl⟩ | ⟨rfl,rfl⟩ <;> rfl
theorem rt_fun {t u:Ty} (ht:Rt t 116) (hu:Rt u 116):Rt (.mk 4 noS 0 [t,u]) 116:=by
 refine ⟨?_,NoV.mk (by decide) fun k hk=>by
  rcases List.mem_cons.1 hk with rfl | hk
  ·exact ht.2
  ·cases List.mem_singleton.1 hk;exact hu.2⟩
 rw [shape_some (k:=[116,116]) rfl,c3_no 4 (by decide),shapesB,shapesB,ht.1,hu.1]
 rfl
theorem rt_row {t:Ty} (op:Int) (h:op = 5 ∨ op = 6) (ht:Rt t 114):Rt (.mk op noS 0 [t]) 116:=by
 refine ⟨?_,NoV.mk (by omega) fun k hk=>by cases List.mem_singleton.1 hk;exact ht.2⟩
 have hk:kidsS op = some [114]:=by rcases h with rfl | rfl <;> rfl
 rw [shape_some hk,c3_no op (by omega),shapesB,ht.1]
 rcases h with rfl | rfl <;> rfl
theorem rt_rowS {tl:Ty} (htl:Rt tl 114):∀ {l:List (ByteArray × Ty)},(∀ f ∈ l,wordB f.1 = true ∧ Rt f.2 116) → Rt (rowS l tl) 114
 | [],_=>htl
 | f :: l,h=>by
  have h1:=h f (List.mem_cons_self ..)
  have h2:=rt_rowS htl (l:=l) fun g hg=>h g (List.mem_cons_of_mem _ hg)
  rw [rowS_op_ne]
  refine ⟨?_,NoV.mk (by decide) fun k hk=>by
   rcases List.mem_cons.1 hk with rfl | hk
   ·exact h1.2.2
   ·cases List.mem_singleton.1 hk;exact h2.2⟩
  rw [shape_some (k:=[116,114]) rfl,shapesB,shapesB,h1.2.1,h2.1]
  unfold c3B
  rw [if_pos rfl,h1.1]
  rfl
theorem noV_once {t:Ty} (h:NoV t):onceB t = true:=by
 unfold onceB
 rw [List.all_eq_true]
 intro x hx
 rw [List.all_eq_true]
 intro y hy
 unfold clashB
 rw [beq_false_of_ne (h x hx).1]
 rfl
theorem Rt.right {t:Ty} {s:Int} (h:Rt t s):rightB t s = true:=by unfold rightB;rw [h.1,noV_once h.2];rfl
theorem Rt.either {t:Ty} (h:Rt t 116):eitherT t = true:=by unfold eitherT;rw [h.right];rfl
def RtR (ts:List Tok) (rd:PE → Ty × PE):Prop:=∀ p:PE,p.1 < ts.length → (rd p).2.2 = 0 → Rt (rd p).1 116
theorem want_0 {ts:List Tok} {s:ByteArray} {p:PE} (h:(wantP ts s p).2 = 0):p.2 = 0:=by
 unfold wantP at h
 by_cases h0:p.2 ≠ 0
 ·rw [if_pos h0] at h;exact h
 ·exact Decidable.not_not.1 h0
theorem rt_field {ts:List Tok} {rd:PE → Ty × PE} (hE:EndsT ts) (hN:NamesT ts) (hr:RtR ts rd) (p:PE) (hp:p.1 < ts.length) (h:(fieldW rd ts p).2.2 = 0):wordB (fieldW rd ts p).1.1 = true ∧ Rt (fieldW rd ts p).1.2 116:=by
 unfold fieldW at h ⊢
 by_cases hk:(tkA ts p.1).kind ≠ 1
 ·rw [if_pos hk] at h
  exact absurd h (failP_at 5 (by decide) p).2
 ·rw [if_neg hk] at h ⊢
  replace hk:=Decidable.not_not.1 hk
  exact ⟨hN _ hp hk,hr _ (wantP_lt hE (hE _ hp (by rw [hk];decide))).1 h⟩
theorem rt_fields {ts:List Tok} {rd:PE → Ty × PE} (hE:EndsT ts) (hN:NamesT ts) (hf:FitR ts rd) (hr:RtR ts rd):∀ (k:Nat) (p:PE) (l:List (ByteArray × Ty)),p.1 < ts.length → (p.2 = 0 → ∀ f ∈ l,wordB f.1 = true ∧ Rt f.2 116) → (fieldsW rd ts k p l).2.2 = 0 → ∀ f ∈ (fieldsW rd ts k p l).1,wordB f.1 = true ∧ Rt f.2 116
 | 0,p,l,_,h,h0=>h h0
 | k + 1,p,l,hp,h,h0=>by
  rw [fieldsW] at h0 ⊢
  by_cases hs:skB ts gComma p = true
  ·rw [if_pos hs] at h0 ⊢
   obtain ⟨s1,s2⟩:=skB_at hE hp hs
   refine rt_fields hE hN hf hr k _ _ (fit_field hE hf (p.1 + 1,0) s2).hi (fun h1 f hm=>?_) h0
   rcases List.mem_append.1 hm with hm | hm
   ·exact h s1 f hm
   ·cases List.mem_singleton.1 hm;exact rt_field hE hN hr (p.1 + 1,0) s2 h1
  ·rw [if_neg hs] at h0 ⊢;exact h h0
theorem rt_rowR {ts:List Tok} {rd:PE → Ty × PE} (hE:EndsT ts) (hN:NamesT ts) (hf:FitR ts rd) (hr:RtR ts rd) (p:PE) (hp:p.1 < ts.length) (h:(rowR rd ts p).2.2 = 0):Rt (rowR rd ts p).1 114:=by
 have hh:(headW rd ts p).2.2 = 0 → ∀ f ∈ (headW rd ts p).1,wordB f.1 = true ∧ Rt f.2 116:=by
  unfold headW
  by_cases hk:(tkA ts p.1).kind = 1
  ·rw [if_pos hk]
   intro h0
   exact rt_fields hE hN hf hr _ _ _ (fit_field hE hf p hp).hi (fun h1 f hm=>by cases List.mem_singleton.1 hm;exact rt_field hE hN hr p hp h1) h0
  ·rw [if_neg hk]
   intro _ f hm
   cases hm
 unfold rowR tlW at h ⊢
 by_cases hs:skB ts gBar (headW rd ts p).2 = true
 ·rw [if_pos hs] at h ⊢
  exact rt_rowS (rt_leaf 9 114 (by omega)) (hh (skB_at hE (fit_head hE hf p hp).hi hs).1)
 ·rw [if_neg hs] at h ⊢
  exact rt_rowS (rt_leaf 8 114 (by omega)) (hh h)
theorem rt_atom {ts:List Tok} {rd:PE → Ty × PE} (hE:EndsT ts) (hN:NamesT ts) (hf:FitR ts rd) (hr:RtR ts rd) (p:PE) (hp:p.1 < ts.length) (h:(atomW rd ts p).2.2 = 0):Rt (atomW rd ts p).1 116:=by
 unfold atomW at h ⊢
 by_cases h1:skB ts gInt p = true
 ·rw [if_pos h1];exact rt_leaf 1 116 (by omega)
 rw [if_neg h1] at h ⊢
 by_cases h2:skB ts gBool p = true
 ·rw [if_pos h2];exact rt_leaf 2 116 (by omega)
 rw [if_neg h2] at h ⊢
 by_cases h3:skB ts gDyn p = true
 ·rw [if_pos h3];exact rt_leaf 3 116 (by omega)
 rw [if_neg h3] at h ⊢
 by_cases h4:skB ts gOpen p = true
 ·rw [if_pos h4] at h ⊢
  exact hr (p.1 + 1,0) (skB_at hE hp h4).2 (want_0 h)
 rw [if_neg h4] at h ⊢
 by_cases h5:skB ts gRec p = true
 ·rw [if_pos h5] at h ⊢
  exact rt_row 5 (by omega) (rt_rowR hE hN hf hr (p.1 + 1,0) (skB_at hE hp h5).2 (want_0 h))
 rw [if_neg h5] at h ⊢
 by_cases h6:skB ts gVnt p = true
 ·rw [if_pos h6] at h ⊢
  exact rt_row 6 (by omega) (rt_rowR hE hN hf hr (p.1 + 1,0) (skB_at hE hp h6).2 (want_0 h))
 rw [if_neg h6] at h
 exact absurd h (failP_at 5 (by decide) p).2
theorem rt_whole {ts:List Tok} (hE:EndsT ts) (hN:NamesT ts):∀ n:Nat,RtR ts (wholeW ts n)
 | 0,p,hp,h=>by
  rw [wholeW] at h
  exact absurd h (failP_at 6 (by decide) p).2
 | n + 1,p,hp,h=>by
  have ih:=rt_whole hE hN n
  have hf:=fit_whole hE n
  rw [wholeW] at h ⊢
  by_cases h0:p.2 ≠ 0
  ·rw [if_pos h0] at h
   exact absurd h h0
  rw [if_neg h0] at h ⊢
  by_cases hs:skB ts gTo (atomW (wholeW ts n) ts p).2 = true
  ·rw [if_pos hs] at h ⊢
   have hfa:=fit_atom hE hf p hp
   obtain ⟨s1,s2⟩:=skB_at hE hfa.hi hs
   exact rt_fun (rt_atom hE hN hf ih p hp s1) (ih ((atomW (wholeW ts n) ts p).2.1 + 1,0) s2 h)
  ·rw [if_neg hs] at h ⊢
   exact rt_atom hE hN hf ih p hp h
end Go.Proofs.YtahpnackkmbmgaaGreatDoor.Vm
end
section
namespace Go.Proofs.YtahpnackkmbmgaaGreatDoor.Vm
open Go.RowKit
set_option maxRecDepth 100000
set_option maxHeartbeats 4000000
abbrev RdN (T:List (List D)) (L:Int) (x:List V) (a p c a1:Int):Prop:=SpecO 17 [.ptr 0 0,vi .i64 L] [.box [.d (.sl 4 T),.d (.sc (.int .i64 a))]] (fun res os=>res = [.ag x,.d (.sc (.int .i64 p)),.d (.sc (.int .u8 c))] ∧ os = [.box [.d (.sl 4 T),.d (.sc (.int .i64 a1))]])
theorem nil4b {I:Nat → Nat → Prop} {w:World} {g:Nat → Value} {us:List Value} {a b c x y:V} {z:Nat} (h:AtVs I w g us [.ag [a,b,c,.em],x,y]):AtVs I w g us [.ag [a,b,c,.d (.sl z [])],x,y] :=
 h.reset (i:=0) fun v hv=>by
  have h4:=h.2 0 v _ hv rfl
  obtain ⟨ks,rfl,h5⟩:=h4.unag
  exact atV_ag (h5.reset (i:=3) fun v hv=>by rw [(h5.2 3 v _ hv rfl).unem];exact .d (.nil _ _ _))
theorem read_err {T:List (List D)} {L a e q a1:Int} {t:Ty} (he:e ≠ 0) (h1:TyN 38 T L (ofD (cT t)) 0 0 a e q a1):RdN T L (ofD (cT zeroTy)) a q e a1:=by
 have h0:RdN T L [.d (.sc (.int .u8 0)),.d (.sc (.string noS)),.d (.sc (.int .i64 0)),.em] a q e a1:=by
  obtain ⟨c0,c1,c2,c3,hc⟩:=cT_four t
  rw [hc] at h1
  refine speco_of Tryz.func17 rfl (by kernel_rfl) (by kernel_rfl) (by kernel_rfl) fun qa qb qc qd qe qg qh qi qj qk ql qm qo qp qq qt qu qv qw qx qy qz va vc vd ve vf vg vh vj vk vl vm vn vo vp vq vr vt vu vv vw vx hA=>?_
  obtain ⟨ee1,ee2,e3,e4,e5,e6,e7,e8,e9⟩:=ar_at hA
  have g1:qk e 0 = false:=by rw [e9];exact decide_eq_false he
  iterate 2 (try cbv;repeat ((first | with_reducible apply next_at hA | rw [g1] | (refine callo_at hA [2,0] h1 ⟨rfl,rfl,rfl,rfl,rfl,rfl,rfl⟩ ?_;rintro _ _ ⟨rfl,rfl⟩));cbv))
  try simp (maxSteps:=4000000) only [nc] at *
  exact keep_is hA [0] ⟨rfl,rfl,rfl,rfl,rfl,rfl,rfl,rfl⟩ ⟨rfl,rfl⟩
 unfold RdN
 rw [zero_c]
 exact SpecO.reread h0 fun res os2 ⟨e1,e2⟩=>⟨_,⟨rfl,e2⟩,fun I w g us hv=>nil4b (e1 ▸ hv)⟩
theorem read_ok {T:List (List D)} {L a q a1:Int} {t:Ty} (ht:Sm t) (he:eitherT t = true) (h1:TyN 38 T L (ofD (cT t)) 0 0 a 0 q a1):RdN T L (ofD (cT (canonS t))) a 0 0 a1:=by
 have hcn:=Canon_s t ht
 rw [if_pos he] at hcn
 obtain ⟨c0,c1,c2,c3,hc⟩:=cT_four t
 obtain ⟨d0,d1,d2,d3,hd⟩:=cT_four (canonS t)
 rw [hc] at h1 hcn
 rw [hd] at hcn ⊢
 refine speco_of Tryz.func17 rfl (by kernel_rfl) (by kernel_rfl) (by kernel_rfl) fun qa qb qc qd qe qg qh qi qj qk ql qm qo qp qq qt qu qv qw qx qy qz va vc vd ve vf vg vh vj vk vl vm vn vo vp vq vr vt vu vv vw vx hA=>?_
 obtain ⟨ee1,ee2,e3,e4,e5,e6,e7,e8,e9⟩:=ar_at hA
 have g1:qk 0 0 = true:=by rw [e9];rfl
 iterate 2 (try cbv;repeat ((first | with_reducible apply next_at hA | rw [g1] | refine call_at hA _ hcn rfl ?_ | refine calm_at hA _ hcn ?_ | (refine callo_at hA [2,0] h1 ⟨rfl,rfl,rfl,rfl,rfl,rfl,rfl⟩ ?_;rintro _ _ ⟨rfl,rfl⟩));cbv))
 try simp (maxSteps:=4000000) only [nc] at *
 exact keep_is hA [0] ⟨rfl,rfl,rfl,rfl,rfl,rfl,rfl,rfl⟩ ⟨rfl,rfl⟩
def readW (ts:List Tok) (n a:Nat):Ty × Int × Int × Nat :=
 if (wholeW ts n (a,0)).2.2 ≠ 0 then (zeroTy,(tkA ts (wholeW ts n (a,0)).2.1).at_,(wholeW ts n (a,0)).2.2,(wholeW ts n (a,0)).2.1)
 else (canonS (wholeW ts n (a,0)).1,0,0,(wholeW ts n (a,0)).2.1)
theorem Read_s {ts:List Tok} (hE:EndsT ts) (hN:NamesT ts) (hl:ts.length ≤ 65537) (n:Nat) (L:Int) (hv:LvOk n L) (a:Nat) (ha:a < ts.length) :
  RdN (rTk ts) L (ofD (cT (readW ts n a).1)) (a:Int) (readW ts n a).2.1 (readW ts n a).2.2.1 ((readW ts n a).2.2.2:Int):=by
 have h:=whole_s hE hl n L hv (a,0) ha
 have hf:=(fit_whole hE n (a,0) ha).1
 have hrt:=rt_whole hE hN n (a,0) ha
 unfold readW
 generalize wholeW ts n (a,0) = r at *
 by_cases h0:r.2.2 ≠ 0
 ·rw [if_pos h0]
  have h2:=read_err h0 h
  rw [cQ_1 ts h0] at h2
  exact h2
 ·rw [if_neg h0]
  replace h0:=Decidable.not_not.1 h0
  unfold TyS at h
  rw [h0] at h
  exact read_ok (sm_of (hrt h0).1 (by have:=hf.sz;have:=hf.hi;omega)) (hrt h0).either h
theorem parse_tok {B T:List (List D)} {p c:Int} (hc:c ≠ 0) (hT:Spec 32 [.one (.sl 1 B)] [.one (.sl 4 T),.one (.sc (.int .i64 p)),.one (.sc (.int .u8 c))]):Spec 12 [.one (.sl 1 B)] [.ag (lf0 0),.one (.sc (.int .i64 p)),.one (.sc (.int .u8 c))]:=by
 unfold lf0
 refine spec_of Tryz.func12 rfl (by kernel_rfl) (by kernel_rfl) (by kernel_rfl) fun qa qb qc qd qe qg qh qi qj qk ql qm qo qp qq qt qu qv qw qx qy qz va vc vd ve vf vg vh vj vk vl vm vn vo vp vq vr vt vu vv vw vx hA=>?_
 obtain ⟨ee1,ee2,e3,e4,e5,e6,e7,e8,e9⟩:=ar_at hA
 have g1:qk c 0 = false:=by rw [e9];exact decide_eq_false hc
 iterate 2 (try cbv;repeat ((first | with_reducible apply next_at hA | rw [g1] | refine call_at hA _ hT rfl ?_ | refine calm_at hA _ hT ?_);cbv))
 try simp (maxSteps:=4000000) only [nc] at *
theorem parse_err {B T:List (List D)} {p p1 c1 a1:Int} {t:Ty} (hc:c1 ≠ 0) (hT:Spec 32 [.one (.sl 1 B)] [.one (.sl 4 T),.one (.sc (.int .i64 p)),.one (.sc (.int .u8 0))])
  (hN:SpecO 16 [.d (.sl 4 T)] [] (fun res os=>res = [.ptr 0 0] ∧ os = [.box [.d (.sl 4 T),.d (.sc (.int .i64 0))]])) (hR:RdN T 1 (ofD (cT t)) 0 p1 c1 a1):Spec 12 [.one (.sl 1 B)] [.ag (lf0 0),.one (.sc (.int .i64 p1)),.one (.sc (.int .u8 c1))]:=by
 obtain ⟨d0,d1,d2,d3,hd⟩:=cT_four t
 rw [hd] at hR
 unfold lf0
 refine spec_of Tryz.func12 rfl (by kernel_rfl) (by kernel_rfl) (by kernel_rfl) fun qa qb qc qd qe qg qh qi qj qk ql qm qo qp qq qt qu qv qw qx qy qz va vc vd ve vf vg vh vj vk vl vm vn vo vp vq vr vt vu vv vw vx hA=>?_
 obtain ⟨ee1,ee2,e3,e4,e5,e6,e7,e8,e9⟩:=ar_at hA
 have g0:qk 0 0 = true:=by rw [e9];rfl
 have g1:qk c1 0 = false:=by rw [e9];exact decide_eq_false hc
 iterate 2 (try cbv;repeat ((first | with_reducible apply next_at hA | rw [g0] | rw [g1] | refine call_at hA _ hT rfl ?_ | refine calm_at hA _ hT ?_ | (refine callo_at hA [] hN ⟨rfl,rfl,rfl,rfl,rfl,rfl,rfl⟩ ?_;rintro _ _ ⟨rfl,rfl⟩) | (refine callo_at hA [1] hR ⟨rfl,rfl,rfl,rfl,rfl,rfl,rfl⟩ ?_;rintro _ _ ⟨rfl,rfl⟩));cbv))
 try simp (maxSteps:=4000000) only [nc] at *
theorem parse_more {B T:List (List D)} {p p1 a1 k n0 p0:Int} {s0:ByteArray} {t:Ty} (hk:k ≠ 4) (hT:Spec 32 [.one (.sl 1 B)] [.one (.sl 4 T),.one (.sc (.int .i64 p)),.one (.sc (.int .u8 0))])
  (hN:SpecO 16 [.d (.sl 4 T)] [] (fun res os=>res = [.ptr 0 0] ∧ os = [.box [.d (.sl 4 T),.d (.sc (.int .i64 0))]])) (hR:RdN T 1 (ofD (cT t)) 0 p1 0 a1) (hp:SpecS 19 [.ptr 0 0] [.box [.d (.sl 4 T),.d (.sc (.int .i64 a1))]] (fun res os=>res = [.ag [.d (.sc (.int .u8 k)),.d (.sc (.string s0)),.d (.sc (.int .i64 n0)),.d (.sc (.int .i64 p0))]] ∧ os = [.box [.d (.sl 4 T),.d (.sc (.int .i64 a1))]])):Spec 12 [.one (.sl 1 B)] [.ag (lf0 0),.one (.sc (.int .i64 p0)),.one (.sc (.int .u8 5))]:=by
 obtain ⟨d0,d1,d2,d3,hd⟩:=cT_four t
 rw [hd] at hR
 unfold lf0
 refine spec_of Tryz.func12 rfl (by kernel_rfl) (by kernel_rfl) (by kernel_rfl) fun qa qb qc qd qe qg qh qi qj qk ql qm qo qp qq qt qu qv qw qx qy qz va vc vd ve vf vg vh vj vk vl vm vn vo vp vq vr vt vu vv vw vx hA=>?_
 obtain ⟨ee1,ee2,e3,e4,e5,e6,e7,e8,e9⟩:=ar_at hA
 have g0:qk 0 0 = true:=by rw [e9];rfl
 have g1:qk k 4 = false:=by rw [e9];exact decide_eq_false hk
 iterate 2 (try cbv;repeat ((first | with_reducible apply next_at hA | rw [g0] | rw [g1] | refine call_at hA _ hT rfl ?_ | refine calm_at hA _ hT ?_ | (refine callo_at hA [] hN ⟨rfl,rfl,rfl,rfl,rfl,rfl,rfl⟩ ?_;rintro _ _ ⟨rfl,rfl⟩) | (refine callo_at hA [1] hR ⟨rfl,rfl,rfl,rfl,rfl,rfl,rfl⟩ ?_;rintro _ _ ⟨rfl,rfl⟩) | (refine rd_at hA [1] hp ⟨rfl,rfl,rfl,rfl,rfl,rfl,rfl⟩ rfl ?_;rintro _ rfl));cbv))
 try simp (maxSteps:=4000000) only [nc] at *
theorem parse_ok {B T:List (List D)} {p p1 a1 n0 p0:Int} {s0:ByteArray} {t:Ty} (hT:Spec 32 [.one (.sl 1 B)] [.one (.sl 4 T),.one (.sc (.int .i64 p)),.one (.sc (.int .u8 0))])
  (hN:SpecO 16 [.d (.sl 4 T)] [] (fun res os=>res = [.ptr 0 0] ∧ os = [.box [.d (.sl 4 T),.d (.sc (.int .i64 0))]])) (hR:RdN T 1 (ofD (cT t)) 0 p1 0 a1) (hp:SpecS 19 [.ptr 0 0] [.box [.d (.sl 4 T),.d (.sc (.int .i64 a1))]] (fun res os=>res = [.ag [.d (.sc (.int .u8 4)),.d (.sc (.string s0)),.d (.sc (.int .i64 n0)),.d (.sc (.int .i64 p0))]] ∧ os = [.box [.d (.sl 4 T),.d (.sc (.int .i64 a1))]])):Spec 12 [.one (.sl 1 B)] [.ag (cT t),.one (.sc (.int .i64 0)),.one (.sc (.int .u8 0))]:=by
 obtain ⟨d0,d1,d2,d3,hd⟩:=cT_four t
 rw [hd] at hR ⊢
 refine spec_of Tryz.func12 rfl (by kernel_rfl) (by kernel_rfl) (by kernel_rfl) fun qa qb qc qd qe qg qh qi qj qk ql qm qo qp qq qt qu qv qw qx qy qz va vc vd ve vf vg vh vj vk vl vm vn vo vp vq vr vt vu vv vw vx hA=>?_
 obtain ⟨ee1,ee2,e3,e4,e5,e6,e7,e8,e9⟩:=ar_at hA
 have g0:qk 0 0 = true:=by rw [e9];rfl
 have g1:qk 4 4 = true:=by rw [e9];rfl
 iterate 2 (try cbv;repeat ((first | with_reducible apply next_at hA | rw [g0] | rw [g1] | refine call_at hA _ hT rfl ?_ | refine calm_at hA _ hT ?_ | (refine callo_at hA [] hN ⟨rfl,rfl,rfl,rfl,rfl,rfl,rfl⟩ ?_;rintro _ _ ⟨rfl,rfl⟩) | (refine callo_at hA [1] hR ⟨rfl,rfl,rfl,rfl,rfl,rfl,rfl⟩ ?_;rintro _ _ ⟨rfl,rfl⟩) | (refine rd_at hA [1] hp ⟨rfl,rfl,rfl,rfl,rfl,rfl,rfl⟩ rfl ?_;rintro _ rfl));cbv))
 try simp (maxSteps:=4000000) only [nc] at *
section
section
variable {T:List (List D)} {a L a1 L1 n n1 c:Int} {t u:Ty}
end
end
section
section
variable {qa:IntKind → Int → Int} {qb:Int → Int → Int} {qc:Int → Int → Int} {qd:Int → Int → Int} {qe:Int → Int → Int} {qg:Int → Int → Int} {qh:BinOp → IntKind → Int → IntKind → Int → Option Int} {qi:Int → Int → Bool} {qj:Int → Int → Bool} {qk:Int → Int → Bool} {ql:Int → Prop → Prop} {qm:List UInt8 → List UInt8 → Bool} {qo:List UInt8 → List UInt8 → Bool} {qp:ByteArray → List UInt8} {qq:ByteArray → ByteArray → ByteArray} {qt:ByteArray → ByteArray → Prop → Prop} {qu:ByteArray → Int} {qv:ByteArray → Int → Option Int} {qw:ByteArray → Int → Int → Option ByteArray} {qx:List (List D) → Option ByteArray} {qy:ByteArray → List (List D)} {qz:Int → Nat → Option Nat} {va:List (List D) → Int} {vc:List (List D) → Int → Option (List D)} {vd:List (List D) → Int → Int → Option (List (List D))} {ve:List (List D) → List (List D) → List (List D)} {vf:List (List D) → Int → List D → List (List D)} {vg:List (List D) → List (List D) → Prop → Prop} {vh:List (R × R) → R → Option R} {vj:List (R × R) → R → R → List (R × R)} {vk:List D → List D → Bool} {vl:Int → List D → (List (List D) → Prop) → Prop} {vm:Nat → List R → (List R → Prop) → Prop} {vn:Nat → List V → List O → (V → Prop) → Prop} {vo:Nat → List V → S → (V → S → Prop) → Prop} {vp:Nat → List V → List Nat → S → (V → S → Prop) → Prop} {vq:Nat → (Bool → Prop) → Prop} {vr:Nat → (Bool → Prop) → Prop} {vt:Nat → (List V → List O → Prop) → List V → S → Prop} {vu:(S → Prop) → S → Prop} {vv:Op → Option Nat → S → (S → Prop) → Prop} {vw:Array Oper → S → (S → Prop) → Prop} {vx:Code → (S → (X → S → Prop) → Prop) → S → (X → S → Prop) → Prop}
end
section
variable {T:List (List D)} {a L n n1 c:Int} {t:Ty}
end
end
section
section
variable {T:List (List D)} {a L n n1 c:Int} {t:Ty}
end
end

theorem skB_0 (ts:List Tok) (s:ByteArray) (a:Nat):skB ts s (a,0) = isG (tkA ts a) s:=by unfold skB;rfl
theorem skB_e {ts:List Tok} {s:ByteArray} {p:PE} (h:p.2 ≠ 0):skB ts s p = false:=by unfold skB;rw [beq_false_of_ne h];rfl
theorem wantP_e {ts:List Tok} {s:ByteArray} {p:PE} (h:p.2 ≠ 0):wantP ts s p = p:=if_pos h
theorem wantP_y {ts:List Tok} {s:ByteArray} {p:PE} (h:p.2 = 0) (hg:isG (tkA ts p.1) s = true):wantP ts s p = (p.1 + 1,0):=by unfold wantP;rw [if_neg (fun x=>x h),if_pos hg]

end Go.Proofs.YtahpnackkmbmgaaGreatDoor.Vm
end
section
namespace Go.Proofs.YtahpnackkmbmgaaGreatDoor
open Go.RowKit
theorem str_nums (s:ByteArray):strOfNums (numsOf s) = s:=by
 unfold numsOf strOfNums
 apply ByteArray.ext
 have e:((fun n:Int=>UInt8.ofNat n.toNat) ∘ fun b:UInt8=>((b.toNat:Nat):Int)) = id:=by
  funext b
  simp
 simp [e]

end Go.Proofs.YtahpnackkmbmgaaGreatDoor
end
section
namespace Go.Proofs.YtahpnackkmbmgaaGreatDoor.Vm
open Go.RowKit
set_option maxRecDepth 100000
set_option maxHeartbeats 4000000
def parseT (ts:List Tok):Ty × Int × Int :=
 if (wholeW ts 200 (0,0)).2.2 ≠ 0 then (zeroTy,(tkA ts (wholeW ts 200 (0,0)).2.1).at_,(wholeW ts 200 (0,0)).2.2)
 else if (tkA ts (wholeW ts 200 (0,0)).2.1).kind ≠ 4 then (zeroTy,(tkA ts (wholeW ts 200 (0,0)).2.1).at_,5)
 else (canonS (wholeW ts 200 (0,0)).1,0,0)
def parseW (l:List UInt8):Ty × Int × Int :=
 if (scanS (numsU l) 0 false []).2.2 ≠ 0 then (zeroTy,(scanS (numsU l) 0 false []).2.1,(scanS (numsU l) 0 false []).2.2)
 else parseT (scanS (numsU l) 0 false []).1
abbrev PaN (f:Nat) (k:IntKind) (B:List (List D)) (x:List D) (p c:Int):Prop:=Spec f [.one (.sl 1 B)] [.ag x,.one (.sc (.int .i64 p)),.one (.sc (.int k c))]
theorem PaN.lf {f:Nat} {k:IntKind} {B:List (List D)} {p c:Int} (h:PaN f k B (lf0 0) p c):PaN f k B (cT zeroTy) p c:=by
 have h2:PaN f k B [.sc (.int .u8 0),.sc (.string noS),.sc (.int .i64 0),.sl 4 []] p c:=Spec.likeq h ⟨lf0_like 0,.same _,.same _,trivial⟩
 unfold PaN zeroTy
 rw [cT,rT]
 exact h2
theorem LvOk_1:LvOk 200 1:=.inr ⟨by omega,by omega,by omega⟩
theorem Parse_s (l:List UInt8) (hl:l.length ≤ 65536):PaN 12 .u8 (rU l) (cT (parseW l).1) (parseW l).2.1 (parseW l).2.2:=by
 have hT:=Tokens_s l hl
 have hok:=toks_ok (numsU l)
 have hln:(numsU l).length = l.length:=by unfold numsU;rw [List.length_map]
 unfold parseW
 generalize scanS (numsU l) 0 false [] = r at *
 by_cases h0:r.2.2 = 0
 ·rw [if_neg (fun h=>h h0)]
  obtain ⟨hE,hN,hpos,hle⟩:=hok h0
  rw [h0] at hT
  have hlt:r.1.length ≤ 65537:=by omega
  have hne:rTk r.1 ≠ []:=fun h=>by have:=congrArg List.length h;rw [rTk_len] at this;simp at this;rw [this] at hpos;simp at hpos
  have hNR:=NewReader_s (rTk r.1) hne (by rw [rTk_len];omega)
  unfold rdB at hNR
  have hR:=Read_s hE hN hlt 200 1 LvOk_1 0 hpos
  have hf:=(fit_whole hE 200 (0,0) hpos).1
  unfold readW at hR
  unfold parseT
  generalize wholeW r.1 200 (0,0) = u at *
  by_cases hu:u.2.2 = 0
  ·rw [if_neg (fun h=>h hu)] at hR ⊢
   have hp:=Peek_s r.1 _ u.2.1 (tkA_is hf.hi) (by omega)
   unfold rdB tkD at hp
   by_cases hk:(tkA r.1 u.2.1).kind = 4
   ·rw [if_neg (fun h=>h hk)]
    rw [hk] at hp
    exact parse_ok hT hNR hR hp
   ·rw [if_pos hk]
    exact PaN.lf (parse_more hk hT hNR hR hp)
  ·rw [if_pos hu] at hR ⊢
   exact PaN.lf (parse_err hu hT hNR hR)
 ·rw [if_pos h0]
  exact PaN.lf (parse_tok h0 hT)
end Go.Proofs.YtahpnackkmbmgaaGreatDoor.Vm
end
section
namespace Go.Proofs.YtahpnackkmbmgaaGreatDoor.Vm
open Go.RowKit
def AtX (ts:List Tok):Nat → List Lex → Prop
 | _,[]=>True
 | a,x :: xs=>(tkA ts a).kind = x.1 ∧ (tkA ts a).text.data.toList = x.2 ∧ AtX ts (a + 1) xs
theorem AtX.app {ts:List Tok}:∀ {xs:List Lex} {a:Nat} {ys:List Lex},AtX ts a (xs ++ ys) → AtX ts a xs ∧ AtX ts (a + xs.length) ys
 | [],a,ys,h=>⟨trivial,h⟩
 | x :: xs,a,ys,h=>by
  obtain ⟨h1,h2,h3⟩:=h
  obtain ⟨h4,h5⟩:=AtX.app (xs:=xs) h3
  refine ⟨⟨h1,h2,h4⟩,?_⟩
  rw [List.length_cons,show a + (xs.length + 1) = a + 1 + xs.length by omega]
  exact h5
theorem AtX.le {ts:List Tok}:∀ {xs:List Lex} {a:Nat},(∀ x ∈ xs,x.1 ≠ 4) → AtX ts a xs → xs ≠ [] → a + xs.length ≤ ts.length
 | [x],a,hk,h,_=>by
  have:a < ts.length:=by
   apply Decidable.byContradiction
   intro hn
   have h1:=h.1
   unfold tkA at h1
   rw [List.getElem?_eq_none (by omega)] at h1
   exact hk x (List.mem_cons_self ..) h1.symm
  simp
  omega
 | x :: y :: xs,a,hk,h,_=>by
  have:=AtX.le (xs:=y :: xs) (fun z hz=>hk z (List.mem_cons_of_mem _ hz)) h.2.2 (by simp)
  simp only [List.length_cons] at this ⊢
  omega
theorem isG_at {t:Tok} {k:Int} {w:List UInt8} (h1:t.kind = k) (h2:t.text.data.toList = w) (s:ByteArray):isG t s = ((k == 3) && (w == s.data.toList)):=by
 unfold isG
 rw [h1,ByteArray.toList_eq,ByteArray.toList_eq,h2]
theorem skx {ts:List Tok} {a:Nat} {k:Int} {w:List UInt8} (h1:(tkA ts a).kind = k) (h2:(tkA ts a).text.data.toList = w) (s:ByteArray):skB ts s (a,0) = ((k == 3) && (w == s.data.toList)):=by rw [skB_0,isG_at h1 h2]
def ClsAt (ts:List Tok) (b:Nat):Prop:=(tkA ts b).kind = 3 ∧ ((tkA ts b).text.data.toList = [125] ∨ (tkA ts b).text.data.toList = [62])
def Got (n k:Nat) (w:Ty × PE) (t:Ty) (b:Nat):Prop:=(w.2.2 = 6 ∧ n < k) ∨ w = (t,(b,0))
structure TyX (t:Ty) (ls:List Lex):Prop where
 flat:flatX ls = txtS t
 kd:∀ x ∈ ls,x.1 ≠ 4
 lex:∀ r,NoP runsU r → LexAll ls r
 rd:∀ ts n a,AtX ts a ls → isG (tkA ts (a + ls.length)) gTo = false → Got n t.parts.length (wholeW ts n (a,0)) t (a + ls.length)
structure FrX (t:Ty) (ls:List Lex):Prop where
 flat:flatX ls = fromW txtS t
 kd:∀ x ∈ ls,x.1 ≠ 4
 lex:∀ r,NoP runsU r → LexAll ls r
 rd:∀ ts n a,AtX ts a ls → Got n t.parts.length (atomW (wholeW ts n) ts (a,0)) t (a + ls.length)
structure AmX (t:Ty) (ls:List Lex):Prop where
 flat:flatX ls = txtS t
 kd:∀ x ∈ ls,x.1 ≠ 4
 lex:∀ r,NoP runsU r → LexAll ls r
 rd:∀ ts n a,AtX ts a ls → Got (n + 1) t.parts.length (atomW (wholeW ts n) ts (a,0)) t (a + ls.length)
structure RwX (x:Ty) (ls:List Lex):Prop where
 flat:flatX ls = rtx false x
 kd:∀ x ∈ ls,x.1 ≠ 4
 lex:∀ r,NoP runsU r → LexAll ls r
 hd:∀ ts a,AtX ts a ls → ClsAt ts (a + ls.length) → isG (tkA ts a) gTo = false
 nr:∀ r,NoP runsU r → NoP runsU (flatX ls ++ r)
 rd:∀ ts n a k l,AtX ts a ls → ClsAt ts (a + ls.length) → ls.length ≤ k → Got n x.parts.length (tlW ts (fieldsW (wholeW ts n) ts k (a,0) l).1 (fieldsW (wholeW ts n) ts k (a,0) l).2) (rowS l x) (a + ls.length)
structure RaX (x:Ty) (ls:List Lex):Prop where
 flat:flatX ls = rtx true x
 kd:∀ x ∈ ls,x.1 ≠ 4
 lex:∀ r,NoP runsU r → LexAll ls r
 rd:∀ ts n a,AtX ts a ls → ClsAt ts (a + ls.length) → Got n x.parts.length (rowR (wholeW ts n) ts (a,0)) x (a + ls.length)
theorem fieldsW_err {rd:PE → Ty × PE} {ts:List Tok} {p:PE} {l:List (ByteArray × Ty)} (k:Nat) (h:p.2 ≠ 0):fieldsW rd ts k p l = (l,p):=by
 cases k with
 | zero=>rfl
 | succ k=>rw [fieldsW,skB_e h,if_neg (by decide)]
theorem tlW_err {ts:List Tok} {p:PE} (l:List (ByteArray × Ty)) (h:p.2 ≠ 0):tlW ts l p = (rowS l (lfT 8),p):=by unfold tlW;rw [skB_e h,if_neg (by decide)]
theorem fieldsW_end {rd:PE → Ty × PE} {ts:List Tok} {p:PE} {l:List (ByteArray × Ty)} (k:Nat) (h:skB ts gComma p = false):fieldsW rd ts k p l = (l,p):=by
 cases k with
 | zero=>rfl
 | succ k=>rw [fieldsW,h,if_neg (by decide)]
theorem six {w:PE} (h:w.2 = 6):w.2 ≠ 0:=by rw [h];decide
theorem rowS_snoc (l:List (ByteArray × Ty)) (f:ByteArray × Ty) (tl:Ty):rowS (l ++ [f]) tl = rowS l (.mk 11 f.1 0 [f.2,tl]):=by unfold rowS;rw [List.foldr_append];rfl
theorem NoV.kid {t x:Ty} (h:NoV t) (hx:x ∈ t.kids):NoV x:=fun y hy=>h y (by rw [parts_kids];exact List.mem_cons_of_mem _ (List.mem_flatMap.2 ⟨x,hx,hy⟩))
theorem NoV.self {t:Ty} (h:NoV t):t.op ≠ 7 ∧ t.op ≠ 10:=h t (by rw [parts_eq];exact List.mem_cons_self ..)
theorem lf_is {t:Ty} {s:Int} (h:shapeB wordB t s = true) (o:Int) (ho:t.op = o) (h11:o ≠ 11) (h7:o ≠ 7 ∧ o ≠ 10) (hk:t.kids = []):t = lfT o:=by
 obtain ⟨_,_,_,_,a3,_,a5,_⟩:=shape_parts h
 rw [if_neg (by omega)] at a3
 refine ty_ext (u:=lfT o) ho (name_empty (of_decide_eq_true a3) noS_nil) ?_ hk
 show t.n = 0
 omega
theorem field_x {ts:List Tok} {a:Nat} {nm:ByteArray} {rd:PE → Ty × PE} {ls:List Lex} (h:AtX ts a ((1,nm.data.toList) :: (3,[58]) :: ls)):fieldW rd ts (a,0) = ((nm,(rd (a + 2,0)).1),(rd (a + 2,0)).2) ∧ AtX ts (a + 2) ls:=by
 obtain ⟨h1,h2,h3,h4,h5⟩:=h
 have e:(tkA ts a).text = nm:=ByteArray.ext (Array.ext' h2)
 unfold fieldW
 rw [if_neg (fun h=>h h1),wantP_y (p:=(a + 1,0)) rfl (by rw [isG_at h3 h4];rfl)]
 dsimp only
 rw [e]
 exact ⟨rfl,h5⟩
theorem run_c {c:UInt8} {r:List UInt8} (h:runsU c = false):NoP runsU (c :: r):=noP_cons h
theorem row_x {N:Nat} (ih:∀ t:Ty,t.parts.length ≤ N → shapeB wordB t 116 = true → NoV t → ∃ ls,TyX t ls):∀ (k:Nat) (x:Ty),x.parts.length ≤ k → x.parts.length ≤ N → shapeB wordB x 114 = true → NoV x → (∃ ls,RwX x ls) ∧ ∃ ls,RaX x ls
 | 0,x,hk,_,_,_=>by have:=parts_pos x;omega
 | k + 1,x,hk,hN,hx,hv=>by
  rcases (shape_rw hx).2 with ⟨h1,hkx⟩ | ⟨h1,x1,y1,hkx,hx1,hy1⟩
  ·have ht:∀ b,rtx b x = tailW x:=fun b=>rtx_end hkx
   have hv1:=hv.self
   have hop:x.op = 8 ∨ x.op = 9:=by omega
   rcases hop with h8 | h9
   ·have hw:tailW x = []:=by unfold tailW;rw [if_neg (by omega),if_neg (by omega)]
    have hxe:=lf_is hx 8 h8 (by decide) (by decide) hkx
    have cl:∀ (ts:List Tok) (b:Nat),ClsAt ts b → skB ts gComma (b,0) = false ∧ skB ts gBar (b,0) = false ∧ isG (tkA ts b) gTo = false ∧ (tkA ts b).kind ≠ 1:=fun ts b ⟨c1,c2⟩=>by
     rcases c2 with c2 | c2
     ·exact ⟨by rw [skx c1 c2];rfl,by rw [skx c1 c2];rfl,by rw [isG_at c1 c2];rfl,by rw [c1];decide⟩
     ·exact ⟨by rw [skx c1 c2];rfl,by rw [skx c1 c2];rfl,by rw [isG_at c1 c2];rfl,by rw [c1];decide⟩
    refine ⟨⟨[],?_,?_,fun _ _=>trivial,fun ts a _ hc=>(cl ts a hc).2.2.1,fun r hr=>hr,fun ts n a k l _ hc _=>.inr ?_⟩,[],?_,?_,fun _ _=>trivial,fun ts n a _ hc=>.inr ?_⟩
    ·rw [ht,hw];rfl
    ·intro y hy;cases hy
    ·obtain ⟨c1,c2,_⟩:=cl ts a hc
     rw [fieldsW_end k c1]
     unfold tlW
     dsimp only
     rw [c2,if_neg (by decide),hxe]
     rfl
    ·rw [ht,hw];rfl
    ·intro y hy;cases hy
    ·obtain ⟨_,c2,_,c4⟩:=cl ts a hc
     unfold rowR headW tlW
     rw [if_neg c4]
     dsimp only
     rw [c2,if_neg (by decide),hxe]
     rfl
   ·have hw:tailW x = [124,63]:=by unfold tailW;rw [if_pos h9]
    have hxe:=lf_is hx 9 h9 (by decide) (by decide) hkx
    have hlex:∀ r,NoP runsU r → LexAll [(3,[124]),(3,[63])] r:=fun r _=>⟨lex_sign 124 _ (by decide) (by decide) (fun h=>absurd h (by decide)),lex_sign 63 _ (by decide) (by decide) (fun h=>absurd h (by decide)),trivial⟩
    have hkd:∀ y ∈ ([(3,[124]),(3,[63])]:List Lex),y.1 ≠ 4:=by
     intro y hy
     rcases List.mem_cons.1 hy with rfl | hy
     ·decide
     ·cases List.mem_singleton.1 hy;decide
    have ht2:∀ (ts:List Tok) (a:Nat) (l:List (ByteArray × Ty)),AtX ts a [(3,[124]),(3,[63])] → tlW ts l (a,0) = (rowS l x,(a + 2,0)):=fun ts a l ⟨a1,a2,a3,a4,_⟩=>by
     unfold tlW
     rw [skx a1 a2,if_pos (by rfl),wantP_y (p:=(a + 1,0)) rfl (by rw [isG_at a3 a4];rfl),hxe]
    refine ⟨⟨[(3,[124]),(3,[63])],?_,hkd,hlex,fun ts a h _=>by rw [isG_at h.1 h.2.1];rfl,fun r _=>run_c (by decide),fun ts n a k l h hc _=>.inr ?_⟩,[(3,[124]),(3,[63])],?_,hkd,hlex,fun ts n a h hc=>.inr ?_⟩
    ·rw [ht,hw];rfl
    ·rw [fieldsW_end k (by rw [skx h.1 h.2.1];rfl)]
     exact ht2 ts a l h
    ·rw [ht,hw];rfl
    ·unfold rowR headW
     rw [if_neg (by rw [h.1];decide)]
     exact ht2 ts a [] h
  ·have q:=parts_two hkx
   obtain ⟨l1,hl1⟩:=ih x1 (by omega) hx1 (hv.kid (by rw [hkx];simp))
   obtain ⟨⟨ly,hly⟩,_⟩:=row_x ih k y1 (by omega) (by omega) hy1 (hv.kid (by rw [hkx];simp))
   obtain ⟨_,_,_,_,a3,_,a5,_⟩:=shape_parts hx
   rw [if_pos h1] at a3
   have hxe:x = .mk 11 x.name 0 [x1,y1]:=ty_ext (u:=.mk 11 x.name 0 [x1,y1]) h1 rfl (by show x.n = 0;omega) hkx
   have hflat:flatX ((1,x.name.data.toList) :: (3,[58]) :: (l1 ++ ly)) = rtx true x:=by
    rw [rtx_at h1 hkx,if_pos rfl,flatX_cons,flatX_cons,flatX_app,hl1.flat,hly.flat]
    rfl
   have hkd:∀ z ∈ ((1,x.name.data.toList) :: (3,[58]) :: (l1 ++ ly):List Lex),z.1 ≠ 4:=by
    intro z hz
    rcases List.mem_cons.1 hz with rfl | hz
    ·exact (by decide:(1:Int) ≠ 4)
    rcases List.mem_cons.1 hz with rfl | hz
    ·decide
    rcases List.mem_append.1 hz with hz | hz
    ·exact hl1.kd z hz
    ·exact hly.kd z hz
   have h61:∀ r,∀ d,(flatX (l1 ++ ly) ++ r).head? = some d → d.toNat ≠ 61:=by
    intro r d hd
    rw [flatX_app,hl1.flat] at hd
    obtain ⟨c,m,hc,hc2⟩:∃ c m,txtS x1 = c :: m ∧ c.toNat ≠ 61:=by
     have hh:∀ z:Ty,shapeB wordB z 116 = true → ∃ c m,fromW txtS z = c :: m ∧ c.toNat ≠ 61:=fun z hz=>by
      obtain ⟨m,e⟩:=from_hd hz
      refine ⟨_,m,e,?_⟩
      rcases ty_ops hz with h | h | h | h | h | h | h <;> (rw [h];decide)
     by_cases h4:x1.op = 4
     ·rcases (shape_ty hx1).2 with ⟨_,_⟩ | ⟨_,u,v,huv,hu,_⟩ | ⟨_,_⟩
      ·omega
      ·obtain ⟨c,m,e,hc⟩:=hh u hu
       exact ⟨c,_,by rw [txt_4 h4 huv,e];rfl,hc⟩
      ·omega
     ·obtain ⟨c,m,e,hc⟩:=hh x1 hx1
      unfold fromW at e
      rw [if_neg h4] at e
      exact ⟨c,m,e,hc⟩
    rw [hc] at hd
    cases hd
    exact hc2
   have hlex:∀ r,NoP runsU r → LexAll ((1,x.name.data.toList) :: (3,[58]) :: (l1 ++ ly)) r:=fun r hr =>
    ⟨lex_name a3 _ (run_c (by decide)),lex_sign 58 _ (by decide) (by decide) (fun _=>h61 r),LexAll.app (hl1.lex _ (hly.nr r hr)) (hly.lex r hr)⟩
   have hmain:∀ (ts:List Tok) (n a k:Nat) (l:List (ByteArray × Ty)),AtX ts a ((1,x.name.data.toList) :: (3,[58]) :: (l1 ++ ly)) → ClsAt ts (a + (l1.length + ly.length + 2)) → ly.length ≤ k →
     Got n x.parts.length (tlW ts (fieldsW (wholeW ts n) ts k (fieldW (wholeW ts n) ts (a,0)).2 (l ++ [(fieldW (wholeW ts n) ts (a,0)).1])).1 (fieldsW (wholeW ts n) ts k (fieldW (wholeW ts n) ts (a,0)).2 (l ++ [(fieldW (wholeW ts n) ts (a,0)).1])).2) (rowS l x) (a + (l1.length + ly.length + 2)):=fun ts n a k l h hc hk=>by
    obtain ⟨e,h2⟩:=field_x (rd:=wholeW ts n) h
    obtain ⟨h3,h4⟩:=h2.app
    have hc2:ClsAt ts (a + 2 + l1.length + ly.length):=by rw [show a + 2 + l1.length + ly.length = a + (l1.length + ly.length + 2) by omega];exact hc
    have hg:=hl1.rd ts n (a + 2) h3 (hly.hd ts _ h4 hc2)
    rw [e]
    dsimp only
    rcases hg with ⟨g1,g2⟩ | g
    ·have g3:=six g1
     rw [fieldsW_err k g3,tlW_err _ g3]
     exact .inl ⟨g1,by omega⟩
    ·rw [g]
     have hr:=hly.rd ts n (a + 2 + l1.length) k (l ++ [(x.name,x1)]) h4 hc2 hk
     rw [rowS_snoc,← hxe] at hr
     rw [show a + 2 + l1.length + ly.length = a + (l1.length + ly.length + 2) by omega] at hr
     rcases hr with ⟨g1,g2⟩ | hr
     ·exact .inl ⟨g1,by omega⟩
     ·exact .inr hr
   have hln:((1,x.name.data.toList) :: (3,[58]) :: (l1 ++ ly):List Lex).length = l1.length + ly.length + 2:=by simp
   refine ⟨⟨(3,[44]) :: (1,x.name.data.toList) :: (3,[58]) :: (l1 ++ ly),?_,?_,fun r hr=>⟨lex_sign 44 _ (by decide) (by decide) (fun h=>absurd h (by decide)),hlex r hr⟩,fun ts a h _=>by rw [isG_at h.1 h.2.1];rfl,fun r _=>run_c (by decide),fun ts n a k l h hc hk=>?_⟩,(1,x.name.data.toList) :: (3,[58]) :: (l1 ++ ly),hflat,hkd,hlex,fun ts n a h hc=>?_⟩
   ·rw [flatX_cons,hflat,rtx_at h1 hkx,rtx_at h1 hkx]
    rfl
   ·intro z hz
    rcases List.mem_cons.1 hz with rfl | hz
    ·decide
    ·exact hkd z hz
   ·rw [List.length_cons,hln] at hk hc ⊢
    cases k with
    | zero=>omega
    | succ k =>
     rw [fieldsW,skx h.1 h.2.1,if_pos (by rfl)]
     have:=hmain ts n (a + 1) k l h.2.2 (by rw [show a + 1 + (l1.length + ly.length + 2) = a + (l1.length + ly.length + 2 + 1) by omega];exact hc) (by omega)
     rw [show a + 1 + (l1.length + ly.length + 2) = a + (l1.length + ly.length + 2 + 1) by omega] at this
     exact this
   ·have hle:=AtX.le hkd h (by simp)
    rw [hln] at hc hle ⊢
    unfold rowR headW
    rw [if_pos h.1]
    exact hmain ts n a ts.length [] h hc (by omega)
theorem row_close {x:Ty} {ls:List Lex} (h:RaX x ls) (c:UInt8) (hc:c = 125 ∨ c = 62) (ts:List Tok) (n a:Nat) (ha:AtX ts a (ls ++ [(3,[c])])) :
  Got n x.parts.length ((rowR (wholeW ts n) ts (a,0)).1,wantP ts ⟨#[c]⟩ (rowR (wholeW ts n) ts (a,0)).2) x (a + ls.length + 1):=by
 obtain ⟨h1,h2⟩:=ha.app
 rcases h.rd ts n a h1 ⟨h2.1,hc.imp (fun e=>by rw [← e];exact h2.2.1) (fun e=>by rw [← e];exact h2.2.1)⟩ with ⟨g1,g2⟩ | g
 ·rw [wantP_e (six g1)]
  exact .inl ⟨g1,g2⟩
 ·rw [g]
  dsimp only
  rw [wantP_y (p:=(a + ls.length,0)) rfl (by rw [isG_at h2.1 h2.2.1];rcases hc with rfl | rfl <;> rfl)]
  exact .inr rfl
theorem atom_x {N:Nat} (ih:∀ t:Ty,t.parts.length ≤ N → shapeB wordB t 116 = true → NoV t → ∃ ls,TyX t ls) (t:Ty) (hN:t.parts.length ≤ N + 1) (ht:shapeB wordB t 116 = true) (hv:NoV t) (h4:t.op ≠ 4):∃ ls,AmX t ls:=by
 have hv1:=hv.self
 rcases (shape_ty ht).2 with ⟨h1,hk⟩ | ⟨h1,_⟩ | ⟨h1,x,hk,hx⟩
 ·have h1:t.op = 1 ∨ t.op = 2 ∨ t.op = 3:=by omega
  rcases h1 with h1 | h1 | h1
  ·refine ⟨[(3,[73,110,116])],by rw [txt_1 h1];rfl,fun y hy=>by cases List.mem_singleton.1 hy;decide,fun r hr=>⟨lex_int _ hr,trivial⟩,fun ts n a h=>.inr ?_⟩
   unfold atomW
   rw [skx h.1 h.2.1,if_pos (by rfl),lf_is ht 1 h1 (by decide) (by decide) hk]
   rfl
  ·refine ⟨[(3,[66,111,111,108])],by rw [txt_2 h1];rfl,fun y hy=>by cases List.mem_singleton.1 hy;decide,fun r hr=>⟨lex_bool _ hr,trivial⟩,fun ts n a h=>.inr ?_⟩
   unfold atomW
   rw [skx h.1 h.2.1,if_neg (by decide),skx h.1 h.2.1,if_pos (by rfl),lf_is ht 2 h1 (by decide) (by decide) hk]
   rfl
  ·refine ⟨[(3,[63])],by rw [txt_3 h1];rfl,fun y hy=>by cases List.mem_singleton.1 hy;decide,fun r hr=>⟨lex_sign 63 _ (by decide) (by decide) (fun h=>absurd h (by decide)),trivial⟩,fun ts n a h=>.inr ?_⟩
   unfold atomW
   rw [skx h.1 h.2.1,if_neg (by decide),skx h.1 h.2.1,if_neg (by decide),skx h.1 h.2.1,if_pos (by rfl),lf_is ht 3 h1 (by decide) (by decide) hk]
   rfl
 ·exact absurd h1 h4
 ·have q:=parts_one hk
  obtain ⟨_,ls,hl⟩:=row_x ih _ x (Nat.le_refl _) (by omega) hx (hv.kid (by rw [hk];simp))
  obtain ⟨_,_,_,_,a3,_,a5,_⟩:=shape_parts ht
  rw [if_neg (by omega)] at a3
  have hte:∀ o,t.op = o → t = .mk o noS 0 [x]:=fun o ho=>ty_ext (u:=.mk o noS 0 [x]) ho (name_empty (of_decide_eq_true a3) noS_nil) (by show t.n = 0;omega) hk
  have hkd:∀ (c d:UInt8),∀ y ∈ ((3,[c]) :: (ls ++ [(3,[d])]):List Lex),y.1 ≠ 4:=fun c d y hy=>by
   rcases List.mem_cons.1 hy with rfl | hy
   ·exact (by decide:(3:Int) ≠ 4)
   rcases List.mem_append.1 hy with hy | hy
   ·exact hl.kd y hy
   ·cases List.mem_singleton.1 hy;exact (by decide:(3:Int) ≠ 4)
  have sg:∀ (c:UInt8) (r:List UInt8),c = 123 ∨ c = 125 ∨ c = 60 ∨ c = 62 → LexOk (3,[c]) r:=fun c r h=>by
   rcases h with rfl | rfl | rfl | rfl <;> exact lex_sign _ _ (by decide) (by decide) (fun h=>absurd h (by decide))
  have hlen:∀ (c d:UInt8),((3,[c]) :: (ls ++ [(3,[d])]):List Lex).length = ls.length + 2:=fun c d=>by simp
  rcases h1 with h1 | h1
  ·refine ⟨(3,[123]) :: (ls ++ [(3,[125])]),?_,hkd _ _,fun r hr=>⟨sg 123 _ (.inl rfl),LexAll.app (hl.lex _ (run_c (by decide))) ⟨sg 125 _ (.inr (.inl rfl)),trivial⟩⟩,fun ts n a h=>?_⟩
   ·rw [txt_5 h1 hk,flatX_cons,flatX_app,hl.flat];rfl
   ·have g:=row_close hl 125 (.inl rfl) ts n (a + 1) h.2.2
    unfold atomW
    rw [skx h.1 h.2.1,if_neg (by decide),skx h.1 h.2.1,if_neg (by decide),skx h.1 h.2.1,if_neg (by decide),skx h.1 h.2.1,if_neg (by decide),skx h.1 h.2.1,if_pos (by rfl),hlen]
    dsimp only
    rcases g with ⟨g1,g2⟩ | g
    ·exact .inl ⟨g1,by omega⟩
    ·rw [Prod.mk.injEq] at g
     rw [g.1,g.2,hte 5 h1,show a + 1 + ls.length + 1 = a + (ls.length + 2) by omega]
     exact .inr rfl
  ·refine ⟨(3,[60]) :: (ls ++ [(3,[62])]),?_,hkd _ _,fun r hr=>⟨sg 60 _ (.inr (.inr (.inl rfl))),LexAll.app (hl.lex _ (run_c (by decide))) ⟨sg 62 _ (.inr (.inr (.inr rfl))),trivial⟩⟩,fun ts n a h=>?_⟩
   ·rw [txt_6 h1 hk,flatX_cons,flatX_app,hl.flat];rfl
   ·have g:=row_close hl 62 (.inr rfl) ts n (a + 1) h.2.2
    unfold atomW
    rw [skx h.1 h.2.1,if_neg (by decide),skx h.1 h.2.1,if_neg (by decide),skx h.1 h.2.1,if_neg (by decide),skx h.1 h.2.1,if_neg (by decide),skx h.1 h.2.1,if_neg (by decide),skx h.1 h.2.1,if_pos (by rfl),hlen]
    dsimp only
    rcases g with ⟨g1,g2⟩ | g
    ·exact .inl ⟨g1,by omega⟩
    ·rw [Prod.mk.injEq] at g
     rw [g.1,g.2,hte 6 h1,show a + 1 + ls.length + 1 = a + (ls.length + 2) by omega]
     exact .inr rfl
theorem from_x {N:Nat} (ih:∀ t:Ty,t.parts.length ≤ N → shapeB wordB t 116 = true → NoV t → ∃ ls,TyX t ls) (t:Ty) (hN:t.parts.length ≤ N) (ht:shapeB wordB t 116 = true) (hv:NoV t):∃ ls,FrX t ls:=by
 by_cases h4:t.op = 4
 ·obtain ⟨ls,hl⟩:=ih t hN ht hv
  have sg:∀ (c:UInt8) (r:List UInt8),c = 40 ∨ c = 41 → LexOk (3,[c]) r:=fun c r h=>by
   rcases h with rfl | rfl <;> exact lex_sign _ _ (by decide) (by decide) (fun h=>absurd h (by decide))
  refine ⟨(3,[40]) :: (ls ++ [(3,[41])]),?_,?_,fun r hr=>⟨sg 40 _ (.inl rfl),LexAll.app (hl.lex _ (run_c (by decide))) ⟨sg 41 _ (.inr rfl),trivial⟩⟩,fun ts n a h=>?_⟩
  ·unfold fromW
   rw [if_pos h4,flatX_cons,flatX_app,hl.flat]
   rfl
  ·intro y hy
   rcases List.mem_cons.1 hy with rfl | hy
   ·decide
   rcases List.mem_append.1 hy with hy | hy
   ·exact hl.kd y hy
   ·cases List.mem_singleton.1 hy;decide
  ·obtain ⟨p1,p2⟩:=AtX.app h.2.2
   have g:=hl.rd ts n (a + 1) p1 (by rw [isG_at p2.1 p2.2.1];rfl)
   have hlen:((3,[40]) :: (ls ++ [(3,[41])]):List Lex).length = ls.length + 2:=by simp
   unfold atomW
   rw [skx h.1 h.2.1,if_neg (by decide),skx h.1 h.2.1,if_neg (by decide),skx h.1 h.2.1,if_neg (by decide),skx h.1 h.2.1,if_pos (by rfl),hlen]
   dsimp only
   rcases g with ⟨g1,g2⟩ | g
   ·rw [wantP_e (six g1)]
    exact .inl ⟨g1,g2⟩
   ·rw [g]
    dsimp only
    rw [wantP_y (p:=(a + 1 + ls.length,0)) rfl (by rw [isG_at p2.1 p2.2.1];rfl),show a + 1 + ls.length + 1 = a + (ls.length + 2) by omega]
    exact .inr rfl
 ·obtain ⟨ls,hl⟩:=atom_x ih t (by omega) ht hv h4
  refine ⟨ls,by rw [hl.flat];unfold fromW;rw [if_neg h4],hl.kd,hl.lex,fun ts n a h=>?_⟩
  rcases hl.rd ts n a h with ⟨g1,g2⟩ | g
  ·exact .inl ⟨g1,by omega⟩
  ·exact .inr g
theorem whole_0 {ts:List Tok} {a:Nat} {t:Ty} {b:Nat}:Got 0 t.parts.length (wholeW ts 0 (a,0)) t b:=by
 rw [wholeW]
 exact .inl ⟨rfl,parts_pos t⟩
theorem ty_x:∀ (N:Nat) (t:Ty),t.parts.length ≤ N → shapeB wordB t 116 = true → NoV t → ∃ ls,TyX t ls
 | 0,t,hN,_,_=>by have:=parts_pos t;omega
 | N + 1,t,hN,ht,hv=>by
  have ih:=ty_x N
  by_cases h4:t.op = 4
  ·obtain ⟨x,y,hk,hx,hy⟩:∃ a b,t.kids = [a,b] ∧ shapeB wordB a 116 = true ∧ shapeB wordB b 116 = true:=by
    rcases (shape_ty ht).2 with ⟨_,_⟩ | ⟨_,h⟩ | ⟨_,_⟩
    ·omega
    ·exact h
    ·omega
   have q:=parts_two hk
   have:=parts_pos x
   have:=parts_pos y
   obtain ⟨lf,hf⟩:=from_x ih x (by omega) hx (hv.kid (by rw [hk];simp))
   obtain ⟨ly,hl⟩:=ih y (by omega) hy (hv.kid (by rw [hk];simp))
   obtain ⟨_,_,_,_,a3,_,a5,_⟩:=shape_parts ht
   rw [if_neg (by omega)] at a3
   have hte:t = .mk 4 noS 0 [x,y]:=ty_ext (u:=.mk 4 noS 0 [x,y]) h4 (name_empty (of_decide_eq_true a3) noS_nil) (by show t.n = 0;omega) hk
   refine ⟨lf ++ (3,[45,62]) :: ly,?_,?_,fun r hr=>LexAll.app (hf.lex _ (run_c (by decide))) ⟨lex_to _,hl.lex r hr⟩,fun ts n a h he=>?_⟩
   ·rw [txt_4 h4 hk,flatX_app,flatX_cons,hf.flat,hl.flat];rfl
   ·intro z hz
    rcases List.mem_append.1 hz with hz | hz
    ·exact hf.kd z hz
    rcases List.mem_cons.1 hz with rfl | hz
    ·decide
    ·exact hl.kd z hz
   ·cases n with
    | zero=>exact whole_0
    | succ n =>
     obtain ⟨p1,p2⟩:=AtX.app h
     have g:=hf.rd ts n a p1
     have hlen:(lf ++ (3,[45,62]) :: ly).length = lf.length + 1 + ly.length:=by simp;omega
     rw [hlen] at he ⊢
     rw [wholeW,if_neg (fun h=>h rfl)]
     rcases g with ⟨g1,g2⟩ | g
     ·rw [skB_e (six g1),if_neg (by decide)]
      exact .inl ⟨g1,by omega⟩
     ·rw [g]
      dsimp only
      rw [skx p2.1 p2.2.1,if_pos (by rfl)]
      have g2:=hl.rd ts n (a + lf.length + 1) p2.2.2 (by rw [show a + lf.length + 1 + ly.length = a + (lf.length + 1 + ly.length) by omega];exact he)
      rcases g2 with ⟨g3,g4⟩ | g2
      ·exact .inl ⟨g3,by omega⟩
      ·rw [g2,hte,show a + lf.length + 1 + ly.length = a + (lf.length + 1 + ly.length) by omega]
       exact .inr rfl
  ·obtain ⟨ls,hl⟩:=atom_x ih t hN ht hv h4
   refine ⟨ls,hl.flat,hl.kd,hl.lex,fun ts n a h he=>?_⟩
   cases n with
   | zero=>exact whole_0
   | succ n =>
    rw [wholeW,if_neg (fun h=>h rfl)]
    rcases hl.rd ts n a h with ⟨g1,g2⟩ | g
    ·rw [skB_e (six g1),if_neg (by decide)]
     exact .inl ⟨g1,g2⟩
    ·rw [g]
     dsimp only
     rw [skB_0,he,if_neg (by decide)]
     exact .inr rfl
theorem atX_toks:∀ (xs:List Lex) (pre post:List Tok) (b:Nat),AtX (pre ++ (toksX xs b ++ post)) pre.length xs
 | [],_,_,_=>trivial
 | x :: xs,pre,post,b=>by
  have e:tkA (pre ++ (toksX (x :: xs) b ++ post)) pre.length = tkX x b:=by
   unfold tkA
   rw [List.getElem?_append_right (Nat.le_refl _),Nat.sub_self]
   rfl
  refine ⟨by rw [e];rfl,by rw [e];rfl,?_⟩
  have:=atX_toks xs (pre ++ [tkX x b]) post (b + x.2.length)
  rw [List.length_append,List.append_assoc] at this
  exact this
theorem parse_txt {t:Ty} (ht:shapeB wordB t 116 = true) (hv:NoV t):((parseW (txtS t)).2.2 = 6 ∧ 200 < t.parts.length) ∨ parseW (txtS t) = (canonS t,0,0):=by
 obtain ⟨ls,hl⟩:=ty_x _ t (Nat.le_refl _) ht hv
 have hs:=scan_all ls (hl.lex [] (fun c hc=>by cases hc))
 rw [hl.flat] at hs
 have hat:=atX_toks ls [] [⟨4,⟨#[]⟩,0,((txtS t).length:Int)⟩] 0
 simp only [List.nil_append,List.length_nil] at hat
 have hend:tkA (toksX ls 0 ++ [⟨4,⟨#[]⟩,0,((txtS t).length:Int)⟩]) (0 + ls.length) = ⟨4,⟨#[]⟩,0,((txtS t).length:Int)⟩:=by
  unfold tkA
  rw [Nat.zero_add,List.getElem?_append_right (by rw [toksX_len];exact Nat.le_refl _),toksX_len,Nat.sub_self]
  rfl
 have g:=hl.rd _ 200 0 hat (by rw [hend];rfl)
 unfold parseW
 rw [hs]
 dsimp only
 rw [if_neg (fun h=>h rfl)]
 unfold parseT
 rcases g with ⟨g1,g2⟩ | g
 ·rw [if_pos (six g1)]
  exact .inl ⟨g1,g2⟩
 ·rw [g]
  dsimp only
  rw [if_neg (fun h=>h rfl),if_neg (by rw [hend];exact fun h=>h rfl)]
  exact .inr rfl
end Go.Proofs.YtahpnackkmbmgaaGreatDoor.Vm
end
section
namespace Go.Proofs.YtahpnackkmbmgaaGreatDoor.Vm
open Go.RowKit
set_option maxRecDepth 100000
set_option maxHeartbeats 4000000
section
theorem mark_heap {w:World} {b T m:Nat} {cur:Array Value} (h:w.heap[b]? = some (.cells cur T (0,0))):(w.freeze ⟨b,m,none⟩ 1).heap[b]? = some (.cells cur T (m,m + 1)):=by
 unfold World.freeze
 rw [if_neg (by decide)]
 simp only [Array.getElem?_modify,if_true,h]
 simp
theorem mark_other {w:World} {b m c:Nat} (hc:c ≠ b):(w.freeze ⟨b,m,none⟩ 1).heap[c]? = w.heap[c]?:=by
 unfold World.freeze
 rw [if_neg (by decide)]
 simp only [Array.getElem?_modify]
 rw [if_neg (Ne.symm hc)]
theorem mark_rest (w:World) (b m:Nat):(w.freeze ⟨b,m,none⟩ 1).os = w.os ∧ (w.freeze ⟨b,m,none⟩ 1).tape = w.tape ∧ (w.freeze ⟨b,m,none⟩ 1).output = w.output ∧ (w.freeze ⟨b,m,none⟩ 1).heap.size = w.heap.size:=by
 unfold World.freeze
 rw [if_neg (by decide)]
 exact ⟨rfl,rfl,rfl,by simp⟩
theorem mark_real {t:Nat} {x:Operand} {d:Option Nat} {s:S} {K:S → Prop} {k e:Nat} {z:Bool} {rows:List (List D)} (ht:tyKnown t = true) (hby:isByte t = true) (he:(ty t).elem = some e) (hx:s.get x = .own k) (hk:getO s.o k = .row z e rows) (hne:rows ≠ [])
  (hK:K (S.put ⟨s.t,setO s.o k .dead⟩ d (.d (.sl (ty e).sz rows)))):real.ext (.convert t t x) d s K:=by
 rintro I0 X w0 a w o Q ho hdst hop ⟨I,g,h⟩
 obtain ⟨I2,h2,hI⟩:=h.freeze k
 have hf:frz1 s.o k = setO s.o k (.row true e rows):=by unfold frz1;rw [hk]
 rw [hf] at h2
 have hk0:=getO_some hk (by simp)
 have hlt:k < s.o.length:=(List.getElem?_eq_some_iff.1 hk0).1
 have hk2:(setO s.o k (.row true e rows))[k]? = some (.row true e rows):=by rw [setO_is,List.getElem?_set_self hlt]
 have hv:AtV I2 w g (a.eval x) (.own k):=by have:=h.get x;rw [hx] at this;exact this.mono hI (Keeps.refl _ _)
 have hk3:getO (setO s.o k (.row true e rows)) k = .row true e rows:=by
  have:∀ (l:List O) (k:Nat) (o:O),l[k]? = some o → getO l k = o:=by
   intro l
   induction l with
   | nil=>intro k o h;simp at h
   | cons y l ih=>intro k o h;cases k with | zero=>simp at h;exact h | succ k=>exact ih k o (by simpa using h)
  exact this _ _ _ hk2
 have hat:AtD I2 w (a.eval x) (.sl (ty e).sz rows):=toD_at h2 hv (by show (match getO (setO s.o k (.row true e rows)) k with | .row true e rows=>some (D.sl (ty e).sz rows) | _=>none) = _;rw [hk3])
 obtain ⟨us,hown,hrl,hdr,hbk⟩:=h2.obj k _ hk2
 have hgv:a.eval x = g k:=hv.unown.1.trans (own_gv hown)
 rcases hown.2 with ⟨_,hz⟩ | ⟨b,cap,cur,e0,_,hb,hnc,hcm,hcs,htake⟩
 ·exact absurd (List.eq_nil_of_length_eq_zero hz) hne
 obtain ⟨e',he',hke,hkk⟩:=isByte_at hby
 rw [he] at he'
 obtain rfl:e = e':=Option.some.inj he'
 have hrun:(convert t t (a.eval x)).run Tryz.prog w = .ok (a.eval x) (w.freeze ⟨b,cur.size,none⟩ 1):=by
  have hsh:w.shape? b = some (e,cur.size):=by simp [World.shape?,hb]
  rw [hgv,e0]
  simp [convert,run_underlying (ty_slice ht he),run_underlying (ty_int hke hkk),markStringish,hsh,Result.andThen]
 obtain ⟨f1,f2,f3,f4⟩:=mark_rest w b cur.size
 have hgb:gbl (g k) b:=by rw [e0];rfl
 have hcell:∀ i,(w.freeze ⟨b,cur.size,none⟩ 1).cell? ⟨b,i,none⟩ = w.cell? ⟨b,i,none⟩:=fun i=>by
  rw [cell_get hb]
  unfold World.cell?
  rw [mark_heap hb]
  simp
 have h3:=h2.deadTo (k:=k) (o:=.row true e rows) hk2 (by simp) (w':=w.freeze ⟨b,cur.size,none⟩ 1) hgb f1 f2 f3 f4 (fun c hc=>mark_other hc) hcell
 have hkp:Keeps I2 w (w.freeze ⟨b,cur.size,none⟩ 1):=fun b' n hb' i hi=>by
  by_cases eb:b' = b
  ·subst eb;exact hcell i
  ·exact blk_cell (mark_other eb) i
 have hso:(setO s.o k (.row true e rows)).set k .dead = setO s.o k .dead:=by rw [setO_is,setO_is,List.set_set]
 rw [hso] at h3
 unfold Oper.wp
 have hex:(execOp a.eval o).run Tryz.prog w = .ok (.value (a.eval x)) (w.freeze ⟨b,cur.size,none⟩ 1):=by
  unfold execOp
  rw [ho]
  simp only [Sem.run_bind,hrun,Result.andThen_ok,Sem.run_pure]
 rw [hex,Oper.upon_value,hdst]
 exact ⟨_,⟨I2,g,h3.put (.d (hat.mono (fun _ _ h=>h) hkp)) _⟩,hK⟩
section
variable {qa:IntKind → Int → Int} {qb:Int → Int → Int} {qc:Int → Int → Int} {qd:Int → Int → Int} {qe:Int → Int → Int} {qg:Int → Int → Int} {qh:BinOp → IntKind → Int → IntKind → Int → Option Int} {qi:Int → Int → Bool} {qj:Int → Int → Bool} {qk:Int → Int → Bool} {ql:Int → Prop → Prop} {qm:List UInt8 → List UInt8 → Bool} {qo:List UInt8 → List UInt8 → Bool} {qp:ByteArray → List UInt8} {qq:ByteArray → ByteArray → ByteArray} {qt:ByteArray → ByteArray → Prop → Prop} {qu:ByteArray → Int} {qv:ByteArray → Int → Option Int} {qw:ByteArray → Int → Int → Option ByteArray} {qx:List (List D) → Option ByteArray} {qy:ByteArray → List (List D)} {qz:Int → Nat → Option Nat} {va:List (List D) → Int} {vc:List (List D) → Int → Option (List D)} {vd:List (List D) → Int → Int → Option (List (List D))} {ve:List (List D) → List (List D) → List (List D)} {vf:List (List D) → Int → List D → List (List D)} {vg:List (List D) → List (List D) → Prop → Prop} {vh:List (R × R) → R → Option R} {vj:List (R × R) → R → R → List (R × R)} {vk:List D → List D → Bool} {vl:Int → List D → (List (List D) → Prop) → Prop} {vm:Nat → List R → (List R → Prop) → Prop} {vn:Nat → List V → List O → (V → Prop) → Prop} {vo:Nat → List V → S → (V → S → Prop) → Prop} {vp:Nat → List V → List Nat → S → (V → S → Prop) → Prop} {vq:Nat → (Bool → Prop) → Prop} {vr:Nat → (Bool → Prop) → Prop} {vt:Nat → (List V → List O → Prop) → List V → S → Prop} {vu:(S → Prop) → S → Prop} {vv:Op → Option Nat → S → (S → Prop) → Prop} {vw:Array Oper → S → (S → Prop) → Prop} {vx:Code → (S → (X → S → Prop) → Prop) → S → (X → S → Prop) → Prop}
theorem mark_at (hA:Ar.mk qa qb qc qd qe qg qh qi qj qk ql qm qo qp qq qt qu qv qw qx qy qz va vc vd ve vf vg vh vj vk vl vm vn vo vp vq vr vt vu vv vw vx = real) {t:Nat} {x:Operand} {d:Option Nat} {s:S} {K:S → Prop} (k e:Nat) {z:Bool} {rows:List (List D)} (ht:tyKnown t = true) (hby:isByte t = true) (he:(ty t).elem = some e) (hx:s.get x = .own k) (hk:getO s.o k = .row z e rows) (hne:rows ≠ [])
  (hK:K (S.put ⟨s.t,setO s.o k .dead⟩ d (.d (.sl (ty e).sz rows)))):vv (.convert t t x) d s K:=ext_at hA (mark_real ht hby he hx hk hne hK)
end
end
def zA5:ByteArray:=⟨#[97]⟩
def zB5:ByteArray:=⟨#[98]⟩
def zE5:ByteArray:=⟨#[]⟩
def ty5:Ty:=.mk 5 zE5 0 [.mk 11 zA5 0 [.mk 4 zE5 0 [.mk 3 zE5 0 [],.mk 2 zE5 0 []],.mk 11 zB5 0 [.mk 1 zE5 0 [],.mk 9 zE5 0 []]]]
def l5:List UInt8:=[123,32,98,58,73,110,116,44,32,97,32,58,32,63,45,62,66,111,111,108,32,124,32,63,32,125]
def b5:List (List D):=[[.sc (.int .u8 123)],[.sc (.int .u8 32)],[.sc (.int .u8 98)],[.sc (.int .u8 58)],[.sc (.int .u8 73)],[.sc (.int .u8 110)],[.sc (.int .u8 116)],[.sc (.int .u8 44)],[.sc (.int .u8 32)],[.sc (.int .u8 97)],[.sc (.int .u8 32)],[.sc (.int .u8 58)],[.sc (.int .u8 32)],[.sc (.int .u8 63)],[.sc (.int .u8 45)],[.sc (.int .u8 62)],[.sc (.int .u8 66)],[.sc (.int .u8 111)],[.sc (.int .u8 111)],[.sc (.int .u8 108)],[.sc (.int .u8 32)],[.sc (.int .u8 124)],[.sc (.int .u8 32)],[.sc (.int .u8 63)],[.sc (.int .u8 32)],[.sc (.int .u8 125)]]
def d5:List D:=[.sc (.int .u8 5),.sc (.string ⟨⟨[]⟩⟩),.sc (.int .i64 0),.sl 4 [[.sc (.int .u8 11),.sc (.string ⟨⟨[97]⟩⟩),.sc (.int .i64 0),.sl 4 [[.sc (.int .u8 4),.sc (.string ⟨⟨[]⟩⟩),.sc (.int .i64 0),.sl 4 [[.sc (.int .u8 3),.sc (.string ⟨⟨[]⟩⟩),.sc (.int .i64 0),.sl 4 []],[.sc (.int .u8 2),.sc (.string ⟨⟨[]⟩⟩),.sc (.int .i64 0),.sl 4 []]]],[.sc (.int .u8 11),.sc (.string ⟨⟨[98]⟩⟩),.sc (.int .i64 0),.sl 4 [[.sc (.int .u8 1),.sc (.string ⟨⟨[]⟩⟩),.sc (.int .i64 0),.sl 4 []],[.sc (.int .u8 9),.sc (.string ⟨⟨[]⟩⟩),.sc (.int .i64 0),.sl 4 []]]]]]]]
theorem d5_is:cT ty5 = d5:=by kernel_rfl
theorem b4_is:rU l5 = b5:=by kernel_rfl
theorem p4_is:parseW l5 = (ty5,0,0):=by kernel_rfl
theorem parse_lit5:Spec 12 [.one (.sl 1 b5)] [.ag d5,.one (.sc (.int .i64 0)),.one (.sc (.int .u8 0))]:=by
 have h:=Parse_s l5 (by decide)
 rw [p4_is,b4_is] at h
 rw [← d5_is]
 exact h
theorem sm5_at (t:Ty) (h1:Nat.ble t.parts.length 1048576 = true) (h2:(t.parts.all fun x=>Nat.ble x.name.size 1048576) = true):Sm t :=
 ⟨Nat.le_of_ble_eq_true h1,fun x hx=>Nat.le_of_ble_eq_true (List.all_eq_true.1 h2 x hx)⟩
theorem wf5_at (t:Ty) (h:(t.parts.all fun x=>Nat.ble x.name.size 1048576 && ((Lit.int .u8 x.op).wf && (Lit.int .i64 x.n).wf)) = true):TyWf t:=fun x hx=>by
 have h1:=List.all_eq_true.1 h x hx
 rw [Bool.and_eq_true,Bool.and_eq_true] at h1
 exact ⟨Nat.le_trans (Nat.le_of_ble_eq_true h1.1) (by decide),h1.2.1,h1.2.2⟩
theorem txt5:txtB (canonS ty5) = ⟨#[123,97,58,63,45,62,66,111,111,108,44,98,58,73,110,116,124,63,125]⟩:=by kernel_rfl
theorem print5:Spec 9 [.ag d5] [.one (.sc (.string ⟨#[123,97,58,63,45,62,66,111,111,108,44,98,58,73,110,116,124,63,125]⟩)),.one (.sc (.int .u8 0))]:=by
 have h1:=Print_s ty5 (sm5_at _ (by kernel_rfl) (by kernel_rfl)) (wf5_at _ (by kernel_rfl)) (by kernel_rfl)
 rw [txt5,d5_is] at h1
 exact h1
theorem alive5_s:Spec 7 [] [.one (.sc (.bool true))]:=by
 have h1:=parse_lit5
 have h2:=print5
 unfold b5 d5 at h1
 unfold d5 at h2
 refine spec_of Tryz.func7 rfl (by kernel_rfl) (by kernel_rfl) (by kernel_rfl) fun qa qb qc qd qe qg qh qi qj qk ql qm qo qp qq qt qu qv qw qx qy qz va vc vd ve vf vg vh vj vk vl vm vn vo vp vq vr vt vu vv vw vx hA=>?_
 obtain ⟨e1,e2,e3,e4,e5,e6,e7,e8,e9⟩:=ar_at hA
 obtain ⟨s1,s2,s3,s4,s5,s6,s7⟩:=str_at hA
 cbv
 repeat ((with_reducible apply next_at hA);cbv)
 refine lit_at hA false ?_
 cbv
 refine new_at hA true ?_
 cbv
 refine mark_at hA 0 5 (by kernel_rfl) (by kernel_rfl) rfl rfl rfl (by simp) ?_
 cbv
 have q1:qk (qa .i64 (qb (qa .i64 0) (qa .i64 0))) 0 = true:=by rw [e9,e1,e1,e2];rfl
 obtain ⟨S,hS⟩:∃ S,S = (⟨#[123,97,58,63,45,62,66,111,111,108,44,98,58,73,110,116,124,63,125]⟩:ByteArray):=⟨_,rfl⟩
 rw [← hS] at h2
 have q2:qm (qp S) (qp ⟨#[123,97,58,63,45,62,66,111,111,108,44,98,58,73,110,116,124,63,125]⟩) = true:=by rw [s1,hS];exact beq_self_eq_true _
 iterate 2 (try cbv;repeat ((first | with_reducible apply next_at hA | rw [q1] | rw [q2] | refine call_at hA _ h1 rfl ?_ | refine calm_at hA _ h1 ?_ | refine call_at hA _ h2 rfl ?_ | refine calm_at hA _ h2 ?_);cbv))
 try simp (maxSteps:=4000000) only [nc] at *
theorem AlikeZ_s:∀ t u:Ty,t.parts.length ≤ 1048576 → Spec 14 [.ag (cT t),.ag (cT u)] [.one (.sc (.bool (alikeB t u)))]:=by
 intro t
 induction t using Ty.ind with
 | h t ih =>
  intro u hN
  have hkl:=kids_le t
  obtain ⟨op,nm,n,ks⟩:=t
  obtain ⟨op2,nm2,n2,ks2⟩:=u
  simp only [Ty.kids] at hkl ih
  have hm:ks.length ≤ 1048576:=by omega
  rw [cT,cT]
  generalize hb:alikeB (.mk op nm n ks) (.mk op2 nm2 n2 ks2) = b
  obtain ⟨K,hK⟩:∃ K,K = rT ks:=⟨_,rfl⟩
  obtain ⟨K2,hK2⟩:∃ K,K = rT ks2:=⟨_,rfl⟩
  rw [← hK,← hK2]
  refine spec_of Tryz.func14 rfl (by kernel_rfl) (by kernel_rfl) (by kernel_rfl) fun qa qb qc qd qe qg qh qi qj qk ql qm qo qp qq qt qu qv qw qx qy qz va vc vd ve vf vg vh vj vk vl vm vn vo vp vq vr vt vu vv vw vx hA=>?_
  cbv
  repeat ((with_reducible apply next_at hA);cbv)
  obtain ⟨e1,e2,e3,e4,e5,e6,e7,e8,e9⟩:=ar_at hA
  obtain ⟨s1,s2,s3,-⟩:=str_at hA
  obtain ⟨r1,r2,-⟩:=row_at hA
  rw [alikeB] at hb
  cases h1:qk op op2
  ·cbv
   repeat ((with_reducible apply next_at hA);cbv)
   rw [e9] at h1
   rw [← hb,h1]
   exact ⟨rfl,trivial⟩
  cbv
  cases h2:qm (qp nm) (qp nm2)
  ·cbv
   repeat ((with_reducible apply next_at hA);cbv)
   rw [s1,s3,s3] at h2
   rw [← hb,h2]
   simp
  cbv
  cases h3:qk n n2
  ·cbv
   repeat ((with_reducible apply next_at hA);cbv)
   rw [e9] at h3
   rw [← hb,h3]
   simp
  cbv
  cases h4:qk (va K) (va K2)
  ·cbv
   repeat ((with_reducible apply next_at hA);cbv)
   have h5:ks.length ≠ ks2.length:=by
    rw [e9,r1,r1,hK,hK2,rT_len,rT_len] at h4
    intro h
    rw [h] at h4
    simp at h4
   rw [← hb,alikes_len2 h5]
   simp
  cbv
  repeat ((with_reducible apply next_at hA);cbv)
  have h5:ks.length = ks2.length:=by
   rw [e9,r1,r1,hK,hK2,rT_len,rT_len] at h4
   rw [beq_iff_eq] at h4
   exact Int.ofNat.inj h4
  refine loop_at hA (γ:=Int) (fun z=>[(5,vi .i64 z)]) (fun _=>[]) (fun z=>∃ k:Nat,z = (k:Int) ∧ k ≤ ks.length ∧ alikesB (ks.drop k) (ks2.drop k) = b) (fun z=>ks.length - z.toNat) 0 ?_ ?_ ?_
  ·exact ⟨0,rfl,Nat.zero_le _,by rw [← hb,(by rw [← e9];exact h1:(op == op2) = true),(by rw [← s1,← s3,← s3];exact h2:(nm.toList == nm2.toList) = true),(by rw [← e9];exact h3:(n == n2) = true)];rfl⟩
  ·cbv
  ·intro z hinv
   cbv
   repeat ((with_reducible apply next_at hA);cbv)
   obtain ⟨k,hz,hk,hE⟩:=hinv
   have hz:z = (k:Int):=hz
   have hlen:va K = (ks.length:Int):=by rw [r1,hK,rT_len]
   have hlt:qi z (va K) = decide (k < ks.length):=by rw [e7,hlen,hz];exact decide_eq_decide.2 (by omega)
   by_cases h9:k < ks.length
   ·rw [decide_eq_true h9] at hlt
    obtain ⟨x,hx⟩:∃ x,ks[k]? = some x:=⟨_,List.getElem?_eq_getElem h9⟩
    obtain ⟨y,hy⟩:∃ y,ks2[k]? = some y:=⟨_,List.getElem?_eq_getElem (by omega)⟩
    have g1:vc K z = some (cT x):=by rw [r2,hz,if_pos (by omega),hK];exact rT_get hx
    have g2:vc K2 z = some (cT y):=by rw [r2,hz,if_pos (by omega),hK2];exact rT_get hy
    have hsp:=ih x (List.mem_of_getElem? hx) y (by have:=hkl.2 x (List.mem_of_getElem? hx);omega)
    have hst:=alikes_step2 hx hy
    obtain ⟨o1,m1,n1,l1⟩:=x
    obtain ⟨o2,m2,n2',l2⟩:=y
    rw [cT] at g1 g2 hsp
    rw [cT] at hsp
    generalize rT l1 = L1 at *
    generalize rT l2 = L2 at *
    generalize alikeB (.mk o1 m1 n1 l1) (.mk o2 m2 n2' l2) = c at *
    rw [hlt]
    cbv
    repeat ((with_reducible apply next_at hA);cbv)
    rw [g1]
    cbv
    rw [g2]
    cbv
    refine calm_at hA _ hsp ?_
    cases c
    ·cbv
     repeat ((with_reducible apply next_at hA);cbv)
     rw [← hE,hst]
     exact ⟨rfl,trivial⟩
    ·cbv
     repeat ((with_reducible apply next_at hA);cbv)
     replace hz:z = (k:Int):=hz
     have hz1:qa .i64 (qb z 1) = ((k + 1:Nat):Int):=by rw [e1,e2,hz,IntWalk.i64_in _ (by omega)];omega
     refine ⟨qa .i64 (qb z 1),⟨k + 1,hz1,h9,by rw [← hE,hst];rfl⟩,by rw [hz1,hz];omega,?_⟩
     cbv
   ·rw [decide_eq_false h9] at hlt
    rw [hlt]
    cbv
    repeat ((with_reducible apply next_at hA);cbv)
    rw [← hE,List.drop_eq_nil_of_le (by omega),List.drop_eq_nil_of_le (by omega),alikesB]
    exact ⟨rfl,trivial⟩
section
theorem SameZ_s (t u:Ty) (ht:t.parts.length ≤ 1048576) (hu:u.parts.length ≤ 1048576) (hst:∀ x ∈ t.parts,Spine x) (hsu:∀ x ∈ u.parts,Spine x):Spec 21 [.ag (cT t),.ag (cT u)] [.one (.sc (.bool (alikeB (canonS t) (canonS u))))]:=by
 have h1:=canon_s _ t (Nat.le_refl _) ht hst
 have h2:=canon_s _ u (Nat.le_refl _) hu hsu
 have h3:=AlikeZ_s (canonS t) (canonS u) (by rw [canon_len _ t (Nat.le_refl _) hst];exact ht)
 obtain ⟨a0,a1,a2,a3,ha⟩:=cT_four t
 obtain ⟨b0,b1,b2,b3,hb⟩:=cT_four u
 obtain ⟨c0,c1,c2,c3,hc⟩:=cT_four (canonS t)
 obtain ⟨d0,d1,d2,d3,hd⟩:=cT_four (canonS u)
 rw [ha,hc] at h1
 rw [hb,hd] at h2
 rw [hc,hd] at h3
 rw [ha,hb]
 generalize alikeB (canonS t) (canonS u) = b at *
 refine spec_of Tryz.func21 rfl (by kernel_rfl) (by kernel_rfl) (by kernel_rfl) fun qa qb qc qd qe qg qh qi qj qk ql qm qo qp qq qt qu qv qw qx qy qz va vc vd ve vf vg vh vj vk vl vm vn vo vp vq vr vt vu vv vw vx hA=>?_
 cbv
 repeat (first | (with_reducible apply next_at hA;cbv) | (refine calm_at hA _ h1 ?_;cbv) | (refine calm_at hA _ h2 ?_;cbv) | (refine calm_at hA _ h3 ?_;cbv))
theorem manyB_s (t:Ty) (hN:t.parts.length ≤ 1048576):Spec 8 [.ag (cT t)] [.one (.sc (.bool (decide (400 < t.parts.length))))]:=by
 have h1:=Parts_s t hN
 have hl:(rT t.parts).length = t.parts.length:=rT_len _
 generalize rT t.parts = P at *
 generalize t.parts.length = n at *
 obtain ⟨a0,a1,a2,a3,ha⟩:=cT_four t
 rw [ha] at h1 ⊢
 obtain ⟨b,hb⟩:∃ b,b = decide (400 < n):=⟨_,rfl⟩
 rw [← hb]
 refine spec_of Tryz.func8 rfl (by kernel_rfl) (by kernel_rfl) (by kernel_rfl) fun qa qb qc qd qe qg qh qi qj qk ql qm qo qp qq qt qu qv qw qx qy qz va vc vd ve vf vg vh vj vk vl vm vn vo vp vq vr vt vu vv vw vx hA=>?_
 obtain ⟨e1,e2,e3,e4,e5,e6,e7,e8,e9⟩:=ar_at hA
 obtain ⟨r1,r2,r3,r4⟩:=row_at hA
 have q:qi 400 (va P) = b:=by rw [e7,r1,hl,hb];exact decide_eq_decide.2 (by omega)
 iterate 2 (try cbv;repeat ((first | with_reducible apply next_at hA | rw [q] | refine call_at hA _ h1 rfl ?_ | refine calm_at hA _ h1 ?_);cbv))
 try simp (maxSteps:=4000000) only [nc] at *
theorem varsL_nil:∀ (ts:List Ty) (acc:List Int),varsL ts acc = [] → acc = [] ∧ ∀ x ∈ ts,isVar x = false
 | [],acc,h=>⟨h,fun x hx=>by cases hx⟩
 | t :: ts,acc,h=>by
  obtain ⟨h1,h2⟩:=varsL_nil ts _ h
  by_cases hv:isVar t = true ∧ t.n ∉ acc
  ·rw [if_pos hv] at h1
   simp at h1
  ·rw [if_neg hv] at h1
   refine ⟨h1,fun x hx=>?_⟩
   rcases List.mem_cons.1 hx with rfl | hx
   ·rw [h1] at hv
    simpa using hv
   ·exact h2 x hx
theorem noV_of {t:Ty} (h:varsS t = []):NoV (canonS t):=fun x hx=>by
 have:=(varsL_nil _ _ h).2 x hx
 unfold isVar at this
 rw [Bool.or_eq_false_iff,beq_eq_false_iff_ne,beq_eq_false_iff_ne] at this
 exact this
theorem txtB_inj {t u:Ty} (ht:shapeB wordB t 116 = true) (hu:shapeB wordB u 116 = true):((txtB t).toList == (txtB u).toList) = alikeB t u:=by
 rw [ByteArray.toList_eq,ByteArray.toList_eq,Bool.eq_iff_iff,beq_iff_eq,alike_iff]
 exact ⟨fun h=>txt_inj ht hu h,fun h=>by rw [h]⟩
theorem rows_txt (t:Ty):rowsB (txtB t) = rU (txtS t):=rfl
section
variable {x0 x1 x2 x3 y0 y1 y2 y3:D}
theorem sb_ma (hal:Spec 7 [] [.one (.sc (.bool true))]) (h1:Spec 8 [.ag [x0,x1,x2,x3]] [.one (.sc (.bool true))]):Spec 6 [.ag [x0,x1,x2,x3],.ag [y0,y1,y2,y3]] [.one (.sc (.bool true))]:=by
 refine spec_of Tryz.func6 rfl (by kernel_rfl) (by kernel_rfl) (by kernel_rfl) fun qa qb qc qd qe qg qh qi qj qk ql qm qo qp qq qt qu qv qw qx qy qz va vc vd ve vf vg vh vj vk vl vm vn vo vp vq vr vt vu vv vw vx hA=>?_
 iterate 2 (try cbv;repeat ((first | with_reducible apply next_at hA | refine call_at hA _ hal rfl ?_ | refine calm_at hA _ hal ?_ | refine call_at hA _ h1 rfl ?_ | refine calm_at hA _ h1 ?_);cbv))
 try simp (maxSteps:=4000000) only [nc] at *
theorem sb_mb (hal:Spec 7 [] [.one (.sc (.bool true))]) (h1:Spec 8 [.ag [x0,x1,x2,x3]] [.one (.sc (.bool false))]) (h2:Spec 8 [.ag [y0,y1,y2,y3]] [.one (.sc (.bool true))]):Spec 6 [.ag [x0,x1,x2,x3],.ag [y0,y1,y2,y3]] [.one (.sc (.bool true))]:=by
 refine spec_of Tryz.func6 rfl (by kernel_rfl) (by kernel_rfl) (by kernel_rfl) fun qa qb qc qd qe qg qh qi qj qk ql qm qo qp qq qt qu qv qw qx qy qz va vc vd ve vf vg vh vj vk vl vm vn vo vp vq vr vt vu vv vw vx hA=>?_
 iterate 2 (try cbv;repeat ((first | with_reducible apply next_at hA | refine call_at hA _ hal rfl ?_ | refine calm_at hA _ hal ?_ | refine call_at hA _ h1 rfl ?_ | refine calm_at hA _ h1 ?_ | refine call_at hA _ h2 rfl ?_ | refine calm_at hA _ h2 ?_);cbv))
 try simp (maxSteps:=4000000) only [nc] at *
theorem sb_ra (hal:Spec 7 [] [.one (.sc (.bool true))]) (h1:Spec 8 [.ag [x0,x1,x2,x3]] [.one (.sc (.bool false))]) (h2:Spec 8 [.ag [y0,y1,y2,y3]] [.one (.sc (.bool false))])
  (h3:Spec 10 [.ag [x0,x1,x2,x3]] [.one (.sc (.bool false))]):Spec 6 [.ag [x0,x1,x2,x3],.ag [y0,y1,y2,y3]] [.one (.sc (.bool true))]:=by
 refine spec_of Tryz.func6 rfl (by kernel_rfl) (by kernel_rfl) (by kernel_rfl) fun qa qb qc qd qe qg qh qi qj qk ql qm qo qp qq qt qu qv qw qx qy qz va vc vd ve vf vg vh vj vk vl vm vn vo vp vq vr vt vu vv vw vx hA=>?_
 iterate 2 (try cbv;repeat ((first | with_reducible apply next_at hA | refine call_at hA _ hal rfl ?_ | refine calm_at hA _ hal ?_ | refine call_at hA _ h1 rfl ?_ | refine calm_at hA _ h1 ?_ | refine call_at hA _ h2 rfl ?_ | refine calm_at hA _ h2 ?_ | refine call_at hA _ h3 rfl ?_ | refine calm_at hA _ h3 ?_);cbv))
 try simp (maxSteps:=4000000) only [nc] at *
theorem sb_rb (hal:Spec 7 [] [.one (.sc (.bool true))]) (h1:Spec 8 [.ag [x0,x1,x2,x3]] [.one (.sc (.bool false))]) (h2:Spec 8 [.ag [y0,y1,y2,y3]] [.one (.sc (.bool false))])
  (h3:Spec 10 [.ag [x0,x1,x2,x3]] [.one (.sc (.bool true))]) (h4:Spec 10 [.ag [y0,y1,y2,y3]] [.one (.sc (.bool false))]):Spec 6 [.ag [x0,x1,x2,x3],.ag [y0,y1,y2,y3]] [.one (.sc (.bool true))]:=by
 refine spec_of Tryz.func6 rfl (by kernel_rfl) (by kernel_rfl) (by kernel_rfl) fun qa qb qc qd qe qg qh qi qj qk ql qm qo qp qq qt qu qv qw qx qy qz va vc vd ve vf vg vh vj vk vl vm vn vo vp vq vr vt vu vv vw vx hA=>?_
 iterate 2 (try cbv;repeat ((first | with_reducible apply next_at hA | refine call_at hA _ hal rfl ?_ | refine calm_at hA _ hal ?_ | refine call_at hA _ h1 rfl ?_ | refine calm_at hA _ h1 ?_ | refine call_at hA _ h2 rfl ?_ | refine calm_at hA _ h2 ?_ | refine call_at hA _ h3 rfl ?_ | refine calm_at hA _ h3 ?_ | refine call_at hA _ h4 rfl ?_ | refine calm_at hA _ h4 ?_);cbv))
 try simp (maxSteps:=4000000) only [nc] at *
variable {S U:ByteArray} {b:Bool} {VS:List (List D)} {c0 c1 c2 c3 d0 d1 d2 d3:D}
theorem sb_vars (hal:Spec 7 [] [.one (.sc (.bool true))]) (h1:Spec 8 [.ag [x0,x1,x2,x3]] [.one (.sc (.bool false))]) (h2:Spec 8 [.ag [y0,y1,y2,y3]] [.one (.sc (.bool false))])
  (h3:Spec 10 [.ag [x0,x1,x2,x3]] [.one (.sc (.bool true))]) (h4:Spec 10 [.ag [y0,y1,y2,y3]] [.one (.sc (.bool true))])
  (h5:Spec 9 [.ag [x0,x1,x2,x3]] [.one (.sc (.string S)),.one (.sc (.int .u8 0))]) (h6:Spec 9 [.ag [y0,y1,y2,y3]] [.one (.sc (.string U)),.one (.sc (.int .u8 0))])
  (h7:Spec 21 [.ag [x0,x1,x2,x3],.ag [y0,y1,y2,y3]] [.one (.sc (.bool b))]) (hb:(S.toList == U.toList) = b) (h8:Spec 22 [.ag [x0,x1,x2,x3]] [.one (.sl 1 VS)]) (hv:0 < VS.length):Spec 6 [.ag [x0,x1,x2,x3],.ag [y0,y1,y2,y3]] [.one (.sc (.bool true))]:=by
 refine spec_of Tryz.func6 rfl (by kernel_rfl) (by kernel_rfl) (by kernel_rfl) fun qa qb qc qd qe qg qh qi qj qk ql qm qo qp qq qt qu qv qw qx qy qz va vc vd ve vf vg vh vj vk vl vm vn vo vp vq vr vt vu vv vw vx hA=>?_
 obtain ⟨e1,e2,e3,e4,e5,e6,e7,e8,e9⟩:=ar_at hA
 obtain ⟨s1,s2,s3,s4,s5,s6,s7⟩:=str_at hA
 obtain ⟨r1,r2,r3,r4⟩:=row_at hA
 have q1:qk (qa .i64 (qb (qa .i64 0) (qa .i64 0))) 0 = true:=by simp only [e9,e1,e2];rfl
 have q2:qm (qp S) (qp U) = b:=by rw [s1,s3,s3,hb]
 have q3:qi 0 (va VS) = true:=by rw [e7,r1];exact decide_eq_true (by omega)
 clear hb
 cases b
 ·iterate 2 (try cbv;repeat ((first | with_reducible apply next_at hA | rw [q1] | rw [q2] | rw [q3] | refine call_at hA _ hal rfl ?_ | refine calm_at hA _ hal ?_ | refine call_at hA _ h1 rfl ?_ | refine calm_at hA _ h1 ?_ | refine call_at hA _ h2 rfl ?_ | refine calm_at hA _ h2 ?_ | refine call_at hA _ h3 rfl ?_ | refine calm_at hA _ h3 ?_ | refine call_at hA _ h4 rfl ?_ | refine calm_at hA _ h4 ?_ | refine call_at hA _ h5 rfl ?_ | refine calm_at hA _ h5 ?_ | refine call_at hA _ h6 rfl ?_ | refine calm_at hA _ h6 ?_ | refine call_at hA _ h7 rfl ?_ | refine calm_at hA _ h7 ?_ | refine call_at hA _ h8 rfl ?_ | refine calm_at hA _ h8 ?_);cbv))
  try simp (maxSteps:=4000000) only [nc] at *
 ·iterate 2 (try cbv;repeat ((first | with_reducible apply next_at hA | rw [q1] | rw [q2] | rw [q3] | refine call_at hA _ hal rfl ?_ | refine calm_at hA _ hal ?_ | refine call_at hA _ h1 rfl ?_ | refine calm_at hA _ h1 ?_ | refine call_at hA _ h2 rfl ?_ | refine calm_at hA _ h2 ?_ | refine call_at hA _ h3 rfl ?_ | refine calm_at hA _ h3 ?_ | refine call_at hA _ h4 rfl ?_ | refine calm_at hA _ h4 ?_ | refine call_at hA _ h5 rfl ?_ | refine calm_at hA _ h5 ?_ | refine call_at hA _ h6 rfl ?_ | refine calm_at hA _ h6 ?_ | refine call_at hA _ h7 rfl ?_ | refine calm_at hA _ h7 ?_ | refine call_at hA _ h8 rfl ?_ | refine calm_at hA _ h8 ?_);cbv))
  try simp (maxSteps:=4000000) only [nc] at *
theorem sb_deep {B P:List (List D)} {p:Int} (hal:Spec 7 [] [.one (.sc (.bool true))]) (h1:Spec 8 [.ag [x0,x1,x2,x3]] [.one (.sc (.bool false))]) (h2:Spec 8 [.ag [y0,y1,y2,y3]] [.one (.sc (.bool false))])
  (h3:Spec 10 [.ag [x0,x1,x2,x3]] [.one (.sc (.bool true))]) (h4:Spec 10 [.ag [y0,y1,y2,y3]] [.one (.sc (.bool true))])
  (h5:Spec 9 [.ag [x0,x1,x2,x3]] [.one (.sc (.string S)),.one (.sc (.int .u8 0))]) (h6:Spec 9 [.ag [y0,y1,y2,y3]] [.one (.sc (.string U)),.one (.sc (.int .u8 0))])
  (h7:Spec 21 [.ag [x0,x1,x2,x3],.ag [y0,y1,y2,y3]] [.one (.sc (.bool b))]) (hb:(S.toList == U.toList) = b) (h8:Spec 22 [.ag [x0,x1,x2,x3]] [.one (.sl 1 [])])
  (hB:rowsB S = B) (h9:Spec 12 [.one (.sl 1 B)] [.ag [c0,c1,c2,c3],.one (.sc (.int .i64 p)),.one (.sc (.int .u8 6))]) (h10:Spec 23 [.ag [x0,x1,x2,x3]] [.one (.sl 4 P)]) (hP:200 < P.length):Spec 6 [.ag [x0,x1,x2,x3],.ag [y0,y1,y2,y3]] [.one (.sc (.bool true))]:=by
 refine spec_of Tryz.func6 rfl (by kernel_rfl) (by kernel_rfl) (by kernel_rfl) fun qa qb qc qd qe qg qh qi qj qk ql qm qo qp qq qt qu qv qw qx qy qz va vc vd ve vf vg vh vj vk vl vm vn vo vp vq vr vt vu vv vw vx hA=>?_
 obtain ⟨e1,e2,e3,e4,e5,e6,e7,e8,e9⟩:=ar_at hA
 obtain ⟨s1,s2,s3,s4,s5,s6,s7⟩:=str_at hA
 obtain ⟨r1,r2,r3,r4⟩:=row_at hA
 obtain ⟨k1,k2⟩:=conv_at hA
 have q1:qk (qa .i64 (qb (qa .i64 0) (qa .i64 0))) 0 = true:=by simp only [e9,e1,e2];rfl
 have q2:qm (qp S) (qp U) = b:=by rw [s1,s3,s3,hb]
 have q3:qi 0 (va []) = false:=by rw [e7,r1];rfl
 have q4:qy S = B:=by rw [k2,hB]
 have q5:qk (qa .i64 6) 6 = true:=by rw [e9,e1];rfl
 have q6:qi 200 (va P) = true:=by rw [e7,r1];exact decide_eq_true (by omega)
 clear hb hB
 cases b
 ·iterate 2 (try cbv;repeat ((first | with_reducible apply next_at hA | rw [q1] | rw [q2] | rw [q3] | rw [q4] | rw [q5] | rw [q6] | refine call_at hA _ hal rfl ?_ | refine calm_at hA _ hal ?_ | refine call_at hA _ h1 rfl ?_ | refine calm_at hA _ h1 ?_ | refine call_at hA _ h2 rfl ?_ | refine calm_at hA _ h2 ?_ | refine call_at hA _ h3 rfl ?_ | refine calm_at hA _ h3 ?_ | refine call_at hA _ h4 rfl ?_ | refine calm_at hA _ h4 ?_ | refine call_at hA _ h5 rfl ?_ | refine calm_at hA _ h5 ?_ | refine call_at hA _ h6 rfl ?_ | refine calm_at hA _ h6 ?_ | refine call_at hA _ h7 rfl ?_ | refine calm_at hA _ h7 ?_ | refine call_at hA _ h8 rfl ?_ | refine calm_at hA _ h8 ?_ | refine call_at hA _ h9 rfl ?_ | refine calm_at hA _ h9 ?_ | refine call_at hA _ h10 rfl ?_ | refine calm_at hA _ h10 ?_);cbv))
  try simp (maxSteps:=4000000) only [nc] at *
 ·iterate 2 (try cbv;repeat ((first | with_reducible apply next_at hA | rw [q1] | rw [q2] | rw [q3] | rw [q4] | rw [q5] | rw [q6] | refine call_at hA _ hal rfl ?_ | refine calm_at hA _ hal ?_ | refine call_at hA _ h1 rfl ?_ | refine calm_at hA _ h1 ?_ | refine call_at hA _ h2 rfl ?_ | refine calm_at hA _ h2 ?_ | refine call_at hA _ h3 rfl ?_ | refine calm_at hA _ h3 ?_ | refine call_at hA _ h4 rfl ?_ | refine calm_at hA _ h4 ?_ | refine call_at hA _ h5 rfl ?_ | refine calm_at hA _ h5 ?_ | refine call_at hA _ h6 rfl ?_ | refine calm_at hA _ h6 ?_ | refine call_at hA _ h7 rfl ?_ | refine calm_at hA _ h7 ?_ | refine call_at hA _ h8 rfl ?_ | refine calm_at hA _ h8 ?_ | refine call_at hA _ h9 rfl ?_ | refine calm_at hA _ h9 ?_ | refine call_at hA _ h10 rfl ?_ | refine calm_at hA _ h10 ?_);cbv))
  try simp (maxSteps:=4000000) only [nc] at *
theorem sb_ok {B:List (List D)} {p:Int} (hal:Spec 7 [] [.one (.sc (.bool true))]) (h1:Spec 8 [.ag [x0,x1,x2,x3]] [.one (.sc (.bool false))]) (h2:Spec 8 [.ag [y0,y1,y2,y3]] [.one (.sc (.bool false))])
  (h3:Spec 10 [.ag [x0,x1,x2,x3]] [.one (.sc (.bool true))]) (h4:Spec 10 [.ag [y0,y1,y2,y3]] [.one (.sc (.bool true))])
  (h5:Spec 9 [.ag [x0,x1,x2,x3]] [.one (.sc (.string S)),.one (.sc (.int .u8 0))]) (h6:Spec 9 [.ag [y0,y1,y2,y3]] [.one (.sc (.string U)),.one (.sc (.int .u8 0))])
  (h7:Spec 21 [.ag [x0,x1,x2,x3],.ag [y0,y1,y2,y3]] [.one (.sc (.bool b))]) (hb:(S.toList == U.toList) = b) (h8:Spec 22 [.ag [x0,x1,x2,x3]] [.one (.sl 1 [])])
  (hB:rowsB S = B) (h9:Spec 12 [.one (.sl 1 B)] [.ag [c0,c1,c2,c3],.one (.sc (.int .i64 p)),.one (.sc (.int .u8 0))]) (h10:Spec 20 [.ag [x0,x1,x2,x3]] [.ag [c0,c1,c2,c3]])
  (h11:Spec 14 [.ag [c0,c1,c2,c3],.ag [c0,c1,c2,c3]] [.one (.sc (.bool true))]):Spec 6 [.ag [x0,x1,x2,x3],.ag [y0,y1,y2,y3]] [.one (.sc (.bool true))]:=by
 refine spec_of Tryz.func6 rfl (by kernel_rfl) (by kernel_rfl) (by kernel_rfl) fun qa qb qc qd qe qg qh qi qj qk ql qm qo qp qq qt qu qv qw qx qy qz va vc vd ve vf vg vh vj vk vl vm vn vo vp vq vr vt vu vv vw vx hA=>?_
 obtain ⟨e1,e2,e3,e4,e5,e6,e7,e8,e9⟩:=ar_at hA
 obtain ⟨s1,s2,s3,s4,s5,s6,s7⟩:=str_at hA
 obtain ⟨r1,r2,r3,r4⟩:=row_at hA
 obtain ⟨k1,k2⟩:=conv_at hA
 have q1:qk (qa .i64 (qb (qa .i64 0) (qa .i64 0))) 0 = true:=by simp only [e9,e1,e2];rfl
 have q2:qm (qp S) (qp U) = b:=by rw [s1,s3,s3,hb]
 have q3:qi 0 (va []) = false:=by rw [e7,r1];rfl
 have q4:qy S = B:=by rw [k2,hB]
 have q5:qk (qa .i64 0) 6 = false:=by rw [e9,e1];rfl
 have q6:qk (qa .i64 0) 0 = true:=by rw [e9,e1];rfl
 clear hb hB
 cases b
 ·iterate 2 (try cbv;repeat ((first | with_reducible apply next_at hA | rw [q1] | rw [q2] | rw [q3] | rw [q4] | rw [q5] | rw [q6] | refine call_at hA _ hal rfl ?_ | refine calm_at hA _ hal ?_ | refine call_at hA _ h1 rfl ?_ | refine calm_at hA _ h1 ?_ | refine call_at hA _ h2 rfl ?_ | refine calm_at hA _ h2 ?_ | refine call_at hA _ h3 rfl ?_ | refine calm_at hA _ h3 ?_ | refine call_at hA _ h4 rfl ?_ | refine calm_at hA _ h4 ?_ | refine call_at hA _ h5 rfl ?_ | refine calm_at hA _ h5 ?_ | refine call_at hA _ h6 rfl ?_ | refine calm_at hA _ h6 ?_ | refine call_at hA _ h7 rfl ?_ | refine calm_at hA _ h7 ?_ | refine call_at hA _ h8 rfl ?_ | refine calm_at hA _ h8 ?_ | refine call_at hA _ h9 rfl ?_ | refine calm_at hA _ h9 ?_ | refine call_at hA _ h10 rfl ?_ | refine calm_at hA _ h10 ?_ | refine call_at hA _ h11 rfl ?_ | refine calm_at hA _ h11 ?_);cbv))
  try simp (maxSteps:=4000000) only [nc] at *
 ·iterate 2 (try cbv;repeat ((first | with_reducible apply next_at hA | rw [q1] | rw [q2] | rw [q3] | rw [q4] | rw [q5] | rw [q6] | refine call_at hA _ hal rfl ?_ | refine calm_at hA _ hal ?_ | refine call_at hA _ h1 rfl ?_ | refine calm_at hA _ h1 ?_ | refine call_at hA _ h2 rfl ?_ | refine calm_at hA _ h2 ?_ | refine call_at hA _ h3 rfl ?_ | refine calm_at hA _ h3 ?_ | refine call_at hA _ h4 rfl ?_ | refine calm_at hA _ h4 ?_ | refine call_at hA _ h5 rfl ?_ | refine calm_at hA _ h5 ?_ | refine call_at hA _ h6 rfl ?_ | refine calm_at hA _ h6 ?_ | refine call_at hA _ h7 rfl ?_ | refine calm_at hA _ h7 ?_ | refine call_at hA _ h8 rfl ?_ | refine calm_at hA _ h8 ?_ | refine call_at hA _ h9 rfl ?_ | refine calm_at hA _ h9 ?_ | refine call_at hA _ h10 rfl ?_ | refine calm_at hA _ h10 ?_ | refine call_at hA _ h11 rfl ?_ | refine calm_at hA _ h11 ?_);cbv))
  try simp (maxSteps:=4000000) only [nc] at *
end
theorem SB_s (a b:Ty) (ha:Sm a) (hb:Sm b) (wa:TyWf a) (wb:TyWf b):Spec 6 [.ag (cT a),.ag (cT b)] [.one (.sc (.bool true))]:=by
 have hal:=alive5_s
 have hma:=manyB_s a ha.1
 have hmb:=manyB_s b hb.1
 have hra:=Right_s a ha.1 ha.2
 have hrb:=Right_s b hb.1 hb.2
 have hPa:=Parts_s a ha.1
 obtain ⟨x0,x1,x2,x3,hx⟩:=cT_four a
 obtain ⟨y0,y1,y2,y3,hy⟩:=cT_four b
 by_cases c1:400 < a.parts.length
 ·rw [decide_eq_true c1,hx] at hma
  rw [hx,hy]
  exact sb_ma hal hma
 rw [decide_eq_false c1] at hma
 by_cases c2:400 < b.parts.length
 ·rw [decide_eq_true c2,hy] at hmb
  rw [hx] at hma
  rw [hx,hy]
  exact sb_mb hal hma hmb
 rw [decide_eq_false c2] at hmb
 cases ra:rightB a 116 with
 | false =>
  rw [ra,hx] at hra
  rw [hx] at hma
  rw [hy] at hmb
  rw [hx,hy]
  exact sb_ra hal hma hmb hra
 | true =>
  cases rb:rightB b 116 with
  | false =>
   rw [ra,hx] at hra
   rw [rb,hy] at hrb
   rw [hx] at hma
   rw [hy] at hmb
   rw [hx,hy]
   exact sb_rb hal hma hmb hra hrb
  | true =>
   have hsa:=(right_shape ra).1
   have hsb:=(right_shape rb).1
   have hpa:=Print_s a ha wa ra
   have hpb:=Print_s b hb wb rb
   have hsm:=SameZ_s a b ha.1 hb.1 (shape_spineAll hsa) (shape_spineAll hsb)
   have hvs:=Vars_s a ha.1 (shape_spineAll hsa)
   have hca:=canon_s _ a (Nat.le_refl _) ha.1 (shape_spineAll hsa)
   have sca:=canon_shape _ a 116 (Nat.le_refl _) hsa
   have scb:=canon_shape _ b 116 (Nat.le_refl _) hsb
   have hin:=txtB_inj sca scb
   have hcl:=canon_len _ a (Nat.le_refl _) (shape_spineAll hsa)
   rw [ra] at hra
   rw [rb] at hrb
   by_cases hv:varsS a = []
   ·rw [hv] at hvs
    have hnv:=noV_of hv
    have hq:=parse_txt sca hnv
    have hid:=canon_idem _ a 116 (Nat.le_refl _) hsa
    have hlen:(txtS (canonS a)).length ≤ 65536:=by
     have:=txt_le (mod_canon ra wa)
     omega
    have hpr:=Parse_s (txtS (canonS a)) hlen
    have hrt:=rows_txt (canonS a)
    have hk:=AlikeZ_s (canonS a) (canonS a) (by rw [hcl];exact ha.1)
    rw [(alike_iff _ _).2 rfl] at hk
    rw [hx] at hma hra hpa hsm hvs hca hPa ⊢
    rw [hy] at hmb hrb hpb hsm ⊢
    rcases hq with ⟨q1,q2⟩ | q
    ·unfold PaN at hpr
     rw [q1] at hpr
     obtain ⟨w0,w1,w2,w3,hw⟩:=cT_four (parseW (txtS (canonS a))).1
     rw [hw] at hpr
     exact sb_deep hal hma hmb hra hrb hpa hpb hsm hin hvs hrt hpr hPa (by rw [rT_len];omega)
    ·unfold PaN at hpr
     rw [q,hid] at hpr
     obtain ⟨w0,w1,w2,w3,hw⟩:=cT_four (canonS a)
     rw [hw] at hpr hca hk
     exact sb_ok hal hma hmb hra hrb hpa hpb hsm hin hvs hrt hpr hca hk
   ·rw [hx] at hma hra hpa hsm hvs ⊢
    rw [hy] at hmb hrb hpb hsm ⊢
    refine sb_vars hal hma hmb hra hrb hpa hpb hsm hin hvs ?_
    unfold rI
    rw [List.length_map]
    exact List.length_pos_iff.2 hv
set_option maxRecDepth 100000 in
theorem SB_up {r0 r1:R} {m0 m1:Nat} (d0:DeepR Tryz.prog 25 r0 m0) (d1:DeepR Tryz.prog 25 r1 m1) (hm:m0 + m1 ≤ 1048576):Spec 6 [r0,r1] [.one (.sc (.bool true))]:=by
 obtain ⟨g,rfl,h1,wg,h2⟩:=open_ty d0
 obtain ⟨s,rfl,h3,ws,h4⟩:=open_ty d1
 exact SB_s g s ⟨by omega,fun x hx=>by have:=h2 x hx;omega⟩ ⟨by omega,fun x hx=>by have:=h4 x hx;omega⟩ wg ws
end
end Go.Proofs.YtahpnackkmbmgaaGreatDoor.Vm
end

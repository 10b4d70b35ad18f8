/- Part 7 of the proof: LTok4, LTokens, LRTok0. Conditions: none. -/
import Derived.Test.YtahpnackkmbmgaaGreatM1
import Derived.Test.YtahpnackkmbmgaaGreatM5
import Derived.Test.YtahpnackkmbmgaaGreatM6
set_option linter.all false
set_option linter.unusedVariables false
set_option linter.unusedSimpArgs false
section
namespace Go.Proofs.YtahpnackkmbmgaaGreat
open Go.RowKit
section
theorem token_any (g len cap a:Nat) (A:Option Addr) (l:List Int) (w:World) (hl:l.length = len) (hcap:len ≤ cap) (hm:len ≤ 9223372036854775807) (hb:Byt l) (hs:SliceAt w .u8 A l) (hne:∀ b off,A = some ⟨b,off,none⟩ → l ≠ [] → b ≠ g)
  (hg:Scn w g A len cap a) (ha:a < len) (hbl:blankB (gb l a) = false) (h35:gb l a ≠ 35) :
  Calls Tryz.prog 41 #[.pointer (some ⟨g,0,none⟩)] w (TokLeft w g A len cap a l):=by
 obtain ⟨b,off,rfl,hlb,hc⟩:=hs.cells (by omega)
 cases hr:runsB (gb l a)
 ·by_cases hz:signS (l.drop a) = 0
  ·exact token_none g len cap a b off l w hl hcap hm hb hc hlb hg ha hbl h35 hr hz
  ·exact token_sign g len cap a b off l w hl hcap hm hb hc hlb hg ha hbl h35 hr hz
 ·exact token_run g len cap a b off l w hl hcap hm hb hc hlb (hne b off rfl (by rintro rfl;simp at hl;omega)) hg ha hr
def OwnT (w:World) (base:Nat) (v:Value) (ts:List Tok):Prop:=w.ownsRow base 63 4 v ts.length (ts.flatMap Tok.cells)
section
variable {w w':World} {base:Nat} {v:Value} {ts:List Tok}
theorem OwnT.below (h:OwnT w base v ts) (hb:Below w.heap.size w w'):OwnT w' base v ts:=by
 refine ⟨h.1,?_⟩
 rcases h.2 with h2 | ⟨g,cap,cur,hv,hg,hh,r⟩
 ·exact .inl h2
 ·exact .inr ⟨g,cap,cur,hv,hg,(hb.block g (Array.getElem?_eq_some_iff.1 hh).1).trans hh,r⟩
theorem OwnT.kept {row:Option Nat} (h:OwnT w base v ts) (hg:w.grownBy w' row) (hne:v.ownBlock = none ∨ v.ownBlock ≠ row):OwnT w' base v ts:=World.ownsRow.kept h hg hne
theorem OwnT.nil (w:World) (base:Nat):OwnT w base (.slice none 0 0) []:=World.ownsRow_nil _ _ _ _
theorem OwnT.alloc (h:OwnT w base v ts) (o:Obj):OwnT (w.alloc o) base v ts:=World.ownsRow.alloc h o
theorem OwnT.one {t:Tok} (h:w'.ownsRow base 63 4 v (ts.length + 1) (ts.flatMap Tok.cells ++ t.cells)):OwnT w' base v (ts ++ [t]):=by
 unfold OwnT
 rw [List.length_append,List.flatMap_append]
 simpa using h
theorem OwnT.mono {base':Nat} (h:OwnT w base v ts) (hb:base' ≤ base):OwnT w base' v ts:=by
 refine ⟨h.1,?_⟩
 rcases h.2 with h2 | ⟨g,cap,cur,hv,hg,r⟩
 ·exact .inl h2
 ·exact .inr ⟨g,cap,cur,hv,by omega,r⟩
end
end
theorem tok_info:(Tryz.prog.info? 63).map (fun i=>(i.zero,i.size,i.bytes)) = some (some (.agg #[.int .u8 0,.string ⟨#[]⟩,.int .i64 0,.int .i64 0]),4,40):=by kernel_rfl
def TksTold (k:IntKind) (l:List Int) (w:World) (e:Ending) (w':World):Prop :=
 ∃ v,e = .returned (.tuple #[v,.int .i64 (scanS l 0 false []).2.1,.int k (scanS l 0 false []).2.2]) ∧ OwnT w' w.heap.size v (scanS l 0 false []).1 ∧ Below w.heap.size w w'
theorem tks_of {k:IntKind} {l:List Int} {w w':World} {e:Ending} {v:Value} {ts:List Tok} {p c:Int} (h:scanS l 0 false [] = (ts,p,c)) (he:e = .returned (.tuple #[v,.int .i64 p,.int k c])) (ho:OwnT w' w.heap.size v ts) (hb:Below w.heap.size w w'):TksTold k l w e w':=by
 unfold TksTold
 rw [h]
 exact ⟨v,he,ho,hb⟩
set_option maxRecDepth 100000 in
set_option maxHeartbeats 4000000 in
theorem Tokens_any (A:Option Addr) (len cap:Nat) (l:List Int) (w:World) (hl:l.length = len) (hcap:len ≤ cap) (hm:len ≤ 9223372036854775807) (hb:Byt l) (hs:SliceAt w .u8 A l) (hmax:len ≤ 65536) :
  Calls Tryz.prog 17 #[.slice A len cap] w (TksTold .u8 l w):=by
 have hne:∀ b off,A = some ⟨b,off,none⟩ → l ≠ [] → b ≠ w.heap.size:=by
  rintro b off rfl hn
  rcases hs with h | ⟨b',off',h,hlt,_⟩
  ·exact absurd h hn
  ·injection h with h
   injection h with h
   omega
 have h6':(len:Int) ≤ 65536:=by omega
 have h6'':¬ (65536:Int) < (len:Int):=by omega
 obtain ⟨i0,hi,hz0,hz1,hz2⟩:=info_parts tok_info
 have HL:=Lib.hid hl
 have HB:=Lib.hid hb
 have HS:=Lib.hid hs
 have HNE:=Lib.hid hne
 clear hl hb hs hne
 go_enter Tryz.func17,Tryz.ntmps17
 go_wp2_with fail
 have CB:=fun a wr hs hg ha=>Lib.hid (blanks_any w.heap.size len cap a A l wr HL.out hcap hm HB.out hs HNE.out hg ha)
 have CT:=fun a wr hs hg ha h1 h2=>Lib.hid (token_any w.heap.size len cap a A l wr HL.out hcap hm HB.out hs HNE.out hg ha h1 h2)
 go_loopg [6] len (fun n v wr=>∃ (k:Nat) (ts:List Tok),n = len - k ∧ k ≤ len ∧ ts.length ≤ k ∧ scanS l 0 false [] = scanS l k false ts ∧ Below w.heap.size w wr ∧ w.heap.size + 1 ≤ wr.heap.size ∧ Scn wr w.heap.size A len cap k ∧ OwnT wr (w.heap.size + 1) v ts)
 case atStart=>exact ⟨0,[],by omega,Nat.zero_le _,Nat.le_refl _,rfl,(Below.refl _ _).alloc (Nat.le_refl _) _,by simp,Blk.new _ _ _,OwnT.nil _ _⟩
 case round =>
  obtain ⟨k,ts,rfl,hk,htl,hE,hbel,hsz,hg,ho⟩:=hrel
  have HE:=Lib.hid hE
  have HW:=Lib.hid hbel
  have HO:=Lib.hid ho
  have CBB:=CB k wr (HS.out.below_all hbel) hg hk
  clear hE hbel hg ho CB
  go_wp2_with fail
  refine CBB.out.mono ?_
  rintro e w1 ⟨a',ok,rfl,h1,h2,h3,h4,h5,h6,h7⟩
  have hb1:Below w.heap.size w w1:=HW.out.grown h5 (by omega) (fun k hk=>by injection hk with hk;omega)
  have ho1:OwnT w1 (w.heap.size + 1) u6 ts:=HO.out.kept h5 (by
   right
   intro h
   have:=World.ownsRow.lt HO.out _ h
   omega)
  have HB1:=Lib.hid hb1
  have HO1:=Lib.hid ho1
  have H3:=Lib.hid h3
  have H4:=Lib.hid h4
  have H7:=Lib.hid h7
  have hsz1:w.heap.size + 1 ≤ w1.heap.size:=by omega
  obtain ⟨kc0,kc1,kf⟩:=h7.cells
  clear h3 h4 h5 h6 h7 CBB hb1 ho1 HO
  cases ok
  ·go_wp2_with fail
   go_quiet (fail)
   go_wp2_with fail
   refine bodyPost_ret (v:=.tuple #[.slice none 0 0,.int .i64 (a':Int),.int .u8 3]) (by simp [results,Tryz.results17,go_sem]) rfl ?_
   exact tks_of (HE.out.trans (H4.out (by trivial) ts)) rfl (OwnT.nil _ _) (below_drewN HB1.out _)
  ·by_cases hend:a' = len
   ·have e1:((a':Int) == (len:Int)) = true:=by rw [hend];exact beq_self_eq_true _
    have e2:((a' == len) = true):=by rw [hend];exact beq_self_eq_true _
    have hsc:scanS l 0 false [] = (ts ++ [⟨4,⟨#[]⟩,0,a'⟩],0,0):=by
     rw [HE.out,(H3.out (by trivial)).2 ts,scan_end (by rw [HL.out];omega),HL.out,hend]
    have HSC:=Lib.hid hsc
    have HEND:=Lib.hid hend
    clear hsc hend CT
    go_wp2_with (at_builtin;refine wpList_append_own _ rfl _ _ 51 rfl (w.heap.size + 1) 63 i0 _ 4 40 Tryz.underlying51 hi hz0 hz1 hz2 rfl (by decide) _ _ _ rfl (OwnT.alloc HO1.out _) ⟨w1.heap.size,0,none⟩ 1 1 (Tok.cells ⟨4,⟨#[]⟩,0,a'⟩) rfl rfl ?c1 ?c2 ?c3 ?c4 ?c5 ?_)
    case c1 =>
     intro j u hj
     match j,hj with
     | 0,hj=>simp [Tok.cells] at hj;subst hj;simp [Addr.add]
     | 1,hj=>simp [Tok.cells] at hj;subst hj;simp [Addr.add]
     | 2,hj=>simp [Tok.cells] at hj;subst hj;simp [Addr.add]
     | 3,hj=>simp [Tok.cells] at hj;subst hj;simp [Addr.add]
    case c2=>intro u hu;simp [Tok.cells] at hu;rcases hu with rfl | rfl | rfl | rfl <;> rfl
    case c3=>unfold maxLen;omega
    case c4=>omega
    case c5=>first | omega | (simp;omega)
    intro v' w2 hown' hgrow _
    have ho2:=Lib.hid ((OwnT.one hown').mono (Nat.le_succ _))
    have hb2:=Lib.hid ((HB1.out.alloc (by omega) _).grown hgrow (by first | omega | (simp;omega)) (fun k hk=>Nat.le_trans (Nat.le_succ _) (World.ownsRow.lt HO1.out k hk).1))
    clear hown' hgrow
    go_wp2_with fail
    refine bodyPost_ret (v:=.tuple #[_,.int .i64 0,.int .u8 0]) (by simp [results,Tryz.results17,go_sem];rfl) rfl ?_
    exact tks_of HSC.out rfl ho2.out hb2.out
   ·have e1:((a':Int) == (len:Int)) = false:=by rw [beq_eq_false_iff_ne];omega
    have e2:((a' == len) = false):=by rw [beq_eq_false_iff_ne];omega
    have hx:=(H3.out (by trivial)).1 (by omega)
    have CTT:=CT a' w1 (HS.out.below_all HB1.out) H7.out (by omega) hx.1 hx.2
    clear CT hx
    have HLT:=Lib.hid (show a' < len by omega)
    go_wp2_with fail
    refine CTT.out.mono ?_
    rintro e w2 ⟨⟨kd,tx,n,at_⟩,c,a2,rfl,q1,q2,q3,q4,q5⟩
    simp only [Tok.val]
    have hb2:Below w.heap.size w w2:=HB1.out.grown q4 (by omega) (fun k hk=>by injection hk with hk;omega)
    have ho2:OwnT w2 (w.heap.size + 1) u6 ts:=HO1.out.kept q4 (by
     right
     intro h
     have:=World.ownsRow.lt HO1.out _ h
     omega)
    have hsz2:w.heap.size + 1 ≤ w2.heap.size:=Nat.le_trans hsz1 q4.size
    have HB2:=Lib.hid hb2
    have HO2:=Lib.hid ho2
    have Q2:=Lib.hid q2
    have Q3:=Lib.hid q3
    have Q5:=Lib.hid (q5.alloc (.cells #[.int .u8 kd,.string tx,.int .i64 n,.int .i64 at_] 63))
    obtain ⟨kd0,kd1,_⟩:=q5.cells
    have hgl:w.heap.size < w2.heap.size:=by omega
    clear q2 q3 q4 q5 hb2 ho2 kc0 kc1 kf
    by_cases hc:c = 0
    ·subst hc
     have Q2':=Lib.hid (Q2.out rfl)
     go_wp2_with (at_builtin;refine wpList_append_own _ rfl _ _ 51 rfl (w.heap.size + 1) 63 i0 _ 4 40 Tryz.underlying51 hi hz0 hz1 hz2 rfl (by decide) _ _ _ rfl (OwnT.alloc (OwnT.alloc HO2.out _) _) ⟨w2.heap.size + 1,0,none⟩ 1 1 (Tok.cells ⟨kd,tx,n,at_⟩) rfl rfl ?c1 ?c2 ?c3 ?c4 ?c5 ?_)
     case c1 =>
      intro j u hj
      match j,hj with
      | 0,hj=>simp [Tok.cells] at hj;subst hj;simp
      | 1,hj=>simp [Tok.cells] at hj;subst hj;simp
      | 2,hj=>simp [Tok.cells] at hj;subst hj;simp
      | 3,hj=>simp [Tok.cells] at hj;subst hj;simp
     case c2=>intro u hu;simp [Tok.cells] at hu;rcases hu with rfl | rfl | rfl | rfl <;> rfl
     case c3=>unfold maxLen;omega
     case c4=>omega
     case c5=>first | omega | (simp;omega)
     intro v' w3 hown' hgrow _
     have ho3:=Lib.hid (OwnT.one hown')
     have hb3:=Lib.hid (((HB2.out.alloc (by omega) _).alloc (by first | omega | (simp;omega)) _).grown hgrow (by first | omega | (simp;omega)) (fun k hk=>Nat.le_trans (Nat.le_succ _) (World.ownsRow.lt HO2.out k hk).1))
     have hs3:=Lib.hid (show w.heap.size + 1 ≤ w3.heap.size by have:=hgrow.size;(try simp at this);omega)
     have hq3:Scn w3 w.heap.size A len cap a2:=Blk.grown (Blk.alloc Q5.out _) hgrow (by
      intro h
      have:=World.ownsRow.lt HO2.out _ h.symm
      omega)
     have HQ3:=Lib.hid hq3
     clear hown' hgrow hq3
     go_wp2_with fail
     go_roundg (len - a2)
     case measure=>have:=HLT.out;have:=Q2'.out.1;omega
     case rel=>exact ⟨a2,ts ++ [⟨kd,tx,n,at_⟩],rfl,q1,by (have:=Q2'.out.1;simp;omega),by rw [HE.out,(H3.out (by trivial)).2 ts,Q2'.out.2 ts],hb3.out,hs3.out,HQ3.out,ho3.out⟩
    ·have g0:(c != 0) = true:=bne_iff_ne.2 hc
     have Q3':=Lib.hid (Q3.out hc)
     go_wp2_with fail
     go_quiet (fail)
     go_wp2_with fail
     refine bodyPost_ret (v:=.tuple #[.slice none 0 0,.int .i64 (a2:Int),.int .u8 c]) (by simp [results,Tryz.results17,go_sem]) rfl ?_
     exact tks_of (HE.out.trans (((H3.out (by trivial)).2 ts).trans (Q3'.out ts))) rfl (OwnT.nil _ _) (below_drewN (HB2.out.alloc (by omega) _) _)
def begB (l:List Int) (a:Nat) (s:ByteArray):Bool:=decide (a + s.size ≤ l.length) && ((strOfNums ((l.drop a).take s.size)).toList == s.toList)
def findS (l:List Int) (a:Nat):List ByteArray → ByteArray
 | []=>⟨#[]⟩
 | s :: ws=>if begB l a s = true then s else findS l a ws
def prefB:List Int → List Int → Bool
 | [],_=>true
 | _,[]=>false
 | x :: xs,y :: ys=>(x == y) && prefB xs ys
theorem prefB_iff:∀ (p d:List Int),prefB p d = true ↔ p.length ≤ d.length ∧ d.take p.length = p
 | [],d=>by simp [prefB]
 | x :: xs,[]=>by simp [prefB]
 | x :: xs,y :: ys=>by
  simp only [prefB,Bool.and_eq_true,beq_iff_eq,prefB_iff xs ys,List.length_cons,List.take_succ_cons,List.cons.injEq]
  constructor
  ·rintro ⟨rfl,h1,h2⟩;exact ⟨by omega,rfl,h2⟩
  ·rintro ⟨h1,rfl,h2⟩;exact ⟨rfl,by omega,h2⟩
theorem str_nums (s:ByteArray):strOfNums (numsOf s) = s:=by
 unfold numsOf strOfNums
 apply ByteArray.ext
 have e:((fun n:Int=>UInt8.ofNat n.toNat) ∘ fun b:UInt8=>((b.toNat:Nat):Int)) = id:=by
  funext b
  simp
 simp [e]
theorem beg_pref {l:List Int} {a:Nat} (hb:Byt l) (ha:a ≤ l.length) (s:ByteArray):begB l a s = prefB (numsOf s) (l.drop a):=by
 have h2:Byt ((l.drop a).take s.size):=fun x hx=>hb x (List.mem_of_mem_drop (List.mem_of_mem_take hx))
 rw [Bool.eq_iff_iff,prefB_iff,nums_len,List.length_drop]
 unfold begB
 rw [Bool.and_eq_true,decide_eq_true_iff,beq_iff_eq]
 constructor
 ·rintro ⟨h,e⟩
  refine ⟨by omega,?_⟩
  rw [ByteArray.toList_eq,ByteArray.toList_eq] at e
  have e':strOfNums ((l.drop a).take s.size) = s:=by
   apply ByteArray.ext
   exact Array.toList_inj.1 e
  rw [← nums_str h2,e']
 ·rintro ⟨h,e⟩
  refine ⟨by omega,?_⟩
  rw [e,str_nums]
def findN (d:List Int):List (List Int) → List Int
 | []=>[]
 | p :: ps=>if prefB p d = true then p else findN d ps
theorem find_n {l:List Int} {a:Nat} (hb:Byt l) (ha:a ≤ l.length):∀ ws:List ByteArray,numsOf (findS l a ws) = findN (l.drop a) (ws.map numsOf)
 | []=>rfl
 | s :: ws=>by
  simp only [findS,List.map_cons,findN]
  rw [← beg_pref hb ha]
  by_cases h:begB l a s = true
  ·rw [if_pos h,if_pos h]
  ·rw [if_neg h,if_neg h];exact find_n hb ha ws
theorem signs_n:signWs.map numsOf = signNs:=by decide +kernel
theorem find_one (x:Int) (t:List Int) (h1:∀ p ∈ signNs.take 4,prefB p (x :: t) = false):findN (x :: t) signNs = if x ∈ sgls then [x] else []:=by
 have e1:findN (x :: t) signNs = findN (x :: t) (signNs.drop 4):=by
  simp only [signNs,List.take_succ_cons,List.take_zero,List.mem_cons,List.not_mem_nil,or_false,forall_eq_or_imp,forall_eq] at h1
  obtain ⟨a,b,c,d⟩:=h1
  simp only [signNs,List.drop_succ_cons,List.drop_zero]
  rw [findN,a,if_neg (by decide),findN,b,if_neg (by decide),findN,c,if_neg (by decide),findN,d,if_neg (by decide)]
 have e2:∀ L:List Int,findN (x :: t) (L.map fun c=>[c]) = if x ∈ L then [x] else []:=by
  intro L
  induction L with
  | nil=>rfl
  | cons c L ih =>
   simp only [List.map_cons,findN,prefB,ih,Bool.and_true,beq_iff_eq,List.mem_cons]
   by_cases h:c = x
   ·rw [if_pos h,if_pos (.inl h.symm),h]
   ·rw [if_neg h]
    by_cases h2:x ∈ L
    ·rw [if_pos h2,if_pos (.inr h2)]
    ·rw [if_neg h2,if_neg (by rintro (h3 | h3);exact h h3.symm;exact h2 h3)]
 rw [e1,← e2 sgls]
 rfl
theorem find_law (d:List Int) (hd:d ≠ []):findN d signNs = d.take (signS d):=by
 cases d with
 | nil=>exact absurd rfl hd
 | cons x t =>
  by_cases h:2 ≤ (x :: t).length ∧ dblB (gb (x :: t) 0) (gb (x :: t) 1) = true
  ·have hs:signS (x :: t) = 2:=by unfold signS;rw [if_pos h]
   rw [hs]
   obtain ⟨h1,h2⟩:=h
   cases t with
   | nil=>simp at h1
   | cons y t =>
    simp [gb,dblB] at h2
    rcases h2 with ⟨rfl,rfl⟩ | ⟨rfl,rfl⟩ | ⟨rfl,rfl⟩ | ⟨rfl,rfl⟩ <;> rfl
  ·have hs:signS (x :: t) = if x ∈ sgls then 1 else 0:=by unfold signS;rw [if_neg h];rfl
   rw [find_one,hs]
   ·split <;> rfl
   ·intro p hp
    cases t with
    | nil =>
     simp [signNs] at hp
     rcases hp with rfl | rfl | rfl | rfl <;> simp [prefB]
    | cons y t =>
     simp [gb,dblB] at h
     simp [signNs] at hp
     rcases hp with rfl | rfl | rfl | rfl <;> simp [prefB] <;> omega
theorem find_sign {l:List Int} {a:Nat} (hb:Byt l) (ha:a < l.length):findS l a signWs = strOfNums ((l.drop a).take (signS (l.drop a))):=by
 rw [← str_nums (findS l a signWs),find_n hb (by omega),signs_n,find_law]
 intro h
 have:=congrArg List.length h
 rw [List.length_drop] at this
 simp at this
 omega
theorem find_step {l:List Int} {a j:Nat} {ws:List ByteArray} {x:ByteArray} (hj:j < ws.length) (hx:x = ws.getD j ByteArray.empty):findS l a (ws.drop j) = if begB l a x = true then x else findS l a (ws.drop (j + 1)):=by
 rw [List.drop_eq_getElem_cons hj,findS]
 have:ws[j] = x:=by rw [hx];simp [hj]
 rw [this]
theorem sign_sizes:∀ s ∈ signWs,1 ≤ s.size ∧ s.size ≤ 2:=by
 intro s hs
 simp only [signWs,List.mem_cons,List.not_mem_nil,or_false] at hs
 rcases hs with rfl | rfl | rfl | rfl | rfl | rfl | rfl | rfl | rfl | rfl | rfl | rfl | rfl | rfl | rfl | rfl | rfl | rfl | rfl | rfl | rfl | rfl | rfl | rfl | rfl <;> exact ⟨by decide,by decide⟩
theorem sign_get {j:Nat} (hj:j < 25):1 ≤ (signWs.getD j ByteArray.empty).size ∧ (signWs.getD j ByteArray.empty).size ≤ 2:=by
 have hj':j < signWs.length:=hj
 have e:signWs.getD j ByteArray.empty = signWs[j]:=by simp [hj']
 rw [e]
 exact sign_sizes _ (List.getElem_mem hj')
theorem str_ne {s:ByteArray} (h:1 ≤ s.size):(s.toList == []) = false ∧ s.toList.isEmpty = false ∧ (!s.toList.isEmpty) = true ∧ ¬ s.toList = []:=by
 have hn:¬ s.toList = []:=fun hh=>by
  rw [ByteArray.toList_eq] at hh
  have:=congrArg List.length hh
  rw [Array.length_toList] at this
  have h2:s.data.size = s.size:=rfl
  simp at this
  simp [ByteArray.size,this] at h
 have hi:s.toList.isEmpty = false:=by rw [List.isEmpty_eq_false_iff];exact hn
 exact ⟨beq_eq_false_iff_ne.2 hn,hi,by rw [hi];rfl,hn⟩
theorem row_new (w:World) (xs:List Value) (t:TypeId) {g:Nat} (hg:g = w.heap.size):∀ j u,xs[j]? = some u → (w.alloc (.cells xs.toArray t)).cell? ((⟨g,0,none⟩:Addr).add j) = some u:=fun j u hu=>by
 subst hg
 unfold Addr.add
 by_cases h0:j = 0
 ·subst h0
  simp [World.cell?_alloc_new,hu]
 ·simp [h0,World.cell?_alloc_new,hu]
end Go.Proofs.YtahpnackkmbmgaaGreat
end

/- Part 5 of the proof: RMain, Blk, RScanW, App, RPts, RPlace, RMain2, LWalk1, LWalk2, LWalk3, LWalk4, LNum, LNum2, LNum3, LRun, LSign, LScn, LBlank, LTok1, LTok2. Conditions: none. -/
import Derived.Test.YtahpnackkmbmgaaGreatM1
import Derived.Test.YtahpnackkmbmgaaGreatM4
import Derived.Laws.Rows
import Derived.Maps.AppendAt
import Derived.Deep.AppendLies
import Derived.RegionTactic
import Derived.OwnWalk
import Derived.WalkSpells
import Derived.WalkLawsBesides
import Derived.Deep.LoopGhost
set_option linter.all false
set_option linter.unusedVariables false
set_option linter.unusedSimpArgs false
section
namespace Go.Proofs.YtahpnackkmbmgaaGreat
open Go.RowKit

section
def Blk (w:World) (g:Nat) (t:TypeId) (cs:Array Value):Prop:=w.heap[g]? = some (.cells cs t (0,0))
section
variable {w w':World} {g:Nat} {t:TypeId} {cs:Array Value}
theorem Blk.lt (h:Blk w g t cs):g < w.heap.size:=by
 rcases Nat.lt_or_ge g w.heap.size with hlt | hge
 ·exact hlt
 ·unfold Blk at h;rw [Array.getElem?_eq_none hge] at h;cases h
theorem Blk.cell (h:Blk w g t cs) (i:Nat):w.cell? ⟨g,i,none⟩ = cs[i]?:=cell_of_row w g i cs t (0,0) h
theorem Blk.frozen (h:Blk w g t cs) (i:Nat):w.frozen? ⟨g,i,none⟩ = false:=by
 unfold Blk at h
 simp [World.frozen?,h]
theorem Blk.new (w:World) (t:TypeId) (cs:Array Value):Blk (w.alloc (.cells cs t)) w.heap.size t cs:=heap_alloc_new w _
theorem Blk.drewN (h:Blk w g t cs) (n:Nat):Blk (w.drewN n) g t cs:=h
theorem Blk.alloc (h:Blk w g t cs) (o:Obj):Blk (w.alloc o) g t cs:=(Below.heap_alloc w o g h.lt).trans h
theorem Blk.set_ (h:Blk w g t cs) (i:Nat) (u:Value):Blk (w.setCell ⟨g,i,none⟩ u) g t (cs.setIfInBounds i u):=by
 unfold Blk at h ⊢
 simp [World.setCell,Array.getElem?_modify,h]
theorem Blk.far (h:Blk w g t cs) {p:Addr} (hp:g ≠ p.block) (u:Value):Blk (w.setCell p u) g t cs:=(Below.heap_setCell w p u g hp).trans h
theorem Blk.below {B:Nat} (h:Blk w g t cs) (hb:Below B w w') (hg:g < B):Blk w' g t cs:=(hb.block g hg).trans h
theorem Blk.grown {row:Option Nat} (h:Blk w g t cs) (hb:w.grownBy w' row) (hg:some g ≠ row):Blk w' g t cs:=(hb.block g h.lt hg).trans h
end
section
variable {w w':World} {g:Nat} {t:TypeId} {k:IntKind} {l:List Int}
end
end
theorem next_at (b off len cap a:Nat) (l:List Int) (w:World) (hl:l.length = len) (h0:a < len) (hcap:len ≤ cap) (hm:len ≤ 9223372036854775807) (hb:Byt l) (hc:CellsAt w .u8 b off l) :
  Calls Tryz.prog 105 #[.slice (some ⟨b,off + a,none⟩) (len - a) (cap - a)] w fun e w'=>e = .returned (.tuple #[.int .i32 (rn l a),.int .i64 (nx l a:Nat)]) ∧ w = w':=by
 have h:=next_any b (off + a) (len - a) (cap - a) (l.drop a) w (by rw [List.length_drop,hl]) (by omega) (by omega) (by omega) (byt_drop hb a) (cells_drop hc a)
 rw [next_eq] at h
 exact h
theorem At_at (b off len cap a:Nat) (l:List Int) (w:World) (hl:l.length = len) (h0:a < len) (hcap:len ≤ cap) (hlm:len ≤ 4611686018427387904) (hm:len ≤ 9223372036854775807) (hb:Byt l) (hw:b < w.heap.size) (hc:CellsAt w .u8 b off l) :
  Calls Tryz.prog 50 #[.slice (some ⟨b,off,none⟩) len cap,.int .i64 (a:Int)] w fun e w'=>e = .returned (.tuple #[.int .i64 (rn l a),.int .i64 (nx l a:Nat)]) ∧ Below w.heap.size w w':=by
 have h:=At_any b off len cap a l w hl h0 hcap hlm hm hb hw hc
 rw [next_eq] at h
 exact h
theorem nz_of {n:Nat} (h:n ≠ 0):((n:Int) == 0) = false:=by rw [beq_eq_false_iff_ne];omega
theorem z_of {n:Nat} (h:n = 0):((n:Int) == 0) = true:=by rw [h];rfl
section
section
variable {P:Program} (w:World)
end
section
variable {w w':World} {base:Nat} {t:TypeId} {k:IntKind} {v:Value} {ps:List Int}
end
end



theorem small_any (c:Int) (w:World):Calls Tryz.prog 99 #[.int .u8 c] w fun e w'=>e = .returned (.bool (smallB c)) ∧ w = w':=by
 by_cases h1:97 ≤ c
 ·by_cases h2:c ≤ 122
  ·rw [(small_iff c).2 ⟨h1,h2⟩]
   go_enter Tryz.func99,Tryz.ntmps99
   go_wp2_with fail
   go_ret
   exact ⟨retBool (by simp <;> omega),rfl⟩
  ·rw [(small_no c).2 (fun h=>h2 h.2)]
   go_enter Tryz.func99,Tryz.ntmps99
   go_wp2_with fail
   go_ret
   exact ⟨retBool (by simp <;> omega),rfl⟩
 ·rw [(small_no c).2 (fun h=>h1 h.1)]
  go_enter Tryz.func99,Tryz.ntmps99
  go_wp2_with fail
  go_ret
  exact ⟨retBool (by simp <;> omega),rfl⟩
theorem great_any (c:Int) (w:World):Calls Tryz.prog 100 #[.int .u8 c] w fun e w'=>e = .returned (.bool (greatB c)) ∧ w = w':=by
 by_cases h1:65 ≤ c
 ·by_cases h2:c ≤ 90
  ·rw [(great_iff c).2 ⟨h1,h2⟩]
   go_enter Tryz.func100,Tryz.ntmps100
   go_wp2_with fail
   go_ret
   exact ⟨retBool (by simp <;> omega),rfl⟩
  ·rw [(great_no c).2 (fun h=>h2 h.2)]
   go_enter Tryz.func100,Tryz.ntmps100
   go_wp2_with fail
   go_ret
   exact ⟨retBool (by simp <;> omega),rfl⟩
 ·rw [(great_no c).2 (fun h=>h1 h.1)]
  go_enter Tryz.func100,Tryz.ntmps100
  go_wp2_with fail
  go_ret
  exact ⟨retBool (by simp <;> omega),rfl⟩
theorem digit_any (c:Int) (w:World):Calls Tryz.prog 101 #[.int .u8 c] w fun e w'=>e = .returned (.bool (digitB c)) ∧ w = w':=by
 by_cases h1:48 ≤ c
 ·by_cases h2:c ≤ 57
  ·rw [(digit_iff c).2 ⟨h1,h2⟩]
   go_enter Tryz.func101,Tryz.ntmps101
   go_wp2_with fail
   go_ret
   exact ⟨retBool (by simp <;> omega),rfl⟩
  ·rw [(digit_no c).2 (fun h=>h2 h.2)]
   go_enter Tryz.func101,Tryz.ntmps101
   go_wp2_with fail
   go_ret
   exact ⟨retBool (by simp <;> omega),rfl⟩
 ·rw [(digit_no c).2 (fun h=>h1 h.1)]
  go_enter Tryz.func101,Tryz.ntmps101
  go_wp2_with fail
  go_ret
  exact ⟨retBool (by simp <;> omega),rfl⟩
set_option maxHeartbeats 1000000 in
theorem runs_any (c:Int) (w:World):Calls Tryz.prog 74 #[.int .u8 c] w fun e w'=>e = .returned (.bool (runsB c)) ∧ w = w':=by
 have Hs:=fun w=>Lib.hid (small_any c w)
 have Hg:=fun w=>Lib.hid (great_any c w)
 have Hd:=fun w=>Lib.hid (digit_any c w)
 unfold runsB
 cases hs:smallB c
 ·rw [hs] at Hs
  clear hs
  cases hg:greatB c
  ·rw [hg] at Hg
   clear hg
   cases hd:digitB c
   ·rw [hd] at Hd
    clear hd
    go_enter Tryz.func74,Tryz.ntmps74
    go_wp2_with fail
    refine ((Hs _).out).mono ?_
    rintro e w' ⟨rfl,rfl⟩
    go_wp2_with fail
    refine ((Hg _).out).mono ?_
    rintro e w' ⟨rfl,rfl⟩
    go_wp2_with fail
    refine ((Hd _).out).mono ?_
    rintro e w' ⟨rfl,rfl⟩
    go_wp2_with fail
    go_ret
    exact ⟨retBool (by simp),rfl⟩
   ·rw [hd] at Hd
    clear hd
    go_enter Tryz.func74,Tryz.ntmps74
    go_wp2_with fail
    refine ((Hs _).out).mono ?_
    rintro e w' ⟨rfl,rfl⟩
    go_wp2_with fail
    refine ((Hg _).out).mono ?_
    rintro e w' ⟨rfl,rfl⟩
    go_wp2_with fail
    refine ((Hd _).out).mono ?_
    rintro e w' ⟨rfl,rfl⟩
    go_wp2_with fail
    go_ret
    exact ⟨retBool (by simp),rfl⟩
  ·rw [hg] at Hg
   clear hg
   go_enter Tryz.func74,Tryz.ntmps74
   go_wp2_with fail
   refine ((Hs _).out).mono ?_
   rintro e w' ⟨rfl,rfl⟩
   go_wp2_with fail
   refine ((Hg _).out).mono ?_
   rintro e w' ⟨rfl,rfl⟩
   go_wp2_with fail
   go_ret
   exact ⟨retBool (by simp),rfl⟩
 ·rw [hs] at Hs
  clear hs
  go_enter Tryz.func74,Tryz.ntmps74
  go_wp2_with fail
  refine ((Hs _).out).mono ?_
  rintro e w' ⟨rfl,rfl⟩
  go_wp2_with fail
  go_ret
  exact ⟨retBool (by simp),rfl⟩
theorem kind_any (c:Int) (w:World):Calls Tryz.prog 51 #[.int .u8 c] w fun e w'=>e = .returned (.int .i64 (kindZ c)) ∧ w = w':=by
 unfold kindZ
 by_cases s1:97 ≤ c ∧ c ≤ 122
 ·rw [if_pos ((small_iff c).2 s1)]
  obtain ⟨h1,h2⟩:=s1
  go_enter Tryz.func51,Tryz.ntmps51
  go_wp2_with fail
  go_ret
  exact ⟨rfl,rfl⟩
 rw [if_neg (fun h=>s1 ((small_iff c).1 h))]
 by_cases g1:65 ≤ c ∧ c ≤ 90
 ·rw [if_pos ((great_iff c).2 g1)]
  obtain ⟨h1,h2⟩:=g1
  clear s1
  go_enter Tryz.func51,Tryz.ntmps51
  go_wp2_with fail
  go_ret
  exact ⟨rfl,rfl⟩
 rw [if_neg (fun h=>g1 ((great_iff c).1 h))]
 by_cases d1:48 ≤ c ∧ c ≤ 57
 ·rw [if_pos ((digit_iff c).2 d1)]
  obtain ⟨h1,h2⟩:=d1
  clear s1 g1
  go_enter Tryz.func51,Tryz.ntmps51
  go_wp2_with fail
  go_ret
  exact ⟨rfl,rfl⟩
 rw [if_neg (fun h=>d1 ((digit_iff c).1 h))]
 by_cases u1:c = 95
 ·rw [if_pos u1]
  subst u1
  go_enter Tryz.func51,Tryz.ntmps51
  go_wp2_with fail
  go_ret
  exact ⟨rfl,rfl⟩
 rw [if_neg u1]
 have b:(c == 95) = false:=beq_eq_false_iff_ne.2 u1
 have hk:c < 48 ∨ (58 ≤ c ∧ c ≤ 64) ∨ (91 ≤ c ∧ c ≤ 94) ∨ c = 96 ∨ 122 < c:=by omega
 clear s1 g1 d1 u1
 rcases hk with h | ⟨h,h'⟩ | ⟨h,h'⟩ | h | h
 ·go_enter Tryz.func51,Tryz.ntmps51
  go_wp2_with fail
  go_ret
  exact ⟨rfl,rfl⟩
 ·go_enter Tryz.func51,Tryz.ntmps51
  go_wp2_with fail
  go_ret
  exact ⟨rfl,rfl⟩
 ·go_enter Tryz.func51,Tryz.ntmps51
  go_wp2_with fail
  go_ret
  exact ⟨rfl,rfl⟩
 ·obtain rfl:c = 96:=h
  go_enter Tryz.func51,Tryz.ntmps51
  go_wp2_with fail
  go_ret
  exact ⟨rfl,rfl⟩
 ·go_enter Tryz.func51,Tryz.ntmps51
  go_wp2_with fail
  go_ret
  exact ⟨rfl,rfl⟩
theorem own_0 (s:ByteArray) (w:World) (f0:(s.toList == [102,117,110]) = true):Calls Tryz.prog 103 #[.string s] w fun e w'=>e = .returned (.bool true) ∧ w = w':=by
 go_enter Tryz.func103,Tryz.ntmps103
 go_wp2_with fail
 go_ret
 exact ⟨rfl,rfl⟩
theorem own_1 (s:ByteArray) (w:World) (f0:(s.toList == [102,117,110]) = false) (f1:(s.toList == [114,101,99]) = true):Calls Tryz.prog 103 #[.string s] w fun e w'=>e = .returned (.bool true) ∧ w = w':=by
 go_enter Tryz.func103,Tryz.ntmps103
 go_wp2_with fail
 go_ret
 exact ⟨rfl,rfl⟩
theorem own_2 (s:ByteArray) (w:World) (f0:(s.toList == [102,117,110]) = false) (f1:(s.toList == [114,101,99]) = false) (f2:(s.toList == [108,101,116]) = true):Calls Tryz.prog 103 #[.string s] w fun e w'=>e = .returned (.bool true) ∧ w = w':=by
 go_enter Tryz.func103,Tryz.ntmps103
 go_wp2_with fail
 go_ret
 exact ⟨rfl,rfl⟩
theorem own_3 (s:ByteArray) (w:World) (f0:(s.toList == [102,117,110]) = false) (f1:(s.toList == [114,101,99]) = false) (f2:(s.toList == [108,101,116]) = false) (f3:(s.toList == [105,110]) = true):Calls Tryz.prog 103 #[.string s] w fun e w'=>e = .returned (.bool true) ∧ w = w':=by
 go_enter Tryz.func103,Tryz.ntmps103
 go_wp2_with fail
 go_ret
 exact ⟨rfl,rfl⟩
theorem own_4 (s:ByteArray) (w:World) (f0:(s.toList == [102,117,110]) = false) (f1:(s.toList == [114,101,99]) = false) (f2:(s.toList == [108,101,116]) = false) (f3:(s.toList == [105,110]) = false) (f4:(s.toList == [105,102]) = true):Calls Tryz.prog 103 #[.string s] w fun e w'=>e = .returned (.bool true) ∧ w = w':=by
 go_enter Tryz.func103,Tryz.ntmps103
 go_wp2_with fail
 go_ret
 exact ⟨rfl,rfl⟩
theorem own_5 (s:ByteArray) (w:World) (f0:(s.toList == [102,117,110]) = false) (f1:(s.toList == [114,101,99]) = false) (f2:(s.toList == [108,101,116]) = false) (f3:(s.toList == [105,110]) = false) (f4:(s.toList == [105,102]) = false) (f5:(s.toList == [116,104,101,110]) = true):Calls Tryz.prog 103 #[.string s] w fun e w'=>e = .returned (.bool true) ∧ w = w':=by
 go_enter Tryz.func103,Tryz.ntmps103
 go_wp2_with fail
 go_ret
 exact ⟨rfl,rfl⟩
theorem own_6 (s:ByteArray) (w:World) (f0:(s.toList == [102,117,110]) = false) (f1:(s.toList == [114,101,99]) = false) (f2:(s.toList == [108,101,116]) = false) (f3:(s.toList == [105,110]) = false) (f4:(s.toList == [105,102]) = false) (f5:(s.toList == [116,104,101,110]) = false) (f6:(s.toList == [101,108,115,101]) = true):Calls Tryz.prog 103 #[.string s] w fun e w'=>e = .returned (.bool true) ∧ w = w':=by
 go_enter Tryz.func103,Tryz.ntmps103
 go_wp2_with fail
 go_ret
 exact ⟨rfl,rfl⟩
theorem own_7 (s:ByteArray) (w:World) (f0:(s.toList == [102,117,110]) = false) (f1:(s.toList == [114,101,99]) = false) (f2:(s.toList == [108,101,116]) = false) (f3:(s.toList == [105,110]) = false) (f4:(s.toList == [105,102]) = false) (f5:(s.toList == [116,104,101,110]) = false) (f6:(s.toList == [101,108,115,101]) = false) (f7:(s.toList == [99,97,115,101]) = true):Calls Tryz.prog 103 #[.string s] w fun e w'=>e = .returned (.bool true) ∧ w = w':=by
 go_enter Tryz.func103,Tryz.ntmps103
 go_wp2_with fail
 go_ret
 exact ⟨rfl,rfl⟩
theorem own_8 (s:ByteArray) (w:World) (f0:(s.toList == [102,117,110]) = false) (f1:(s.toList == [114,101,99]) = false) (f2:(s.toList == [108,101,116]) = false) (f3:(s.toList == [105,110]) = false) (f4:(s.toList == [105,102]) = false) (f5:(s.toList == [116,104,101,110]) = false) (f6:(s.toList == [101,108,115,101]) = false) (f7:(s.toList == [99,97,115,101]) = false) (f8:(s.toList == [111,102]) = true):Calls Tryz.prog 103 #[.string s] w fun e w'=>e = .returned (.bool true) ∧ w = w':=by
 go_enter Tryz.func103,Tryz.ntmps103
 go_wp2_with fail
 go_ret
 exact ⟨rfl,rfl⟩
theorem own_9 (s:ByteArray) (w:World) (f0:(s.toList == [102,117,110]) = false) (f1:(s.toList == [114,101,99]) = false) (f2:(s.toList == [108,101,116]) = false) (f3:(s.toList == [105,110]) = false) (f4:(s.toList == [105,102]) = false) (f5:(s.toList == [116,104,101,110]) = false) (f6:(s.toList == [101,108,115,101]) = false) (f7:(s.toList == [99,97,115,101]) = false) (f8:(s.toList == [111,102]) = false) (f9:(s.toList == [101,110,100]) = true):Calls Tryz.prog 103 #[.string s] w fun e w'=>e = .returned (.bool true) ∧ w = w':=by
 go_enter Tryz.func103,Tryz.ntmps103
 go_wp2_with fail
 go_ret
 exact ⟨rfl,rfl⟩
theorem own_10 (s:ByteArray) (w:World) (f0:(s.toList == [102,117,110]) = false) (f1:(s.toList == [114,101,99]) = false) (f2:(s.toList == [108,101,116]) = false) (f3:(s.toList == [105,110]) = false) (f4:(s.toList == [105,102]) = false) (f5:(s.toList == [116,104,101,110]) = false) (f6:(s.toList == [101,108,115,101]) = false) (f7:(s.toList == [99,97,115,101]) = false) (f8:(s.toList == [111,102]) = false) (f9:(s.toList == [101,110,100]) = false) (f10:(s.toList == [116,114,117,101]) = true):Calls Tryz.prog 103 #[.string s] w fun e w'=>e = .returned (.bool true) ∧ w = w':=by
 go_enter Tryz.func103,Tryz.ntmps103
 go_wp2_with fail
 go_ret
 exact ⟨rfl,rfl⟩
theorem own_11 (s:ByteArray) (w:World) (f0:(s.toList == [102,117,110]) = false) (f1:(s.toList == [114,101,99]) = false) (f2:(s.toList == [108,101,116]) = false) (f3:(s.toList == [105,110]) = false) (f4:(s.toList == [105,102]) = false) (f5:(s.toList == [116,104,101,110]) = false) (f6:(s.toList == [101,108,115,101]) = false) (f7:(s.toList == [99,97,115,101]) = false) (f8:(s.toList == [111,102]) = false) (f9:(s.toList == [101,110,100]) = false) (f10:(s.toList == [116,114,117,101]) = false) (f11:(s.toList == [102,97,108,115,101]) = true):Calls Tryz.prog 103 #[.string s] w fun e w'=>e = .returned (.bool true) ∧ w = w':=by
 go_enter Tryz.func103,Tryz.ntmps103
 go_wp2_with fail
 go_ret
 exact ⟨rfl,rfl⟩
theorem own_12 (s:ByteArray) (w:World) (f0:(s.toList == [102,117,110]) = false) (f1:(s.toList == [114,101,99]) = false) (f2:(s.toList == [108,101,116]) = false) (f3:(s.toList == [105,110]) = false) (f4:(s.toList == [105,102]) = false) (f5:(s.toList == [116,104,101,110]) = false) (f6:(s.toList == [101,108,115,101]) = false) (f7:(s.toList == [99,97,115,101]) = false) (f8:(s.toList == [111,102]) = false) (f9:(s.toList == [101,110,100]) = false) (f10:(s.toList == [116,114,117,101]) = false) (f11:(s.toList == [102,97,108,115,101]) = false) (f12:(s.toList == [100,101,102]) = true):Calls Tryz.prog 103 #[.string s] w fun e w'=>e = .returned (.bool true) ∧ w = w':=by
 go_enter Tryz.func103,Tryz.ntmps103
 go_wp2_with fail
 go_ret
 exact ⟨rfl,rfl⟩
theorem own_13 (s:ByteArray) (w:World) (f0:(s.toList == [102,117,110]) = false) (f1:(s.toList == [114,101,99]) = false) (f2:(s.toList == [108,101,116]) = false) (f3:(s.toList == [105,110]) = false) (f4:(s.toList == [105,102]) = false) (f5:(s.toList == [116,104,101,110]) = false) (f6:(s.toList == [101,108,115,101]) = false) (f7:(s.toList == [99,97,115,101]) = false) (f8:(s.toList == [111,102]) = false) (f9:(s.toList == [101,110,100]) = false) (f10:(s.toList == [116,114,117,101]) = false) (f11:(s.toList == [102,97,108,115,101]) = false) (f12:(s.toList == [100,101,102]) = false) (f13:(s.toList == [73,110,116]) = true):Calls Tryz.prog 103 #[.string s] w fun e w'=>e = .returned (.bool true) ∧ w = w':=by
 go_enter Tryz.func103,Tryz.ntmps103
 go_wp2_with fail
 go_ret
 exact ⟨rfl,rfl⟩
theorem own_14 (s:ByteArray) (w:World) (f0:(s.toList == [102,117,110]) = false) (f1:(s.toList == [114,101,99]) = false) (f2:(s.toList == [108,101,116]) = false) (f3:(s.toList == [105,110]) = false) (f4:(s.toList == [105,102]) = false) (f5:(s.toList == [116,104,101,110]) = false) (f6:(s.toList == [101,108,115,101]) = false) (f7:(s.toList == [99,97,115,101]) = false) (f8:(s.toList == [111,102]) = false) (f9:(s.toList == [101,110,100]) = false) (f10:(s.toList == [116,114,117,101]) = false) (f11:(s.toList == [102,97,108,115,101]) = false) (f12:(s.toList == [100,101,102]) = false) (f13:(s.toList == [73,110,116]) = false) (f14:(s.toList == [66,111,111,108]) = true):Calls Tryz.prog 103 #[.string s] w fun e w'=>e = .returned (.bool true) ∧ w = w':=by
 go_enter Tryz.func103,Tryz.ntmps103
 go_wp2_with fail
 go_ret
 exact ⟨rfl,rfl⟩
theorem own_15 (s:ByteArray) (w:World) (f0:(s.toList == [102,117,110]) = false) (f1:(s.toList == [114,101,99]) = false) (f2:(s.toList == [108,101,116]) = false) (f3:(s.toList == [105,110]) = false) (f4:(s.toList == [105,102]) = false) (f5:(s.toList == [116,104,101,110]) = false) (f6:(s.toList == [101,108,115,101]) = false) (f7:(s.toList == [99,97,115,101]) = false) (f8:(s.toList == [111,102]) = false) (f9:(s.toList == [101,110,100]) = false) (f10:(s.toList == [116,114,117,101]) = false) (f11:(s.toList == [102,97,108,115,101]) = false) (f12:(s.toList == [100,101,102]) = false) (f13:(s.toList == [73,110,116]) = false) (f14:(s.toList == [66,111,111,108]) = false):Calls Tryz.prog 103 #[.string s] w fun e w'=>e = .returned (.bool false) ∧ w = w':=by
 go_enter Tryz.func103,Tryz.ntmps103
 go_wp2_with fail
 go_ret
 exact ⟨rfl,rfl⟩
theorem toList_bytes (l:List UInt8):(ByteArray.mk l.toArray).toList = l:=by rw [ByteArray.toList_eq]
theorem inB_cons (w:ByteArray) (ws:List ByteArray) (s:ByteArray):inB (w :: ws) s = ((w.toList == s.toList) || inB ws s):=rfl
theorem own_any (s:ByteArray) (w:World):Calls Tryz.prog 103 #[.string s] w fun e w'=>e = .returned (.bool (ownB s)) ∧ w = w':=by
 unfold ownB ownWs
 rw [inB_cons,toList_bytes [102,117,110]]
 by_cases c0:s.toList = [102,117,110]
 ·rw [c0,beq_self_eq_true,Bool.true_or]
  exact own_0 s w  (by rw [c0];rfl)
 rw [beq_eq_false_iff_ne.2 (Ne.symm c0),Bool.false_or]
 rw [inB_cons,toList_bytes [114,101,99]]
 by_cases c1:s.toList = [114,101,99]
 ·rw [c1,beq_self_eq_true,Bool.true_or]
  exact own_1 s w (beq_eq_false_iff_ne.2 c0) (by rw [c1];rfl)
 rw [beq_eq_false_iff_ne.2 (Ne.symm c1),Bool.false_or]
 rw [inB_cons,toList_bytes [108,101,116]]
 by_cases c2:s.toList = [108,101,116]
 ·rw [c2,beq_self_eq_true,Bool.true_or]
  exact own_2 s w (beq_eq_false_iff_ne.2 c0) (beq_eq_false_iff_ne.2 c1) (by rw [c2];rfl)
 rw [beq_eq_false_iff_ne.2 (Ne.symm c2),Bool.false_or]
 rw [inB_cons,toList_bytes [105,110]]
 by_cases c3:s.toList = [105,110]
 ·rw [c3,beq_self_eq_true,Bool.true_or]
  exact own_3 s w (beq_eq_false_iff_ne.2 c0) (beq_eq_false_iff_ne.2 c1) (beq_eq_false_iff_ne.2 c2) (by rw [c3];rfl)
 rw [beq_eq_false_iff_ne.2 (Ne.symm c3),Bool.false_or]
 rw [inB_cons,toList_bytes [105,102]]
 by_cases c4:s.toList = [105,102]
 ·rw [c4,beq_self_eq_true,Bool.true_or]
  exact own_4 s w (beq_eq_false_iff_ne.2 c0) (beq_eq_false_iff_ne.2 c1) (beq_eq_false_iff_ne.2 c2) (beq_eq_false_iff_ne.2 c3) (by rw [c4];rfl)
 rw [beq_eq_false_iff_ne.2 (Ne.symm c4),Bool.false_or]
 rw [inB_cons,toList_bytes [116,104,101,110]]
 by_cases c5:s.toList = [116,104,101,110]
 ·rw [c5,beq_self_eq_true,Bool.true_or]
  exact own_5 s w (beq_eq_false_iff_ne.2 c0) (beq_eq_false_iff_ne.2 c1) (beq_eq_false_iff_ne.2 c2) (beq_eq_false_iff_ne.2 c3) (beq_eq_false_iff_ne.2 c4) (by rw [c5];rfl)
 rw [beq_eq_false_iff_ne.2 (Ne.symm c5),Bool.false_or]
 rw [inB_cons,toList_bytes [101,108,115,101]]
 by_cases c6:s.toList = [101,108,115,101]
 ·rw [c6,beq_self_eq_true,Bool.true_or]
  exact own_6 s w (beq_eq_false_iff_ne.2 c0) (beq_eq_false_iff_ne.2 c1) (beq_eq_false_iff_ne.2 c2) (beq_eq_false_iff_ne.2 c3) (beq_eq_false_iff_ne.2 c4) (beq_eq_false_iff_ne.2 c5) (by rw [c6];rfl)
 rw [beq_eq_false_iff_ne.2 (Ne.symm c6),Bool.false_or]
 rw [inB_cons,toList_bytes [99,97,115,101]]
 by_cases c7:s.toList = [99,97,115,101]
 ·rw [c7,beq_self_eq_true,Bool.true_or]
  exact own_7 s w (beq_eq_false_iff_ne.2 c0) (beq_eq_false_iff_ne.2 c1) (beq_eq_false_iff_ne.2 c2) (beq_eq_false_iff_ne.2 c3) (beq_eq_false_iff_ne.2 c4) (beq_eq_false_iff_ne.2 c5) (beq_eq_false_iff_ne.2 c6) (by rw [c7];rfl)
 rw [beq_eq_false_iff_ne.2 (Ne.symm c7),Bool.false_or]
 rw [inB_cons,toList_bytes [111,102]]
 by_cases c8:s.toList = [111,102]
 ·rw [c8,beq_self_eq_true,Bool.true_or]
  exact own_8 s w (beq_eq_false_iff_ne.2 c0) (beq_eq_false_iff_ne.2 c1) (beq_eq_false_iff_ne.2 c2) (beq_eq_false_iff_ne.2 c3) (beq_eq_false_iff_ne.2 c4) (beq_eq_false_iff_ne.2 c5) (beq_eq_false_iff_ne.2 c6) (beq_eq_false_iff_ne.2 c7) (by rw [c8];rfl)
 rw [beq_eq_false_iff_ne.2 (Ne.symm c8),Bool.false_or]
 rw [inB_cons,toList_bytes [101,110,100]]
 by_cases c9:s.toList = [101,110,100]
 ·rw [c9,beq_self_eq_true,Bool.true_or]
  exact own_9 s w (beq_eq_false_iff_ne.2 c0) (beq_eq_false_iff_ne.2 c1) (beq_eq_false_iff_ne.2 c2) (beq_eq_false_iff_ne.2 c3) (beq_eq_false_iff_ne.2 c4) (beq_eq_false_iff_ne.2 c5) (beq_eq_false_iff_ne.2 c6) (beq_eq_false_iff_ne.2 c7) (beq_eq_false_iff_ne.2 c8) (by rw [c9];rfl)
 rw [beq_eq_false_iff_ne.2 (Ne.symm c9),Bool.false_or]
 rw [inB_cons,toList_bytes [116,114,117,101]]
 by_cases c10:s.toList = [116,114,117,101]
 ·rw [c10,beq_self_eq_true,Bool.true_or]
  exact own_10 s w (beq_eq_false_iff_ne.2 c0) (beq_eq_false_iff_ne.2 c1) (beq_eq_false_iff_ne.2 c2) (beq_eq_false_iff_ne.2 c3) (beq_eq_false_iff_ne.2 c4) (beq_eq_false_iff_ne.2 c5) (beq_eq_false_iff_ne.2 c6) (beq_eq_false_iff_ne.2 c7) (beq_eq_false_iff_ne.2 c8) (beq_eq_false_iff_ne.2 c9) (by rw [c10];rfl)
 rw [beq_eq_false_iff_ne.2 (Ne.symm c10),Bool.false_or]
 rw [inB_cons,toList_bytes [102,97,108,115,101]]
 by_cases c11:s.toList = [102,97,108,115,101]
 ·rw [c11,beq_self_eq_true,Bool.true_or]
  exact own_11 s w (beq_eq_false_iff_ne.2 c0) (beq_eq_false_iff_ne.2 c1) (beq_eq_false_iff_ne.2 c2) (beq_eq_false_iff_ne.2 c3) (beq_eq_false_iff_ne.2 c4) (beq_eq_false_iff_ne.2 c5) (beq_eq_false_iff_ne.2 c6) (beq_eq_false_iff_ne.2 c7) (beq_eq_false_iff_ne.2 c8) (beq_eq_false_iff_ne.2 c9) (beq_eq_false_iff_ne.2 c10) (by rw [c11];rfl)
 rw [beq_eq_false_iff_ne.2 (Ne.symm c11),Bool.false_or]
 rw [inB_cons,toList_bytes [100,101,102]]
 by_cases c12:s.toList = [100,101,102]
 ·rw [c12,beq_self_eq_true,Bool.true_or]
  exact own_12 s w (beq_eq_false_iff_ne.2 c0) (beq_eq_false_iff_ne.2 c1) (beq_eq_false_iff_ne.2 c2) (beq_eq_false_iff_ne.2 c3) (beq_eq_false_iff_ne.2 c4) (beq_eq_false_iff_ne.2 c5) (beq_eq_false_iff_ne.2 c6) (beq_eq_false_iff_ne.2 c7) (beq_eq_false_iff_ne.2 c8) (beq_eq_false_iff_ne.2 c9) (beq_eq_false_iff_ne.2 c10) (beq_eq_false_iff_ne.2 c11) (by rw [c12];rfl)
 rw [beq_eq_false_iff_ne.2 (Ne.symm c12),Bool.false_or]
 rw [inB_cons,toList_bytes [73,110,116]]
 by_cases c13:s.toList = [73,110,116]
 ·rw [c13,beq_self_eq_true,Bool.true_or]
  exact own_13 s w (beq_eq_false_iff_ne.2 c0) (beq_eq_false_iff_ne.2 c1) (beq_eq_false_iff_ne.2 c2) (beq_eq_false_iff_ne.2 c3) (beq_eq_false_iff_ne.2 c4) (beq_eq_false_iff_ne.2 c5) (beq_eq_false_iff_ne.2 c6) (beq_eq_false_iff_ne.2 c7) (beq_eq_false_iff_ne.2 c8) (beq_eq_false_iff_ne.2 c9) (beq_eq_false_iff_ne.2 c10) (beq_eq_false_iff_ne.2 c11) (beq_eq_false_iff_ne.2 c12) (by rw [c13];rfl)
 rw [beq_eq_false_iff_ne.2 (Ne.symm c13),Bool.false_or]
 rw [inB_cons,toList_bytes [66,111,111,108]]
 by_cases c14:s.toList = [66,111,111,108]
 ·rw [c14,beq_self_eq_true,Bool.true_or]
  exact own_14 s w (beq_eq_false_iff_ne.2 c0) (beq_eq_false_iff_ne.2 c1) (beq_eq_false_iff_ne.2 c2) (beq_eq_false_iff_ne.2 c3) (beq_eq_false_iff_ne.2 c4) (beq_eq_false_iff_ne.2 c5) (beq_eq_false_iff_ne.2 c6) (beq_eq_false_iff_ne.2 c7) (beq_eq_false_iff_ne.2 c8) (beq_eq_false_iff_ne.2 c9) (beq_eq_false_iff_ne.2 c10) (beq_eq_false_iff_ne.2 c11) (beq_eq_false_iff_ne.2 c12) (beq_eq_false_iff_ne.2 c13) (by rw [c14];rfl)
 rw [beq_eq_false_iff_ne.2 (Ne.symm c14),Bool.false_or]
 exact own_15 s w (beq_eq_false_iff_ne.2 c0) (beq_eq_false_iff_ne.2 c1) (beq_eq_false_iff_ne.2 c2) (beq_eq_false_iff_ne.2 c3) (beq_eq_false_iff_ne.2 c4) (beq_eq_false_iff_ne.2 c5) (beq_eq_false_iff_ne.2 c6) (beq_eq_false_iff_ne.2 c7) (beq_eq_false_iff_ne.2 c8) (beq_eq_false_iff_ne.2 c9) (beq_eq_false_iff_ne.2 c10) (beq_eq_false_iff_ne.2 c11) (beq_eq_false_iff_ne.2 c12) (beq_eq_false_iff_ne.2 c13) (beq_eq_false_iff_ne.2 c14)
theorem nums_pos (s:ByteArray):decide (0 < (numsOf s).length) = !(s.toList.isEmpty):=by
 rw [nums_len,ByteArray.toList_eq]
 have:s.size = s.data.toList.length:=by rw [Array.length_toList];rfl
 rw [this]
 cases s.data.toList <;> simp
set_option maxHeartbeats 1000000 in
theorem wordly_any (s:ByteArray) (w:World) (hm:s.size ≤ maxLen):Calls Tryz.prog 104 #[.string s] w fun e w'=>e = .returned (.bool (wordlyB (numsOf s))) ∧ w = w':=by
 unfold maxLen at hm
 go_enter Tryz.func104,Tryz.ntmps104
 go_wp2_with fail
 go_loop [7] (fun i=>∃ k:Nat,k ≤ s.size ∧ i = .int .i64 k ∧ ∀ i,i < k → okAt (numsOf s) i = true) (fun i=>s.size - (intOf i).toNat)
 case atStart=>exact ⟨0,Nat.zero_le _,rfl,fun i h=>by omega⟩
 case round =>
  obtain ⟨k,hk,rfl,hE⟩:=hrel
  have HE:=Lib.hid hE
  clear hE
  by_cases hlt:k < s.size
  ·have hgb:=nums_gb s k hlt
   have hno:okAt (numsOf s) k = false → wordlyB (numsOf s) = false:=wordly_no (by rw [nums_len];exact hlt)
   have hok:okAt (numsOf s) k = (smallB (s[k].toNat:Int) || (decide (0 < k) && (digitB (s[k].toNat:Int) || (s[k].toNat:Int) == 95))):=by unfold okAt;rw [← hgb]
   have HNO:=Lib.hid hno
   have HOK:=Lib.hid hok
   clear hno hok hgb
   cases hs:smallB (s[k].toNat:Int)
   ·rw [hs] at HOK
    by_cases h0:k = 0
    ·subst h0
     have hf:=Lib.hid (HNO.out (by rw [HOK.out];rfl))
     clear HOK HNO
     go_wp2_with fail
     refine (small_any _ _).mono ?_
     rintro e w' ⟨rfl,rfl⟩
     go_wp2_with fail
     go_ret
     exact ⟨retBool hf.out.symm,rfl⟩
    ·have hz:((k:Int) == 0) = false:=by rw [beq_eq_false_iff_ne];omega
     have hp:decide (0 < k) = true:=by rw [decide_eq_true_eq];omega
     cases hd:digitB (s[k].toNat:Int)
     ·rw [hd,hp] at HOK
      cases hu:((s[k].toNat:Int) == 95)
      ·rw [hu] at HOK
       have hf:=Lib.hid (HNO.out (by rw [HOK.out];rfl))
       have hu2:((s[k].toNat:Int) != 95) = true:=by rw [bne,hu];rfl
       clear HOK HNO hp
       go_wp2_with fail
       refine (small_any _ _).mono ?_
       rintro e w' ⟨rfl,rfl⟩
       go_wp2_with fail
       refine (digit_any _ _).mono ?_
       rintro e w' ⟨rfl,rfl⟩
       go_wp2_with fail
       go_ret
       exact ⟨retBool hf.out.symm,rfl⟩
      ·rw [hu] at HOK
       have hf:=Lib.hid (ok_snoc HE.out (by rw [HOK.out];rfl))
       have hu2:((s[k].toNat:Int) != 95) = false:=by rw [bne,hu];rfl
       clear HOK HNO hp
       go_wp2_with fail
       refine (small_any _ _).mono ?_
       rintro e w' ⟨rfl,rfl⟩
       go_wp2_with fail
       refine (digit_any _ _).mono ?_
       rintro e w' ⟨rfl,rfl⟩
       go_wp2_with fail
       go_round
       case rel=>exact ⟨k + 1,by omega,by go_num,hf.out⟩
       case measure=>simp [intOf];omega
     ·rw [hd,hp] at HOK
      have hf:=Lib.hid (ok_snoc HE.out (by rw [HOK.out];rfl))
      clear HOK HNO hp
      go_wp2_with fail
      refine (small_any _ _).mono ?_
      rintro e w' ⟨rfl,rfl⟩
      go_wp2_with fail
      refine (digit_any _ _).mono ?_
      rintro e w' ⟨rfl,rfl⟩
      go_wp2_with fail
      go_round
      case rel=>exact ⟨k + 1,by omega,by go_num,hf.out⟩
      case measure=>simp [intOf];omega
   ·rw [hs] at HOK
    have hf:=Lib.hid (ok_snoc HE.out (by rw [HOK.out];rfl))
    clear HOK HNO
    go_wp2_with fail
    refine (small_any _ _).mono ?_
    rintro e w' ⟨rfl,rfl⟩
    go_wp2_with fail
    go_round
    case rel=>exact ⟨k + 1,by omega,by go_num,hf.out⟩
    case measure=>simp [intOf];omega
  ·have hf:=Lib.hid ((wordly_end (l:=numsOf s) (fun i hi=>HE.out i (by rw [nums_len] at hi;omega))).trans (nums_pos s))
   go_wp2_with fail
   go_ret
   exact ⟨retBool hf.out.symm,rfl⟩
set_option maxHeartbeats 1000000 in
theorem Wordly_any (s:ByteArray) (w:World) (hm:s.size ≤ maxLen):Calls Tryz.prog 87 #[.string s] w fun e w'=>e = .returned (.bool (wordlyB (numsOf s))) ∧ w = w':=by
 unfold maxLen at hm
 go_enter Tryz.func87,Tryz.ntmps87
 go_wp2_with fail
 go_loop [3] (fun i=>∃ k:Nat,k ≤ s.size ∧ i = .int .i64 k ∧ ∀ i,i < k → okAt (numsOf s) i = true) (fun i=>s.size - (intOf i).toNat)
 case atStart=>exact ⟨0,Nat.zero_le _,rfl,fun i h=>by omega⟩
 case round =>
  obtain ⟨k,hk,rfl,hE⟩:=hrel
  have HE:=Lib.hid hE
  clear hE
  by_cases hlt:k < s.size
  ·have hgb:=nums_gb s k hlt
   have hno:okAt (numsOf s) k = false → wordlyB (numsOf s) = false:=wordly_no (by rw [nums_len];exact hlt)
   have hok:okAt (numsOf s) k = (smallB (s[k].toNat:Int) || (decide (0 < k) && (digitB (s[k].toNat:Int) || (s[k].toNat:Int) == 95))):=by unfold okAt;rw [← hgb]
   have hoth:=kind_other (s[k].toNat:Int)
   have hsm:=kind_small (s[k].toNat:Int)
   have C:=fun w=>Lib.hid (kind_any (s[k].toNat:Int) w)
   clear hgb
   have HNO:=Lib.hid hno
   have HOK:=Lib.hid hok
   have HOTH:=Lib.hid hoth
   have HSM:=Lib.hid hsm
   clear hno hok hoth hsm
   obtain ⟨z,hz⟩:∃ z,z = kindZ (s[k].toNat:Int):=⟨_,rfl⟩
   rw [← hz] at HOTH HSM
   have C':∀ w,Hid (Calls Tryz.prog 51 #[.int .u8 (s[k].toNat:Int)] w fun e w'=>e = .returned (.int .i64 z) ∧ w = w'):=fun w=>by rw [hz];exact C w
   clear hz C
   by_cases h1:z = 0 ∨ z = 2
   ·have hf:wordlyB (numsOf s) = false:=HNO.out (by
     have:=HOTH.out.1 h1
     rw [HOK.out]
     cases a:smallB (s[k].toNat:Int)
     ·cases b:digitB (s[k].toNat:Int)
      ·have c:((s[k].toNat:Int) == 95) = false:=beq_eq_false_iff_ne.2 (fun h=>this (.inr (.inr h)))
       rw [c];simp
      ·exact absurd (.inr (.inl b)) this
     ·exact absurd (.inl a) this)
    have HF:=Lib.hid hf
    clear hf HNO HOK HOTH HSM
    rcases h1 with h1 | h1
    ·subst h1
     go_wp2_with fail
     refine (C' _).out.mono ?_
     rintro e w' ⟨rfl,rfl⟩
     go_wp2_with fail
     go_ret
     exact ⟨retBool HF.out.symm,rfl⟩
    ·subst h1
     go_wp2_with fail
     refine (C' _).out.mono ?_
     rintro e w' ⟨rfl,rfl⟩
     go_wp2_with fail
     go_ret
     exact ⟨retBool HF.out.symm,rfl⟩
   ·have z0:(z == 0) = false:=beq_eq_false_iff_ne.2 (fun h=>h1 (.inl h))
    have z2:(z == 2) = false:=beq_eq_false_iff_ne.2 (fun h=>h1 (.inr h))
    have hor:smallB (s[k].toNat:Int) = true ∨ digitB (s[k].toNat:Int) = true ∨ (s[k].toNat:Int) = 95:=by
     apply Decidable.byContradiction
     intro hn
     exact h1 (HOTH.out.2 hn)
    by_cases h0:k = 0
    ·subst h0
     by_cases hz1:z = 1
     ·have hs:=HSM.out.1 hz1
      have hf:=Lib.hid (ok_snoc HE.out (by rw [HOK.out,hs];rfl))
      subst hz1
      clear HNO HOK HOTH HSM hor hs h1
      go_wp2_with fail
      refine (C' _).out.mono ?_
      rintro e w' ⟨rfl,rfl⟩
      go_wp2_with fail
      go_round
      case rel=>exact ⟨1,by omega,by go_num,hf.out⟩
      case measure=>simp [intOf];omega
     ·have hs:smallB (s[0].toNat:Int) = false:=by
       cases a:smallB (s[0].toNat:Int)
       ·rfl
       ·exact absurd (HSM.out.2 a) hz1
      have hf:=Lib.hid (HNO.out (by rw [HOK.out,hs];rfl))
      have z1:(z != 1) = true:=bne_iff_ne.2 hz1
      clear HNO HOK HOTH HSM hor hs h1 hz1
      go_wp2_with fail
      refine (C' _).out.mono ?_
      rintro e w' ⟨rfl,rfl⟩
      go_wp2_with fail
      go_ret
      exact ⟨retBool hf.out.symm,rfl⟩
    ·have hkz:((k:Int) == 0) = false:=by rw [beq_eq_false_iff_ne];omega
     have hf:∀ i,i < k + 1 → okAt (numsOf s) i = true:=ok_snoc HE.out (by
      rw [HOK.out,decide_eq_true (show 0 < k by omega)]
      rcases hor with h | h | h
      ·rw [h];rfl
      ·rw [h];simp
      ·rw [h];simp)
     have HF:=Lib.hid hf
     clear hf HNO HOK HOTH HSM hor h1
     go_wp2_with fail
     refine (C' _).out.mono ?_
     rintro e w' ⟨rfl,rfl⟩
     go_wp2_with fail
     go_round
     case rel=>exact ⟨k + 1,by omega,by go_num,HF.out⟩
     case measure=>simp [intOf];omega
  ·have hf:wordlyB (numsOf s) = decide (0 < s.size):=(wordly_end (l:=numsOf s) (fun i hi=>HE.out i (by rw [nums_len] at hi;omega))).trans (by rw [nums_len])
   have HF:=Lib.hid hf
   clear hf
   go_wp2_with fail
   go_ret
   exact ⟨retBool (by rw [HF.out]),rfl⟩
def StrsAt (w:World) (b off:Nat) (ws:List ByteArray):Prop:=∀ i,i < ws.length → w.cell? ⟨b,off + i,none⟩ = some (.string (ws.getD i ByteArray.empty))
theorem strs_new {w:World} (t:TypeId) (ws:List ByteArray) {n:Nat} (h:n = w.heap.size):StrsAt (w.alloc (.cells (ws.map Value.string).toArray t)) n 0 ws:=fun i hi=>by
 subst h
 rw [World.cell?_alloc_new]
 simp [hi]
theorem StrsAt.below {w w':World} {b off B:Nat} {ws:List ByteArray} (h:StrsAt w b off ws) (hb:Below B w w') (hB:b < B):StrsAt w' b off ws:=fun i hi=>(hb.cell (p:=⟨b,off + i,none⟩) hB).trans (h i hi)
theorem Own_any (w:World):Calls Tryz.prog 49 #[] w fun e w'=>e = .returned (.tuple #[.slice (some ⟨w.heap.size,0,none⟩) 15 15,.slice (some ⟨w.heap.size + 1,0,none⟩) 25 25]) ∧
  w' = (w.alloc (.cells (ownWs.map Value.string).toArray 9)).alloc (.cells (signWs.map Value.string).toArray 9):=by
 go_enter Tryz.func49,Tryz.ntmps49
 go_wp2_with fail
 go_ret2
 exact ⟨rfl,rfl⟩
theorem in_any (b off n cap:Nat) (ws:List ByteArray) (s:ByteArray) (w:World) (hn:ws.length = n) (hm:n ≤ 1000000) (hc:StrsAt w b off ws) :
  Calls Tryz.prog 86 #[.slice (some ⟨b,off,none⟩) n cap,.string s] w fun e w'=>e = .returned (.bool (inB ws s)) ∧ w = w':=by
 have HN:=Lib.hid hn
 have HC:=Lib.hid hc
 clear hn hc
 go_enter Tryz.func86,Tryz.ntmps86
 go_wp2_with fail
 go_loop [5] (fun i=>∃ k:Nat,k ≤ n ∧ i = .int .i64 k ∧ inB (ws.drop k) s = inB ws s) (fun i=>n - (intOf i).toNat)
 case atStart=>exact ⟨0,Nat.zero_le _,rfl,rfl⟩
 case round =>
  obtain ⟨k,hk,rfl,hE⟩:=hrel
  have HE:=Lib.hid hE
  clear hE
  by_cases hlt:k < n
  ·have hc:=HC.out k (by rw [HN.out];exact hlt)
   have hd:inB (ws.drop k) s = (((ws.getD k ByteArray.empty).toList == s.toList) || inB (ws.drop (k + 1)) s):=by
    have hk':k < ws.length:=by rw [HN.out];exact hlt
    rw [List.drop_eq_getElem_cons hk',inB_cons]
    simp [hk']
   obtain ⟨x,hx⟩:∃ x,x = ws.getD k ByteArray.empty:=⟨_,rfl⟩
   rw [← hx] at hc hd
   rw [HE.out] at hd
   clear hx
   cases hb:(x.toList == s.toList)
   ·rw [hb,Bool.false_or] at hd
    have HD:=Lib.hid hd
    clear hd
    go_wp2_with fail
    go_round
    case rel=>exact ⟨k + 1,by omega,by go_num,HD.out.symm⟩
    case measure=>simp [intOf];omega
   ·rw [hb,Bool.true_or] at hd
    have HD:=Lib.hid hd
    clear hd
    go_wp2_with fail
    go_ret
    exact ⟨retBool HD.out.symm,rfl⟩
  ·have hd:inB ws s = false:=by
    rw [← HE.out,List.drop_eq_nil_of_le (by rw [HN.out];omega)]
    rfl
   have HD:=Lib.hid hd
   clear hd
   go_wp2_with fail
   go_ret
   exact ⟨retBool HD.out.symm,rfl⟩
theorem below_own (w:World):Below w.heap.size w ((w.alloc (.cells (ownWs.map Value.string).toArray 9)).alloc (.cells (signWs.map Value.string).toArray 9)) :=
 ((Below.refl _ _).alloc (Nat.le_refl _) _).alloc (by simp) _
theorem strs_own (w:World):StrsAt ((w.alloc (.cells (ownWs.map Value.string).toArray 9)).alloc (.cells (signWs.map Value.string).toArray 9)) w.heap.size 0 ownWs :=
 (strs_new 9 ownWs rfl).below (B:=w.heap.size + 1) ((Below.refl _ _).alloc (by simp) _) (by omega)
theorem numS_zero {l:List Int} (h:gb l 0 = 48) (h1:1 < l.length):numS l = (0,4):=by unfold numS;rw [if_pos (.inl ⟨h,h1⟩)]
theorem numS_bad {l:List Int} {k:Nat} (hk:k < l.length) (h:digitB (gb l k) = false):numS l = (0,4):=by
 unfold numS
 rw [if_pos (.inr (fun ha=>by
  have:=(List.all_eq_true.1 ha) _ (gb_mem hk)
  rw [h] at this;cases this))]
theorem digits_of {l:List Int} (h:∀ i,i < l.length → digitB (gb l i) = true):l.all digitB = true ∧ Digits l:=by
 have hx:∀ x ∈ l,digitB x = true:=fun x hx=>by
  obtain ⟨i,hi,rfl⟩:=List.getElem_of_mem hx
  have:=h i hi
  unfold gb at this
  simpa [hi] using this
 exact ⟨List.all_eq_true.2 hx,fun x hm=>(digit_iff x).1 (hx x hm)⟩
theorem numS_large {l:List Int} (h0:¬ (gb l 0 = 48 ∧ 1 < l.length)) (ha:l.all digitB = true) (h:9223372036854775807 < decV l 0):numS l = (0,7):=by
 unfold numS;rw [if_neg (fun hh=>by rcases hh with h1 | h1;exact h0 h1;exact h1 ha),if_pos h]
theorem numS_ok {l:List Int} (h0:¬ (gb l 0 = 48 ∧ 1 < l.length)) (ha:l.all digitB = true) (h:¬ 9223372036854775807 < decV l 0):numS l = (decV l 0,0):=by
 unfold numS;rw [if_neg (fun hh=>by rcases hh with h1 | h1;exact h0 h1;exact h1 ha),if_neg h]
def numTold (l:List Int):Value:=.tuple #[.int .i64 (numS l).1,.bool (decide ((numS l).2 = 0)),.int .u8 (numS l).2]
theorem numTold_of {l:List Int} {n c:Int} (h:numS l = (n,c)):numTold l = .tuple #[.int .i64 n,.bool (decide (c = 0)),.int .u8 c]:=by unfold numTold;rw [h]
set_option maxRecDepth 100000 in
set_option maxHeartbeats 1000000 in
theorem number_any (s:ByteArray) (w:World) (h1:1 ≤ s.size) (hm:s.size ≤ maxLen):Calls Tryz.prog 102 #[.string s] w fun e w'=>e = .returned (numTold (numsOf s)) ∧ w = w':=by
 unfold maxLen at hm
 have g0:=nums_gb s 0 h1
 by_cases hz:(s[0].toNat:Int) = 48 ∧ 1 < s.size
 ·have hv:=Lib.hid (numTold_of (numS_zero (l:=numsOf s) (by rw [← g0];exact hz.1) (by rw [nums_len];exact hz.2)))
  have z1:((s[0].toNat:Int) == 48) = true:=by rw [beq_iff_eq];exact hz.1
  have z2:(1:Int) < (s.size:Int):=by omega
  clear hz g0
  go_enter Tryz.func102,Tryz.ntmps102
  go_wp2_with fail
  go_ret3
  exact ⟨by rw [hv.out];rfl,rfl⟩
 have HZ:Hid (¬ (gb (numsOf s) 0 = 48 ∧ 1 < (numsOf s).length)):=by
  show ¬ _
  rw [← g0,nums_len];exact hz
 have ztest:(((s[0].toNat:Int) == 48) && decide ((1:Int) < (s.size:Int))) = false:=by
  cases a:((s[0].toNat:Int) == 48)
  ·rfl
  ·rw [beq_iff_eq] at a
   have:¬ (1:Int) < (s.size:Int):=fun h=>hz ⟨a,by omega⟩
   rw [decide_eq_false this];rfl
 clear hz g0
 have hgo:∀ (P:Prop),(((s[0].toNat:Int) == 48) = false → P) → (((s[0].toNat:Int) == 48) = true → ¬ (1:Int) < (s.size:Int) → P) → P:=fun P p1 p2=>by
  cases a:((s[0].toNat:Int) == 48)
  ·exact p1 a
  ·rw [a,Bool.true_and,decide_eq_false_iff_not] at ztest
   exact p2 a ztest
 clear ztest
 apply hgo
 all_goals
  intros
  clear hgo
  go_enter Tryz.func102,Tryz.ntmps102
  go_wp2_with fail
  go_loop [18] (fun i=>∃ k:Nat,k ≤ s.size ∧ i = .int .i64 k ∧ ∀ i,i < k → digitB (gb (numsOf s) i) = true) (fun i=>s.size - (intOf i).toNat)
  case atStart=>exact ⟨0,Nat.zero_le _,rfl,fun i h=>by omega⟩
  case round =>
   obtain ⟨k,hk,rfl,hE⟩:=hrel
   have HE:=Lib.hid hE
   clear hE
   by_cases hlt:k < s.size
   ·have hgb:=nums_gb s k hlt
    cases hd:digitB (s[k].toNat:Int)
    ·have hv:=Lib.hid (numTold_of (numS_bad (l:=numsOf s) (k:=k) (by rw [nums_len];exact hlt) (by rw [← hgb];exact hd)))
     clear hgb
     go_wp2_with fail
     refine (digit_any _ _).mono ?_
     rintro e w' ⟨rfl,rfl⟩
     go_wp2_with fail
     go_ret3
     exact ⟨by rw [hv.out];rfl,rfl⟩
    ·have hf:∀ i,i < k + 1 → digitB (gb (numsOf s) i) = true:=fun i hi=>by
      by_cases e:i = k
      ·rw [e,← hgb];exact hd
      ·exact HE.out i (by omega)
     have HF:=Lib.hid hf
     clear hf hgb
     go_wp2_with fail
     refine (digit_any _ _).mono ?_
     rintro e w' ⟨rfl,rfl⟩
     go_wp2_with fail
     go_round
     case rel=>exact ⟨k + 1,by omega,by go_num,HF.out⟩
     case measure=>simp [intOf];omega
   ·have hall:=digits_of (l:=numsOf s) (fun i hi=>HE.out i (by rw [nums_len] at hi;omega))
    have HA:=Lib.hid hall
    clear hall HE
    go_wp2_with fail
    go_loop [5,29] (fun x i=>∃ (k:Nat) (n:Int),k ≤ s.size ∧ 0 ≤ n ∧ n ≤ 9223372036854775807 ∧ x = .int .u64 n ∧ i = .int .i64 k ∧ n = decV ((numsOf s).take k) 0) (fun _ i=>s.size - (intOf i).toNat)
    case atStart=>exact ⟨0,0,Nat.zero_le _,by omega,by omega,rfl,rfl,by simp [decV]⟩
    case round =>
     obtain ⟨k,n,hk,hn0,hn1,rfl,rfl,hn⟩:=hrel
     have HN:=Lib.hid hn
     clear hn
     by_cases hlt:k < s.size
     ·have hgb:=nums_gb s k hlt
      have hdg:=HA.out.2 _ (gb_mem (l:=numsOf s) (i:=k) (by rw [nums_len];exact hlt))
      have hst:=decV_step (l:=numsOf s) (k:=k) (by rw [nums_len];exact hlt)
      rw [← hgb] at hdg hst
      rw [← HN.out] at hst
      have hmono:=decV_take HA.out.2 (k + 1)
      have HST:=Lib.hid hst
      have HM:=Lib.hid hmono
      clear hgb hst hmono
      by_cases hov:(9223372036854775807 - ((s[k].toNat:Int) - 48)) / 10 < n
      ·have hv:=Lib.hid (numTold_of (numS_large HZ.out HA.out.1 (by have h1:=HST.out;have h2:=HM.out;omega)))
       go_wp2_with fail
       go_ret3
       exact ⟨by rw [hv.out];rfl,rfl⟩
      ·have hb1:0 ≤ 10 * n + ((s[k].toNat:Int) - 48) ∧ 10 * n + ((s[k].toNat:Int) - 48) ≤ 9223372036854775807:=by omega
       go_wp2_with fail
       go_round
       case rel=>exact ⟨k + 1,10 * n + ((s[k].toNat:Int) - 48),by omega,by omega,by omega,by go_num,by go_num,HST.out.symm⟩
       case measure=>simp [intOf];omega
     ·have he:n = decV (numsOf s) 0:=by
       have:=HN.out
       rwa [List.take_of_length_le (by rw [nums_len];omega)] at this
      have hv:=Lib.hid (numTold_of (numS_ok HZ.out HA.out.1 (by rw [← he];omega)))
      have HE:=Lib.hid he
      clear he
      go_wp2_with fail
      go_ret3
      exact ⟨by rw [hv.out,← HE.out];rfl,rfl⟩
def limitU:List UInt8:=[57,50,50,51,51,55,50,48,51,54,56,53,52,55,55,53,56,48,55]
def limitZ:List Int:=[57,50,50,51,51,55,50,48,51,54,56,53,52,55,55,53,56,48,55]
theorem less_bytes (a b:List UInt8):Op.bytesLess a b = lessZ (a.map fun c=>(c.toNat:Int)) (b.map fun c=>(c.toNat:Int)):=by
 induction a generalizing b with
 | nil=>cases b <;> rfl
 | cons x a ih =>
  cases b with
  | nil=>rfl
  | cons y b =>
   simp only [Op.bytesLess,List.map_cons,lessZ]
   by_cases e:x = y
   ·subst e
    simp [ih]
   ·have e':¬ ((x.toNat:Int) = (y.toNat:Int)):=fun h=>e (UInt8.toNat_inj.1 (by omega))
    rw [if_neg e']
    have e2:(x == y) = false:=beq_eq_false_iff_ne.2 e
    rw [e2]
    simp [UInt8.lt_iff_toNat_lt]
theorem less_tri {a b:List Int} (h:a.length = b.length) (h1:lessZ a b = false) (h2:lessZ b a = false):a = b:=by
 induction a generalizing b with
 | nil=>cases b with | nil=>rfl | cons _ _=>simp at h
 | cons x a ih =>
  cases b with
  | nil=>simp at h
  | cons y b =>
   simp only [lessZ] at h1 h2
   by_cases e:x = y
   ·rw [if_pos e] at h1
    rw [if_pos e.symm] at h2
    rw [e,ih (by simpa using h) h1 h2]
   ·rw [if_neg e,decide_eq_false_iff_not] at h1
    rw [if_neg (Ne.symm e),decide_eq_false_iff_not] at h2
    omega
theorem limit_ok:Digits limitZ ∧ decV limitZ 0 = 9223372036854775807 ∧ limitZ.length = 19:=by
 refine ⟨?_,by decide,rfl⟩
 intro x hx
 simp [limitZ] at hx
 omega
theorem ten_mono {m n:Nat} (h:m ≤ n):ten m ≤ ten n:=by
 induction n with
 | zero=>rw [Nat.le_zero.1 h];omega
 | succ n ih =>
  by_cases e:m = n + 1
  ·rw [e];omega
  ·have:=ih (by omega)
   have:=ten_pos n
   simp only [ten];omega
theorem great_iff_text (s:ByteArray) (h1:1 ≤ s.size) (h0:¬ (gb (numsOf s) 0 = 48 ∧ 1 < (numsOf s).length)) (hd:Digits (numsOf s)) :
  (19 < s.size ∨ (s.size = 19 ∧ (!(Op.bytesLess s.toList limitU) && !(s.toList == limitU)) = true)) ↔ 9223372036854775807 < decV (numsOf s) 0:=by
 have hl:=nums_len s
 have hlt:=decV_lt hd
 have he:numsOf s = s.toList.map fun c=>(c.toNat:Int):=by rw [ByteArray.toList_eq];rfl
 have hlim:limitU.map (fun c=>(c.toNat:Int)) = limitZ:=by decide
 have e19:ten 19 = 10000000000000000000:=by simp [ten]
 have e18:ten 18 = 1000000000000000000:=by simp [ten]
 by_cases h:s.size < 19
 ·constructor
  ·intro hh;omega
  ·intro hh
   have:=ten_mono (show (numsOf s).length ≤ 18 by omega)
   omega
 ·by_cases h':s.size = 19
  ·have hless1:Op.bytesLess s.toList limitU = lessZ (numsOf s) limitZ:=by rw [less_bytes,← he,hlim]
   have hlen:(numsOf s).length = limitZ.length:=by rw [hl,h'];rfl
   have hv1:=less_val hd limit_ok.1 hlen
   have hv2:=less_val limit_ok.1 hd hlen.symm
   rw [limit_ok.2.1] at hv1 hv2
   have heq:(s.toList == limitU) = true → numsOf s = limitZ:=fun h=>by rw [he,beq_iff_eq.1 h,hlim]
   rw [hless1]
   constructor
   ·rintro (h | ⟨_,h⟩)
    ·omega
    ·simp only [Bool.and_eq_true,Bool.not_eq_true'] at h
     apply hv2.1
     cases hc:lessZ limitZ (numsOf s)
     ·have:=less_tri hlen h.1 hc
      have h3:s.toList = limitU:=by
       have h4:s.toList.map (fun c=>(c.toNat:Int)) = limitU.map (fun c=>(c.toNat:Int)):=by rw [← he,hlim,this]
       exact (List.map_inj_right (fun x y hxy=>UInt8.toNat_inj.1 (by omega))).1 h4
      rw [h3] at h
      simp at h
     ·rfl
   ·intro hgt
    right
    refine ⟨h',?_⟩
    have h2:=hv2.2 hgt
    simp only [Bool.and_eq_true,Bool.not_eq_true']
    constructor
    ·cases hc:lessZ (numsOf s) limitZ
     ·rfl
     ·have:=hv1.1 hc;omega
    ·cases hc:(s.toList == limitU)
     ·rfl
     ·have:=heq hc
      rw [this,limit_ok.2.1] at hgt
      omega
  ·constructor
   ·intro _
    have hn:¬ gb (numsOf s) 0 = 48:=fun hh=>h0 ⟨hh,by omega⟩
    match hs:numsOf s,hl with
    | [],hl=>simp at hl;omega
    | c :: r,hl =>
     rw [hs] at hn hd hlt
     have hc:=hd c (by simp)
     have hg:gb (c :: r) 0 = c:=rfl
     rw [hg] at hn
     simp only [decV]
     rw [decV_val]
     have hr:=decV_lt (fun x hx=>hd x (by simp [hx]):Digits r)
     have ht:=ten_mono (show 19 ≤ r.length by simp at hl;omega)
     have h1:1 * ten r.length ≤ (10 * 0 + (c - 48)) * ten r.length:=Int.mul_le_mul_of_nonneg_right (by omega) (Int.le_of_lt (ten_pos _))
     omega
   ·intro _;left;omega
def refNumTold (l:List Int):Value:=.tuple #[.int .i64 (numS l).1,.int .i64 (numS l).2]
theorem refNumTold_of {l:List Int} {n c:Int} (h:numS l = (n,c)):refNumTold l = .tuple #[.int .i64 n,.int .i64 c]:=by unfold refNumTold;rw [h]
theorem wrap_twice {x m:Int} (h:x - 48 = m) (h0:0 ≤ m) (h1:m ≤ 9223372036854775807):wrap64 (wrap64 x - 48) = m:=by unfold wrap64;omega
theorem kind_no {c:Int} (h:digitB c = false):(kindZ c != 3) = true:=by
 rw [bne_iff_ne];intro hh;rw [(kind_digit c).1 hh] at h;cases h
theorem kind_yes {c:Int} (h:digitB c = true):kindZ c = 3:=(kind_digit c).2 h
set_option maxRecDepth 100000 in
set_option maxHeartbeats 4000000 in
theorem refNumber_any (s:ByteArray) (w:World) (h1:1 ≤ s.size) (hm:s.size ≤ maxLen):Calls Tryz.prog 85 #[.string s] w fun e w'=>e = .returned (refNumTold (numsOf s)) ∧ w = w':=by
 unfold maxLen at hm
 have g0:=nums_gb s 0 h1
 by_cases hz:(s[0].toNat:Int) = 48 ∧ 1 < s.size
 ·have hv:=Lib.hid (refNumTold_of (numS_zero (l:=numsOf s) (by rw [← g0];exact hz.1) (by rw [nums_len];exact hz.2)))
  have z1:((s[0].toNat:Int) == 48) = true:=by rw [beq_iff_eq];exact hz.1
  have z2:(1:Int) < (s.size:Int):=by omega
  have z3:kindZ (s[0].toNat:Int) = 3:=by rw [hz.1];decide
  have z4:(0:Int) < (s.size:Int):=by omega
  clear hz g0
  go_enter Tryz.func85,Tryz.ntmps85
  go_wp2_with fail
  refine wp_loop_rounds 1 ?_
  rw [rounds_succ]
  go_wp2_with fail
  refine (kind_any _ _).mono ?_
  rintro e w' ⟨rfl,rfl⟩
  go_wp2_with fail
  go_ret2
  exact ⟨by rw [hv.out];rfl,rfl⟩
 have HZ:Hid (¬ (gb (numsOf s) 0 = 48 ∧ 1 < (numsOf s).length)):=by
  show ¬ _
  rw [← g0,nums_len];exact hz
 have ztest:(((s[0].toNat:Int) == 48) && decide ((1:Int) < (s.size:Int))) = false:=by
  cases a:((s[0].toNat:Int) == 48)
  ·rfl
  ·rw [beq_iff_eq] at a
   have:¬ (1:Int) < (s.size:Int):=fun h=>hz ⟨a,by omega⟩
   rw [decide_eq_false this];rfl
 clear hz g0
 have hgo:∀ (P:Prop),(((s[0].toNat:Int) == 48) = false → P) → (((s[0].toNat:Int) == 48) = true → ¬ (1:Int) < (s.size:Int) → P) → P:=fun P p1 p2=>by
  cases a:((s[0].toNat:Int) == 48)
  ·exact p1 a
  ·rw [a,Bool.true_and,decide_eq_false_iff_not] at ztest
   exact p2 a ztest
 clear ztest
 apply hgo
 all_goals
  intros
  clear hgo
  go_enter Tryz.func85,Tryz.ntmps85
  go_wp2_with fail
  go_loop [4] (fun i=>∃ k:Nat,k ≤ s.size ∧ i = .int .i64 k ∧ ∀ i,i < k → digitB (gb (numsOf s) i) = true) (fun i=>s.size - (intOf i).toNat)
  case atStart=>exact ⟨0,Nat.zero_le _,rfl,fun i h=>by omega⟩
  case round =>
   obtain ⟨k,hk,rfl,hE⟩:=hrel
   have HE:=Lib.hid hE
   clear hE
   by_cases hlt:k < s.size
   ·have hgb:=nums_gb s k hlt
    cases hd:digitB (s[k].toNat:Int)
    ·have hv:=Lib.hid (refNumTold_of (numS_bad (l:=numsOf s) (k:=k) (by rw [nums_len];exact hlt) (by rw [← hgb];exact hd)))
     have hkn:=kind_no hd
     clear hgb hd
     go_wp2_with fail
     refine (kind_any _ _).mono ?_
     rintro e w' ⟨rfl,rfl⟩
     go_wp2_with fail
     go_ret2
     exact ⟨by rw [hv.out];rfl,rfl⟩
    ·have hf:∀ i,i < k + 1 → digitB (gb (numsOf s) i) = true:=fun i hi=>by
      by_cases e:i = k
      ·rw [e,← hgb];exact hd
      ·exact HE.out i (by omega)
     have HF:=Lib.hid hf
     have hkn:=kind_yes hd
     clear hf hgb hd
     go_wp2_with fail
     refine (kind_any _ _).mono ?_
     rintro e w' ⟨rfl,rfl⟩
     go_wp2_with fail
     go_round
     case rel=>exact ⟨k + 1,by omega,by go_num,HF.out⟩
     case measure=>simp [intOf];omega
   ·have hall:=digits_of (l:=numsOf s) (fun i hi=>HE.out i (by rw [nums_len] at hi;omega))
    have HA:=Lib.hid hall
    have hgt:=great_iff_text s h1 HZ.out hall.2
    clear hall HE
    by_cases hbig:9223372036854775807 < decV (numsOf s) 0
    ·have hv:=Lib.hid (refNumTold_of (numS_large HZ.out HA.out.1 hbig))
     have hor:=hgt.2 hbig
     clear hgt hbig
     by_cases h20:19 < s.size
     ·have h20':(19:Int) < (s.size:Int):=by omega
      clear hor
      go_wp2_with fail
      go_ret2
      exact ⟨by rw [hv.out];rfl,rfl⟩
     ·have ⟨h19,htx⟩:s.size = 19 ∧ (!(Op.bytesLess s.toList limitU) && !(s.toList == limitU)) = true:=by
       rcases hor with h | h
       ·omega
       ·exact h
      have t0:((s.size:Int) == 19) = true:=by rw [h19];rfl
      have t00:(s.size == 19) = true:=by rw [h19];rfl
      have t1:Op.bytesLess s.toList [57,50,50,51,51,55,50,48,51,54,56,53,52,55,55,53,56,48,55] = false:=by
       rw [Bool.and_eq_true,Bool.not_eq_true',Bool.not_eq_true'] at htx;exact htx.1
      have t2:(s.toList == [57,50,50,51,51,55,50,48,51,54,56,53,52,55,55,53,56,48,55]) = false:=by
       rw [Bool.and_eq_true,Bool.not_eq_true',Bool.not_eq_true'] at htx;exact htx.2
      have h20':¬ (19:Int) < (s.size:Int):=by omega
      clear hor htx h19
      go_wp2_with fail
      go_ret2
      exact ⟨by rw [hv.out];rfl,rfl⟩
    ·have hnot:¬ (19 < s.size ∨ (s.size = 19 ∧ (!(Op.bytesLess s.toList limitU) && !(s.toList == limitU)) = true)):=fun h=>hbig (hgt.1 h)
     have hle:decV (numsOf s) 0 ≤ 9223372036854775807:=by omega
     have HLE:=Lib.hid hle
     have h20':¬ (19:Int) < (s.size:Int):=by omega
     have hgo2:∀ (P:Prop),(((s.size:Int) == 19) = false → (s.size == 19) = false → P) → (((s.size:Int) == 19) = true → (s.size == 19) = true → (!(Op.bytesLess s.toList [57,50,50,51,51,55,50,48,51,54,56,53,52,55,55,53,56,48,55]) && !(s.toList == [57,50,50,51,51,55,50,48,51,54,56,53,52,55,55,53,56,48,55])) = false → P) → P:=fun P p1 p2=>by
      by_cases h19:s.size = 19
      ·refine p2 (by rw [h19];rfl) (by rw [h19];rfl) ?_
       cases hc:(!(Op.bytesLess s.toList [57,50,50,51,51,55,50,48,51,54,56,53,52,55,55,53,56,48,55]) && !(s.toList == [57,50,50,51,51,55,50,48,51,54,56,53,52,55,55,53,56,48,55]))
       ·rfl
       ·exact absurd (.inr ⟨h19,hc⟩) hnot
      ·exact p1 (by rw [beq_eq_false_iff_ne];omega) (by rw [beq_eq_false_iff_ne];exact h19)
     clear hgt hbig hnot hle
     apply hgo2
     all_goals
      intros
      clear hgo2
      go_wp2_with fail
      go_loop [6,7] (fun x i=>∃ (k:Nat) (n:Int),k ≤ s.size ∧ 0 ≤ n ∧ n ≤ 9223372036854775807 ∧ x = .int .i64 n ∧ i = .int .i64 k ∧ n = decV ((numsOf s).take k) 0) (fun _ i=>s.size - (intOf i).toNat)
      case atStart=>exact ⟨0,0,Nat.zero_le _,by omega,by omega,rfl,rfl,by simp [decV]⟩
      case round =>
       obtain ⟨k,n,hk,hn0,hn1,rfl,rfl,hn⟩:=hrel
       have HN:=Lib.hid hn
       clear hn
       by_cases hlt:k < s.size
       ·have hgb:=nums_gb s k hlt
        have hdg:=HA.out.2 _ (gb_mem (l:=numsOf s) (i:=k) (by rw [nums_len];exact hlt))
        have hst:=decV_step (l:=numsOf s) (k:=k) (by rw [nums_len];exact hlt)
        rw [← hgb] at hdg hst
        rw [← HN.out] at hst
        have hmono:=decV_take HA.out.2 (k + 1)
        have hb1:0 ≤ 10 * n + ((s[k].toNat:Int) - 48) ∧ 10 * n + ((s[k].toNat:Int) - 48) ≤ 9223372036854775807:=by have:=HLE.out;omega
        have HST:=Lib.hid hst
        clear hgb hst hmono
        by_cases hwr:10 * n + (s[k].toNat:Int) ≤ 9223372036854775807
        ·go_wp2_with fail
         go_round
         case rel=>exact ⟨k + 1,10 * n + ((s[k].toNat:Int) - 48),by omega,by omega,by omega,by go_num,by go_num,HST.out.symm⟩
         case measure=>simp [intOf];omega
        ·have hww:=wrap_twice (x:=10 * n + (s[k].toNat:Int)) (m:=10 * n + ((s[k].toNat:Int) - 48)) (by omega) hb1.1 hb1.2
         have HWW:=Lib.hid hww
         clear hww
         go_wp2_with fail
         go_round
         case rel=>exact ⟨k + 1,10 * n + ((s[k].toNat:Int) - 48),by omega,by omega,by omega,by rw [HWW.out],by go_num,HST.out.symm⟩
         case measure=>simp [intOf];omega
       ·have he:n = decV (numsOf s) 0:=by
         have:=HN.out
         rwa [List.take_of_length_le (by rw [nums_len];omega)] at this
        have hv:=Lib.hid (refNumTold_of (numS_ok HZ.out HA.out.1 (by have:=HLE.out;omega)))
        have HE:=Lib.hid he
        clear he
        go_wp2_with fail
        go_ret2
        exact ⟨by rw [hv.out,← HE.out];rfl,rfl⟩
def Tok.val (t:Tok):Value:=.agg #[.int .u8 t.kind,.string t.text,.int .i64 t.n,.int .i64 t.at_]
def RunTold (k:IntKind) (r:Tok × Int) (w:World) (e:Ending) (w':World):Prop:=∃ t:Tok,e = .returned (.tuple #[t.val,.int k r.2]) ∧ (r.2 = 0 → t = r.1) ∧ Below w.heap.size w w'
def RunMade (k:IntKind) (r:Tok × Int) (w:World) (e:Ending) (w':World):Prop:=∃ t:Tok,e = .returned (.tuple #[t.val,.int k r.2]) ∧ (r.2 = 0 → t = r.1) ∧ ∃ a b,w' = (w.alloc a).alloc b
set_option maxRecDepth 100000 in
set_option maxHeartbeats 2000000 in
theorem run_any (s:ByteArray) (at_:Int) (w:World) (h1:1 ≤ s.size) (hm:s.size ≤ maxLen):Calls Tryz.prog 75 #[.string s,.int .i64 at_] w (RunMade .u8 (runS s at_) w):=by
 have C1:=fun w=>Lib.hid (number_any s w h1 hm)
 have C2:=fun w=>Lib.hid (own_any s w)
 have C3:=fun w=>Lib.hid (wordly_any s w hm)
 have g0:=nums_gb s 0 h1
 have hl:=nums_len s
 unfold numTold at C1
 unfold maxLen at hm
 unfold runS
 rw [← g0,hl]
 clear g0 hl
 cases hd:digitB (s[0].toNat:Int)
 ·rw [if_neg (by decide)]
  clear C1
  cases ho:ownB s
  ·rw [ho] at C2
   rw [if_neg (by decide)]
   clear ho
   cases hw:wordlyB (numsOf s)
   ·rw [hw] at C3
    rw [if_pos rfl]
    clear hw
    go_enter Tryz.func75,Tryz.ntmps75
    go_wp2_with fail
    refine (digit_any _ _).mono ?_
    rintro e w' ⟨rfl,rfl⟩
    go_wp2_with fail
    refine (C2 _).out.mono ?_
    rintro e w' ⟨rfl,rfl⟩
    go_wp2_with fail
    refine (C3 _).out.mono ?_
    rintro e w' ⟨rfl,rfl⟩
    go_wp2_with fail
    refine bodyPost_ret (v:=.tuple #[.agg #[.int .u8 1,.string s,.int .i64 0,.int .i64 at_],.int .u8 4]) (by simp [results,Tryz.results75,go_sem]) rfl ⟨⟨1,s,0,at_⟩,rfl,fun h=>by simp at h,_,_,rfl⟩
   ·rw [hw] at C3
    rw [if_neg (by decide)]
    clear hw
    by_cases hz:32 < s.size
    ·have hz':(32:Int) < (s.size:Int):=by omega
     rw [if_pos hz]
     go_enter Tryz.func75,Tryz.ntmps75
     go_wp2_with fail
     refine (digit_any _ _).mono ?_
     rintro e w' ⟨rfl,rfl⟩
     go_wp2_with fail
     refine (C2 _).out.mono ?_
     rintro e w' ⟨rfl,rfl⟩
     go_wp2_with fail
     refine (C3 _).out.mono ?_
     rintro e w' ⟨rfl,rfl⟩
     go_wp2_with fail
     refine bodyPost_ret (v:=.tuple #[.agg #[.int .u8 1,.string s,.int .i64 0,.int .i64 at_],.int .u8 7]) (by simp [results,Tryz.results75,go_sem]) rfl ⟨⟨1,s,0,at_⟩,rfl,fun h=>by simp at h,_,_,rfl⟩
    ·have hz':¬ (32:Int) < (s.size:Int):=by omega
     rw [if_neg hz]
     go_enter Tryz.func75,Tryz.ntmps75
     go_wp2_with fail
     refine (digit_any _ _).mono ?_
     rintro e w' ⟨rfl,rfl⟩
     go_wp2_with fail
     refine (C2 _).out.mono ?_
     rintro e w' ⟨rfl,rfl⟩
     go_wp2_with fail
     refine (C3 _).out.mono ?_
     rintro e w' ⟨rfl,rfl⟩
     go_wp2_with fail
     refine bodyPost_ret (v:=.tuple #[.agg #[.int .u8 1,.string s,.int .i64 0,.int .i64 at_],.int .u8 0]) (by simp [results,Tryz.results75,go_sem]) rfl ⟨⟨1,s,0,at_⟩,rfl,fun _=>rfl,_,_,rfl⟩
  ·rw [ho] at C2
   rw [if_pos rfl]
   clear ho
   go_enter Tryz.func75,Tryz.ntmps75
   go_wp2_with fail
   refine (digit_any _ _).mono ?_
   rintro e w' ⟨rfl,rfl⟩
   go_wp2_with fail
   refine (C2 _).out.mono ?_
   rintro e w' ⟨rfl,rfl⟩
   go_wp2_with fail
   refine bodyPost_ret (v:=.tuple #[.agg #[.int .u8 3,.string s,.int .i64 0,.int .i64 at_],.int .u8 0]) (by simp [results,Tryz.results75,go_sem]) rfl ⟨⟨3,s,0,at_⟩,rfl,fun _=>rfl,_,_,rfl⟩
 ·rw [if_pos rfl]
  generalize numS (numsOf s) = q at *
  obtain ⟨n,c⟩:=q
  simp only at C1
  go_enter Tryz.func75,Tryz.ntmps75
  go_wp2_with fail
  refine (digit_any _ _).mono ?_
  rintro e w' ⟨rfl,rfl⟩
  go_wp2_with fail
  refine (C1 _).out.mono ?_
  rintro e w' ⟨rfl,rfl⟩
  go_wp2_with fail
  refine bodyPost_ret (v:=.tuple #[.agg #[.int .u8 2,.string ⟨#[]⟩,.int .i64 n,.int .i64 at_],.int .u8 c]) (by simp [results,Tryz.results75,go_sem]) rfl ⟨⟨2,⟨#[]⟩,n,at_⟩,rfl,fun _=>rfl,_,_,rfl⟩
theorem below3 {w:World} (a b c:Obj):Below w.heap.size w (((w.alloc a).alloc b).alloc c):=(((Below.refl _ _).alloc (Nat.le_refl _) _).alloc (by simp) _).alloc (by simp;omega) _
theorem kind_not3 {c:Int} (h:digitB c = false):(kindZ c == 3) = false:=by
 rw [beq_eq_false_iff_ne];intro hh;rw [(kind_digit c).1 hh] at h;cases h
theorem kind_is3 {c:Int} (h:digitB c = true):kindZ c = 3:=(kind_digit c).2 h
set_option maxRecDepth 100000 in
set_option maxHeartbeats 2000000 in
theorem refRun_any (s:ByteArray) (at_:Int) (w:World) (h1:1 ≤ s.size) (hm:s.size ≤ maxLen):Calls Tryz.prog 52 #[.string s,.int .i64 at_] w (RunTold .i64 (runS s at_) w):=by
 have C1:=fun w=>Lib.hid (refNumber_any s w h1 hm)
 have C2:=fun b w hc=>Lib.hid (in_any b 0 15 15 ownWs s w rfl (by omega) hc)
 have eo:inB ownWs s = ownB s:=rfl
 rw [eo] at C2
 have C3:=fun w=>Lib.hid (Wordly_any s w hm)
 have g0:=nums_gb s 0 h1
 have hl:=nums_len s
 unfold refNumTold at C1
 unfold maxLen at hm
 unfold runS
 rw [← g0,hl]
 clear g0 hl eo
 cases hd:digitB (s[0].toNat:Int)
 ·have hk:=kind_not3 hd
  rw [if_neg (by decide)]
  clear C1 hd
  cases ho:ownB s
  ·rw [ho] at C2
   rw [if_neg (by decide)]
   clear ho
   cases hw:wordlyB (numsOf s)
   ·rw [hw] at C3
    rw [if_pos rfl]
    clear hw
    go_enter Tryz.func52,Tryz.ntmps52
    go_wp2_with fail
    refine (Own_any _).mono ?_
    rintro e w1 ⟨rfl,rfl⟩
    have hs1:StrsAt (((w.alloc (.cells #[.int .u8 0,.string ⟨#[]⟩,.int .i64 0,.int .i64 0] 63)).alloc (.cells (ownWs.map Value.string).toArray 9)).alloc (.cells (signWs.map Value.string).toArray 9)) (w.heap.size + 1) 0 ownWs:=by
     have:=strs_own (w.alloc (.cells #[.int .u8 0,.string ⟨#[]⟩,.int .i64 0,.int .i64 0] 63))
     rwa [World.size_alloc] at this
    have HS1:=Lib.hid hs1
    clear hs1
    go_wp2_with fail
    refine (kind_any _ _).mono ?_
    rintro e w' ⟨rfl,rfl⟩
    go_wp2_with fail
    refine (C2 _ _ HS1.out).out.mono ?_
    rintro e w' ⟨rfl,rfl⟩
    go_wp2_with fail
    refine (C3 _).out.mono ?_
    rintro e w' ⟨rfl,rfl⟩
    go_wp2_with fail
    refine bodyPost_ret (v:=.tuple #[.agg #[.int .u8 0,.string ⟨#[]⟩,.int .i64 0,.int .i64 0],.int .i64 4]) (by simp [results,Tryz.results52,go_sem]) rfl ⟨⟨0,⟨#[]⟩,0,0⟩,rfl,fun h=>by simp at h,below3 _ _ _⟩
   ·rw [hw] at C3
    rw [if_neg (by decide)]
    clear hw
    by_cases hz:32 < s.size
    ·have hz':(32:Int) < (s.size:Int):=by omega
     rw [if_pos hz]
     go_enter Tryz.func52,Tryz.ntmps52
     go_wp2_with fail
     refine (Own_any _).mono ?_
     rintro e w1 ⟨rfl,rfl⟩
     have hs1:StrsAt (((w.alloc (.cells #[.int .u8 0,.string ⟨#[]⟩,.int .i64 0,.int .i64 0] 63)).alloc (.cells (ownWs.map Value.string).toArray 9)).alloc (.cells (signWs.map Value.string).toArray 9)) (w.heap.size + 1) 0 ownWs:=by
      have:=strs_own (w.alloc (.cells #[.int .u8 0,.string ⟨#[]⟩,.int .i64 0,.int .i64 0] 63))
      rwa [World.size_alloc] at this
     have HS1:=Lib.hid hs1
     clear hs1
     go_wp2_with fail
     refine (kind_any _ _).mono ?_
     rintro e w' ⟨rfl,rfl⟩
     go_wp2_with fail
     refine (C2 _ _ HS1.out).out.mono ?_
     rintro e w' ⟨rfl,rfl⟩
     go_wp2_with fail
     refine (C3 _).out.mono ?_
     rintro e w' ⟨rfl,rfl⟩
     go_wp2_with fail
     refine bodyPost_ret (v:=.tuple #[.agg #[.int .u8 0,.string ⟨#[]⟩,.int .i64 0,.int .i64 0],.int .i64 7]) (by simp [results,Tryz.results52,go_sem]) rfl ⟨⟨0,⟨#[]⟩,0,0⟩,rfl,fun h=>by simp at h,below3 _ _ _⟩
    ·have hz':¬ (32:Int) < (s.size:Int):=by omega
     rw [if_neg hz]
     go_enter Tryz.func52,Tryz.ntmps52
     go_wp2_with fail
     refine (Own_any _).mono ?_
     rintro e w1 ⟨rfl,rfl⟩
     have hs1:StrsAt (((w.alloc (.cells #[.int .u8 0,.string ⟨#[]⟩,.int .i64 0,.int .i64 0] 63)).alloc (.cells (ownWs.map Value.string).toArray 9)).alloc (.cells (signWs.map Value.string).toArray 9)) (w.heap.size + 1) 0 ownWs:=by
      have:=strs_own (w.alloc (.cells #[.int .u8 0,.string ⟨#[]⟩,.int .i64 0,.int .i64 0] 63))
      rwa [World.size_alloc] at this
     have HS1:=Lib.hid hs1
     clear hs1
     go_wp2_with fail
     refine (kind_any _ _).mono ?_
     rintro e w' ⟨rfl,rfl⟩
     go_wp2_with fail
     refine (C2 _ _ HS1.out).out.mono ?_
     rintro e w' ⟨rfl,rfl⟩
     go_wp2_with fail
     refine (C3 _).out.mono ?_
     rintro e w' ⟨rfl,rfl⟩
     go_wp2_with fail
     refine bodyPost_ret (v:=.tuple #[.agg #[.int .u8 1,.string s,.int .i64 0,.int .i64 at_],.int .i64 0]) (by simp [results,Tryz.results52,go_sem]) rfl ⟨⟨1,s,0,at_⟩,rfl,fun _=>rfl,below3 _ _ _⟩
  ·rw [ho] at C2
   rw [if_pos rfl]
   clear ho
   go_enter Tryz.func52,Tryz.ntmps52
   go_wp2_with fail
   refine (Own_any _).mono ?_
   rintro e w1 ⟨rfl,rfl⟩
   have hs1:StrsAt (((w.alloc (.cells #[.int .u8 0,.string ⟨#[]⟩,.int .i64 0,.int .i64 0] 63)).alloc (.cells (ownWs.map Value.string).toArray 9)).alloc (.cells (signWs.map Value.string).toArray 9)) (w.heap.size + 1) 0 ownWs:=by
    have:=strs_own (w.alloc (.cells #[.int .u8 0,.string ⟨#[]⟩,.int .i64 0,.int .i64 0] 63))
    rwa [World.size_alloc] at this
   have HS1:=Lib.hid hs1
   clear hs1
   go_wp2_with fail
   refine (kind_any _ _).mono ?_
   rintro e w' ⟨rfl,rfl⟩
   go_wp2_with fail
   refine (C2 _ _ HS1.out).out.mono ?_
   rintro e w' ⟨rfl,rfl⟩
   go_wp2_with fail
   refine bodyPost_ret (v:=.tuple #[.agg #[.int .u8 3,.string s,.int .i64 0,.int .i64 at_],.int .i64 0]) (by simp [results,Tryz.results52,go_sem]) rfl ⟨⟨3,s,0,at_⟩,rfl,fun _=>rfl,below3 _ _ _⟩
 ·have hk:=kind_is3 hd
  rw [if_pos rfl]
  clear hd
  generalize numS (numsOf s) = q at *
  obtain ⟨n,c⟩:=q
  simp only at C1
  go_enter Tryz.func52,Tryz.ntmps52
  go_wp2_with fail
  refine (Own_any _).mono ?_
  rintro e w1 ⟨rfl,rfl⟩
  have hs1:StrsAt (((w.alloc (.cells #[.int .u8 0,.string ⟨#[]⟩,.int .i64 0,.int .i64 0] 63)).alloc (.cells (ownWs.map Value.string).toArray 9)).alloc (.cells (signWs.map Value.string).toArray 9)) (w.heap.size + 1) 0 ownWs:=by
   have:=strs_own (w.alloc (.cells #[.int .u8 0,.string ⟨#[]⟩,.int .i64 0,.int .i64 0] 63))
   rwa [World.size_alloc] at this
  have HS1:=Lib.hid hs1
  clear hs1
  go_wp2_with fail
  refine (kind_any _ _).mono ?_
  rintro e w' ⟨rfl,rfl⟩
  go_wp2_with fail
  refine (C1 _).out.mono ?_
  rintro e w' ⟨rfl,rfl⟩
  go_wp2_with fail
  refine bodyPost_ret (v:=.tuple #[.agg #[.int .u8 2,.string ⟨#[]⟩,.int .i64 n,.int .i64 at_],.int .i64 c]) (by simp [results,Tryz.results52,go_sem]) rfl ⟨⟨2,⟨#[]⟩,n,at_⟩,rfl,fun _=>rfl,below3 _ _ _⟩
theorem retStr {a b:ByteArray} (h:a = b):Ending.returned (.string a) = .returned (.string b):=by rw [h]
theorem str_two {a b:Int} (ha:0 ≤ a ∧ a ≤ 255) (hb:0 ≤ b ∧ b ≤ 255) (x y:UInt8):((strOfNums [a,b]).toList == [x,y]) = ((a == (x.toNat:Int)) && (b == (y.toNat:Int))):=by
 rw [ByteArray.toList_eq,strOfNums_data]
 rw [Bool.eq_iff_iff]
 simp only [List.map_cons,List.map_nil,beq_iff_eq,Bool.and_eq_true,List.cons.injEq,and_true]
 have k:∀ (c:Int) (z:UInt8),0 ≤ c ∧ c ≤ 255 → (UInt8.ofNat c.toNat = z ↔ c = (z.toNat:Int)):=fun c z hc=>by
  rw [← UInt8.toNat_inj,UInt8.toNat_ofNat']
  have:=z.toNat_lt
  omega
 rw [k a x ha,k b y hb]
theorem sign_two {l:List Int} (h:2 ≤ l.length) (hd:dblB (gb l 0) (gb l 1) = true):strOfNums (l.take (signS l)) = strOfNums [gb l 0,gb l 1]:=by
 have:signS l = 2:=by unfold signS;rw [if_pos ⟨h,hd⟩]
 rw [this,take2 h]
theorem sign_one {l:List Int} (h:1 ≤ l.length) (hn:¬ (2 ≤ l.length ∧ dblB (gb l 0) (gb l 1) = true)) (hc:gb l 0 ∈ sgls):strOfNums (l.take (signS l)) = strOfNums [gb l 0]:=by
 have:signS l = 1:=by unfold signS;rw [if_neg hn,if_pos hc]
 rw [this,take1 h]
theorem sign_zero {l:List Int} (hn:¬ (2 ≤ l.length ∧ dblB (gb l 0) (gb l 1) = true)) (hc:gb l 0 ∉ sgls):strOfNums (l.take (signS l)) = ⟨#[]⟩:=by
 have:signS l = 0:=by unfold signS;rw [if_neg hn,if_neg hc]
 rw [this];rfl
theorem mem_sgls (c:Int):c ∈ sgls ↔ c = 40 ∨ c = 41 ∨ c = 123 ∨ c = 125 ∨ c = 60 ∨ c = 62 ∨ c = 61 ∨ c = 44 ∨ c = 58 ∨ c = 59 ∨ c = 124 ∨ c = 46 ∨ c = 92 ∨ c = 64 ∨ c = 94 ∨ c = 63 ∨ c = 43 ∨ c = 45 ∨ c = 42 ∨ c = 47 ∨ c = 37:=by simp [sgls]
set_option maxRecDepth 100000 in
set_option maxHeartbeats 8000000 in
theorem sign_any (b off len cap:Nat) (l:List Int) (w:World) (hl:l.length = len) (h0:1 ≤ len) (hcap:len ≤ cap) (hm:len ≤ 9223372036854775807) (hb:Byt l) (hc:CellsAt w .u8 b off l) :
  Calls Tryz.prog 76 #[.slice (some ⟨b,off,none⟩) len cap] w fun e w'=>e = .returned (.string (strOfNums (l.take (signS l)))) ∧ w = w':=by
 have b0:=gb_bd hb 0
 have b1:=gb_bd hb 1
 have k0:w.cell? ⟨b,off,none⟩ = some (.int .u8 (gb l 0)):=hc 0 (by omega)
 have kc1:=run_convert_bytes_arg (P:=Tryz.prog) w 22 5 Tryz.underlying22 Tryz.underlying5 b off 1 cap [gb l 0] rfl (fun i hi=>by
  obtain rfl:i = 0:=by omega
  exact k0) 9 Tryz.underlying9
 by_cases h2:2 ≤ l.length
 ·have k1:=hc 1 (by omega)
  have kc2:=run_convert_bytes_arg (P:=Tryz.prog) w 22 5 Tryz.underlying22 Tryz.underlying5 b off 2 cap [gb l 0,gb l 1] rfl (fun i hi=>by
   obtain rfl | rfl:i = 0 ∨ i = 1:=by omega
   ·exact k0
   ·exact k1) 9 Tryz.underlying9
  have e1:=str_two b0 b1 61 61
  have e2:=str_two b0 b1 61 62
  have e3:=str_two b0 b1 58 61
  have e4:=str_two b0 b1 45 62
  have hdd:dblB (gb l 0) (gb l 1) = (((strOfNums [gb l 0,gb l 1]).toList == [61,61]) || (((strOfNums [gb l 0,gb l 1]).toList == [61,62]) || (((strOfNums [gb l 0,gb l 1]).toList == [58,61]) || ((strOfNums [gb l 0,gb l 1]).toList == [45,62])))):=by
   rw [e1,e2,e3,e4];rfl
  clear e1 e2 e3 e4 k1
  cases hd:dblB (gb l 0) (gb l 1)
  ·have hn:¬ (2 ≤ l.length ∧ dblB (gb l 0) (gb l 1) = true):=fun h=>by rw [hd] at h;cases h.2
   have H1:=Lib.hid (sign_one (l:=l) (by omega) hn)
   have H0:=Lib.hid (sign_zero hn)
   rw [hd] at hdd
   generalize strOfNums [gb l 0,gb l 1] = t2 at *
   have f:=hdd.symm
   simp only [Bool.or_eq_false_iff] at f
   obtain ⟨f1,f2,f3,f4⟩:=f
   have h2':(2:Int) ≤ (len:Int):=by omega
   have h2'':(2:Int) ≤ (cap:Int):=by omega
   clear hl hn hd hdd hb hc h2 b0 b1
   obtain ⟨c0,e0⟩:∃ c,c = gb l 0:=⟨_,rfl⟩
   rw [← e0] at k0 kc1 H1 H0
   clear e0
   go_enter Tryz.func76,Tryz.ntmps76
   go_wp2_with fail
   all_goals go_ret
   all_goals simp only [beq_iff_eq,beq_eq_false_iff_ne,ne_eq] at *
   all_goals first
    | exact ⟨retStr (H1.out ((mem_sgls c0).2 (by omega))).symm,trivial⟩
    | exact ⟨retStr (H0.out (fun h=>by have:=(mem_sgls c0).1 h;omega)).symm,trivial⟩
  ·have H2:=Lib.hid (sign_two h2 hd)
   rw [hd] at hdd
   generalize strOfNums [gb l 0,gb l 1] = t2 at *
   have f:=hdd.symm
   have h2':(2:Int) ≤ (len:Int):=by omega
   have h2'':(2:Int) ≤ (cap:Int):=by omega
   clear hl hd hdd hb hc h2 b0 b1
   have hgo:∀ (P:Prop),((t2.toList == [61,61]) = true → P) → ((t2.toList == [61,61]) = false → (t2.toList == [61,62]) = true → P) → ((t2.toList == [61,61]) = false → (t2.toList == [61,62]) = false → (t2.toList == [58,61]) = true → P) →
     ((t2.toList == [61,61]) = false → (t2.toList == [61,62]) = false → (t2.toList == [58,61]) = false → (t2.toList == [45,62]) = true → P) → P:=fun P p1 p2 p3 p4=>by
    cases a:(t2.toList == [61,61])
    ·cases b:(t2.toList == [61,62])
     ·cases c:(t2.toList == [58,61])
      ·rw [a,b,c] at f
       simp only [Bool.false_or] at f
       exact p4 a b c f
      ·exact p3 a b c
     ·exact p2 a b
    ·exact p1 a
   clear f
   apply hgo
   all_goals
    intros
    clear hgo
    go_enter Tryz.func76,Tryz.ntmps76
    go_wp2_with fail
    go_ret
    exact ⟨retStr H2.out.symm,rfl⟩
 ·have hn:¬ (2 ≤ l.length ∧ dblB (gb l 0) (gb l 1) = true):=fun h=>h2 h.1
  have H1:=Lib.hid (sign_one (l:=l) (by omega) hn)
  have H0:=Lib.hid (sign_zero hn)
  have h2':¬ (1:Int) < (len:Int):=by omega
  obtain ⟨c0,e0⟩:∃ c,c = gb l 0:=⟨_,rfl⟩
  rw [← e0] at k0 kc1 H1 H0
  obtain rfl:len = 1:=by omega
  clear e0 hl hb hc h2 b0 b1 hn
  go_enter Tryz.func76,Tryz.ntmps76
  go_wp2_with fail
  all_goals go_ret
  all_goals simp only [beq_iff_eq,beq_eq_false_iff_ne,ne_eq] at *
  all_goals first
   | exact ⟨retStr (H1.out ((mem_sgls c0).2 (by omega))).symm,trivial⟩
   | exact ⟨retStr (H0.out (fun h=>by have:=(mem_sgls c0).1 h;omega)).symm,trivial⟩
section
def Scn (w:World) (g:Nat) (A:Option Addr) (len cap a:Nat):Prop:=Blk w g 85 #[.slice A len cap,.int .i64 (a:Int)]
section
variable {w w' w'':World} {g len cap a:Nat} {A:Option Addr}
theorem Scn.cells (h:Scn w g A len cap a):w.cell? ⟨g,0,none⟩ = some (.slice A len cap) ∧ w.cell? ⟨g,1,none⟩ = some (.int .i64 (a:Int)) ∧ w.frozen? ⟨g,1,none⟩ = false :=
 ⟨(Blk.cell h 0).trans rfl,(Blk.cell h 1).trans rfl,Blk.frozen h 1⟩
theorem Scn.drewN (h:Scn w g A len cap a) (n:Nat):Scn (w.drewN n) g A len cap a:=h
theorem Scn.set_ (h:Scn w g A len cap a) (a':Nat):Scn (w.setCell ⟨g,1,none⟩ (.int .i64 (a':Int))) g A len cap a':=by
 have:=Blk.set_ h 1 (.int .i64 (a':Int))
 simpa [Scn] using this
theorem Scn.alloc (h:Scn w g A len cap a) (o:Obj):Scn (w.alloc o) g A len cap a:=Blk.alloc h o
theorem Scn.below (h:Scn w g A len cap a) (hb:Below w.heap.size w w'):Scn w' g A len cap a:=Blk.below h hb (Blk.lt h)
theorem only_drewN {row:Option Nat} (h:w.grownBy w' row) (n:Nat):w.grownBy (w'.drewN n) row:=⟨h.os,h.tape,h.output,h.size,h.block⟩
theorem only_trans {row:Option Nat} (h:w.grownBy w' row) (k:w'.grownBy w'' row):w.grownBy w'' row :=
 ⟨k.os.trans h.os,k.tape.trans h.tape,k.output.trans h.output,Nat.le_trans h.size k.size,fun i hi hr=>(k.block i (Nat.lt_of_lt_of_le hi h.size) hr).trans (h.block i hi hr)⟩
theorem only_alloc {row:Option Nat} (h:w.grownBy w' row) (o:Obj):w.grownBy (w'.alloc o) row :=
 ⟨h.os,h.tape,h.output,Nat.le_trans h.size (by simp),fun i hi hr=>(Below.heap_alloc w' o i (Nat.lt_of_lt_of_le hi h.size)).trans (h.block i hi hr)⟩
theorem only_setCell (h:w.grownBy w' (some g)) {p:Addr} (hp:p.block = g ∨ w.heap.size ≤ p.block) (u:Value):w.grownBy (w'.setCell p u) (some g) :=
 ⟨h.os,h.tape,h.output,by simpa [World.setCell] using h.size,fun i hi hr=>(Below.heap_setCell w' p u i (by
  rintro rfl
  rcases hp with hp | hp
  ·exact hr (by rw [hp])
  ·omega)).trans (h.block i hi hr)⟩
theorem SliceAt.only {k:IntKind} {l:List Int} (h:SliceAt w k A l) (hg:w.grownBy w' (some g)) (hne:∀ b off,A = some ⟨b,off,none⟩ → l ≠ [] → b ≠ g):SliceAt w' k A l:=by
 rcases h with h | ⟨b,off,rfl,hlt,hc⟩
 ·exact .inl h
 ·by_cases hn:l = []
  ·exact .inl hn
  ·exact .inr ⟨b,off,rfl,Nat.lt_of_lt_of_le hlt hg.size,hc.grown hg hlt (fun e=>hne b off rfl hn (by injection e with e;exact e.symm))⟩
end
theorem scan_nl {l:List Int} {a:Nat} {out:List Tok} (hb:Byt l) (h:a < l.length) (hc:gb l a = 10):scanS l a true out = scanS l a false out:=by
 have hn:=nx_ascii hb h (by omega)
 rw [scan_rem h (by omega),scan_blank h (by omega) ((blank_iff _).2 (by omega)),hn,hc]
 rfl
theorem scan_hash_rem {l:List Int} {a:Nat} {out:List Tok} (hb:Byt l) (h:a < l.length) (hc:gb l a = 35):scanS l a false out = scanS l a true out:=by
 have hn:=nx_ascii hb h (by omega)
 rw [scan_rem h (by omega),scan_hash h (by omega) hc,hn,hc]
 rfl
theorem quiet2 {P:Program} {f:FuncId} {args:Array Value} {w:World} {a n:Nat} {v:Value}
  (h:Calls P f args (w.drewN (a + n)) fun e w'=>e = .returned v ∧ w.drewN (a + n) = w'):Calls P f args (w.drewN (a + n)) fun e w''=>e = .returned v ∧ ∃ m,w'' = w.drewN (a + m) :=
 h.mono fun _ _ ⟨he,hw⟩=>⟨he,n,hw.symm⟩
theorem quiet1 {P:Program} {f:FuncId} {args:Array Value} {w:World} {n:Nat} {v:Value}
  (h:Calls P f args (w.drewN n) fun e w'=>e = .returned v ∧ w.drewN n = w'):Calls P f args (w.drewN n) fun e w''=>e = .returned v ∧ ∃ m,w'' = w.drewN m :=
 h.mono fun _ _ ⟨he,hw⟩=>⟨he,n,hw.symm⟩
def RemLeft (w:World) (g:Nat) (A:Option Addr) (len cap a:Nat) (l:List Int) (e:Ending) (w':World):Prop :=
 ∃ (a':Nat) (ok:Bool),e = .returned (.bool ok) ∧ a ≤ a' ∧ a' ≤ len ∧ (ok = true → (a' = len ∨ gb l a' = 10) ∧ ∀ out,scanS l a true out = scanS l a' false out) ∧ (ok = false → ∀ out,scanS l a true out = ([],(a':Int),3)) ∧
  w.grownBy w' (some g) ∧ w'.heap.size = w.heap.size ∧ Scn w' g A len cap a'
set_option maxRecDepth 100000 in
set_option maxHeartbeats 2000000 in
theorem remark_any (g len cap a:Nat) (A:Option Addr) (l:List Int) (w:World) (hl:l.length = len) (hcap:len ≤ cap) (hm:len ≤ 9223372036854775807) (hb:Byt l) (hs:SliceAt w .u8 A l) (hne:∀ b off,A = some ⟨b,off,none⟩ → l ≠ [] → b ≠ g)
  (hg:Scn w g A len cap a) (ha:a ≤ len) :
  Calls Tryz.prog 73 #[.pointer (some ⟨g,0,none⟩)] w (RemLeft w g A len cap a l):=by
 have HL:=Lib.hid hl
 have HB:=Lib.hid hb
 have HS:=Lib.hid hs
 have HNE:=Lib.hid hne
 have C:=fun b off a h0 w hc=>Lib.hid (Next_in b off len cap a l w hl h0 hcap hm hb hc)
 clear hl hb hs hne
 go_enter Tryz.func73,Tryz.ntmps73
 go_wp2_with fail
 go_loopg [] (len - a) (fun n wr=>∃ k:Nat,n = len - k ∧ a ≤ k ∧ k ≤ len ∧ (∀ out,scanS l a true out = scanS l k true out) ∧ w.grownBy wr (some g) ∧ wr.heap.size = w.heap.size ∧ Scn wr g A len cap k)
 case atStart=>exact ⟨a,rfl,Nat.le_refl _,ha,fun _=>rfl,World.grownBy.refl _ _,rfl,hg⟩
 case round =>
  clear hg
  obtain ⟨k,rfl,hak,hk,hE,hgr,hsz,hg⟩:=hrel
  obtain ⟨kc0,kc1,kf⟩:=hg.cells
  have HE:=Lib.hid hE
  have HG:=Lib.hid hg
  have HR:=Lib.hid hgr
  have HZ:=Lib.hid hsz
  clear hE hg hgr hsz
  by_cases hlt:k < len
  ·obtain ⟨b,off,rfl,hlb,hc⟩:=(HS.out.only HR.out HNE.out).cells (by rw [HL.out];omega)
   have kb:=hc k (by rw [HL.out];exact hlt)
   have d1:decide (k < len) = true:=decide_eq_true hlt
   have d2:decide ((k:Int) < (len:Int)) = true:=decide_eq_true (by omega)
   have d3:(k:Int) < (len:Int):=by omega
   have d4:(0:Int) ≤ (k:Int):=by omega
   have hc0:=gb_bd HB.out k
   by_cases h10:gb l k = 10
   ·have hsc:∀ out,scanS l a true out = scanS l k false out:=fun out=>(HE.out out).trans (scan_nl HB.out (by rw [HL.out];exact hlt) h10)
    have HSC:=Lib.hid hsc
    have HT:=Lib.hid h10
    rw [h10] at kb
    clear hsc h10 hc0
    go_wp2_with fail
    go_quiet (fail)
    go_wp2_with fail
    go_ret
    exact ⟨k,true,rfl,hak,hk,fun _=>⟨.inr HT.out,HSC.out⟩,fun h=>(by cases h),only_drewN HR.out _,HZ.out,HG.out⟩
   ·have g10:(gb l k != 10) = true:=bne_iff_ne.2 h10
    have CC:=C b off k hlt
    by_cases h0:nx l k = 0
    ·have hsc:∀ out,scanS l a true out = ([],(k:Int),3):=fun out=>(HE.out out).trans (scan_utf (by rw [HL.out];exact hlt) h0)
     have HSC:=Lib.hid hsc
     have hN:NextT l k = .tuple #[.int .i32 0,.int .i64 0,.int .u8 3]:=by
      unfold NextT
      rw [if_neg (by rw [HL.out];omega),Int.toNat_natCast,if_pos (by rw [nx_cast,h0];rfl)]
     rw [hN] at CC
     have HC:=fun w hc=>Lib.hid (CC w hc).out
     have Hc:=Lib.hid hc
     clear hsc hN CC h10 h0 C hc
     generalize gb l k = c at *
     go_wp2_with fail
     go_quiet (fail)
     go_wp2_with fail
     go_quiet ((go_at_call 77;exact quiet2 (HC _ (Hc.out.drewN _)).out))
     go_wp2_with fail
     go_ret
     exact ⟨k,false,rfl,hak,hk,fun h=>(by cases h),fun _=>HSC.out,only_drewN HR.out _,HZ.out,HG.out⟩
    ·have hN:NextT l k = .tuple #[.int .i32 (rn l k),.int .i64 (nx l k:Nat),.int .u8 0]:=by
      unfold NextT
      rw [if_neg (by rw [HL.out];omega),Int.toNat_natCast,next_eq]
      simp only
      rw [if_neg (by omega)]
     have hsc:∀ out,scanS l a true out = scanS l (k + nx l k) true out:=fun out=>(HE.out out).trans (by rw [scan_rem (by rw [HL.out];exact hlt) h0,g10])
     have hbd:=nx_bd h0
     have hbd2:=hbd.2.2 (by rw [HL.out];exact hlt)
     rw [HL.out] at hbd2
     have hbd1:=hbd.1
     have HSC:=Lib.hid hsc
     rw [hN] at CC
     have HC:=fun w hc=>Lib.hid (CC w hc).out
     have Hc:=Lib.hid hc
     clear hsc hN CC h10 h0 C hc hbd
     generalize gb l k = c at *
     generalize nx l k = n at *
     generalize rn l k = r at *
     obtain ⟨kc0',kc1',kf'⟩:=HG.out.cells
     go_wp2_with fail
     go_quiet (fail)
     go_wp2_with fail
     go_quiet ((go_at_call 77;exact quiet2 (HC _ (Hc.out.drewN _)).out))
     go_wp2_with fail
     go_roundg (len - (k + n))
     case measure=>omega
     case rel =>
      have hst:=HG.out.set_ (k + n)
      rw [Int.natCast_add] at hst
      exact ⟨k + n,rfl,by omega,by omega,HSC.out,only_setCell (only_drewN HR.out _) (.inl rfl) _,by simpa [World.setCell] using HZ.out,hst⟩
  ·obtain rfl:k = len:=by omega
   have hsc:∀ out,scanS l a true out = scanS l k false out:=fun out=>(HE.out out).trans (by rw [scan_end (by rw [HL.out];omega),scan_end (by rw [HL.out];omega)])
   have HSC:=Lib.hid hsc
   have d1:decide (k < k) = false:=decide_eq_false (by omega)
   have d2:decide ((k:Int) < (k:Int)) = false:=decide_eq_false (by omega)
   clear hsc C
   go_wp2_with fail
   go_quiet (fail)
   go_wp2_with fail
   go_ret
   exact ⟨k,true,rfl,hak,hk,fun _=>⟨.inl rfl,HSC.out⟩,fun h=>(by cases h),only_drewN HR.out _,HZ.out,HG.out⟩
end
def BlkLeft (w:World) (g:Nat) (A:Option Addr) (len cap a:Nat) (l:List Int) (e:Ending) (w':World):Prop :=
 ∃ (a':Nat) (ok:Bool),e = .returned (.bool ok) ∧ a ≤ a' ∧ a' ≤ len ∧ (ok = true → (a' < len → blankB (gb l a') = false ∧ gb l a' ≠ 35) ∧ ∀ out,scanS l a false out = scanS l a' false out) ∧ (ok = false → ∀ out,scanS l a false out = ([],(a':Int),3)) ∧
  w.grownBy w' (some g) ∧ w'.heap.size = w.heap.size ∧ Scn w' g A len cap a'
set_option maxRecDepth 100000 in
set_option maxHeartbeats 2000000 in
theorem blanks_any (g len cap a:Nat) (A:Option Addr) (l:List Int) (w:World) (hl:l.length = len) (hcap:len ≤ cap) (hm:len ≤ 9223372036854775807) (hb:Byt l) (hs:SliceAt w .u8 A l) (hne:∀ b off,A = some ⟨b,off,none⟩ → l ≠ [] → b ≠ g)
  (hg:Scn w g A len cap a) (ha:a ≤ len) :
  Calls Tryz.prog 40 #[.pointer (some ⟨g,0,none⟩)] w (BlkLeft w g A len cap a l):=by
 have HL:=Lib.hid hl
 have HB:=Lib.hid hb
 have HS:=Lib.hid hs
 have HNE:=Lib.hid hne
 have C:=fun a w hs hg ha=>Lib.hid (remark_any g len cap a A l w hl hcap hm hb hs hne hg ha)
 clear hl hb hs hne
 go_enter Tryz.func40,Tryz.ntmps40
 go_wp2_with fail
 go_loopg [] (len - a) (fun n wr=>∃ k:Nat,n = len - k ∧ a ≤ k ∧ k ≤ len ∧ (∀ out,scanS l a false out = scanS l k false out) ∧ w.grownBy wr (some g) ∧ wr.heap.size = w.heap.size ∧ Scn wr g A len cap k)
 case atStart=>exact ⟨a,rfl,Nat.le_refl _,ha,fun _=>rfl,World.grownBy.refl _ _,rfl,hg⟩
 case round =>
  clear hg
  obtain ⟨k,rfl,hak,hk,hE,hgr,hsz,hg⟩:=hrel
  obtain ⟨kc0,kc1,kf⟩:=hg.cells
  have HE:=Lib.hid hE
  have HG:=Lib.hid hg
  have HR:=Lib.hid hgr
  have HZ:=Lib.hid hsz
  clear hE hg hgr hsz
  by_cases hlt:k < len
  ·obtain ⟨b,off,rfl,hlb,hc⟩:=(HS.out.only HR.out HNE.out).cells (by rw [HL.out];omega)
   have kb:=hc k (by rw [HL.out];exact hlt)
   have d1:decide (k < len) = true:=decide_eq_true hlt
   have d2:decide ((k:Int) < (len:Int)) = true:=decide_eq_true (by omega)
   have d3:(k:Int) < (len:Int):=by omega
   have d4:(0:Int) ≤ (k:Int):=by omega
   have hc0:=gb_bd HB.out k
   clear hc
   by_cases hbl:blankB (gb l k) = true
   ·have hsc:∀ out,scanS l a false out = scanS l (k + 1) false out:=fun out=>(HE.out out).trans (scan_blank (by rw [HL.out];exact hlt) (by
     have:=(blank_iff _).1 hbl
     rw [nx_ascii HB.out (by rw [HL.out];exact hlt) (by omega)];omega) hbl)
    have HSC:=Lib.hid hsc
    have hst:=HG.out.set_ (k + 1)
    rw [Int.natCast_add] at hst
    have HST:=Lib.hid hst
    have hq:=(blank_iff _).1 hbl
    clear hsc hst hbl C hc0
    generalize gb l k = c at *
    have f:(c == 32) = true ∨ ((c == 32) = false ∧ ((c == 9) = true ∨ ((c == 9) = false ∧ ((c == 13) = true ∨ ((c == 13) = false ∧ (c == 10) = true))))):=by
     simp only [beq_iff_eq,beq_eq_false_iff_ne];omega
    clear hq
    rcases f with f | ⟨f0,f | ⟨f1,f | ⟨f2,f⟩⟩⟩
    all_goals
     go_wp2_with fail
     go_quiet (fail)
     go_wp2_with fail
     go_quiet (fail)
     go_wp2_with fail
     go_roundg (len - (k + 1))
     case measure=>omega
     case rel=>exact ⟨k + 1,rfl,by omega,by omega,HSC.out,only_setCell (only_drewN HR.out _) (.inl rfl) _,by simpa [World.setCell] using HZ.out,HST.out⟩
   ·have hbl':blankB (gb l k) = false:=by simpa using hbl
    have hq:=(blank_no _).1 hbl'
    have f0:(gb l k == 32) = false:=by simp only [beq_eq_false_iff_ne];omega
    have f1:(gb l k == 9) = false:=by simp only [beq_eq_false_iff_ne];omega
    have f2:(gb l k == 13) = false:=by simp only [beq_eq_false_iff_ne];omega
    have f3:(gb l k == 10) = false:=by simp only [beq_eq_false_iff_ne];omega
    by_cases h35:gb l k = 35
    ·have hsc:∀ out,scanS l a false out = scanS l k true out:=fun out=>(HE.out out).trans (scan_hash_rem HB.out (by rw [HL.out];exact hlt) h35)
     have HSC:=Lib.hid hsc
     have H35:=Lib.hid h35
     rw [h35] at kb
     have CC:=fun n=>C k (wr.drewN n) (HS.out.only (only_drewN HR.out n) HNE.out) (HG.out.drewN n) (by omega)
     clear hsc hc0 hbl hbl' hq f0 f1 f2 f3 h35 C
     go_wp2_with fail
     go_quiet (fail)
     go_wp2_with fail
     go_quiet (fail)
     go_wp2_with fail
     refine (CC _).out.mono ?_
     rintro e w2 ⟨a',ok,rfl,h1,h2,h3,h4,h5,h6,h7⟩
     have H3:=Lib.hid h3
     have H4:=Lib.hid h4
     have H5:=Lib.hid h5
     have H6:=Lib.hid h6
     have H7:=Lib.hid h7
     clear h3 h4 h5 h6 h7
     cases ok
     ·go_wp2_with fail
      go_ret
      exact ⟨a',false,rfl,by omega,h2,fun h=>(by cases h),fun _ out=>(HSC.out out).trans (H4.out (by trivial) out),only_trans (only_drewN HR.out _) H5.out,H6.out.trans HZ.out,H7.out⟩
     ·have hlt2:k < a':=by
       rcases Nat.lt_or_ge k a' with h | h
       ·exact h
       ·obtain rfl:a' = k:=by omega
        have:=(H3.out rfl).1
        have:=H35.out
        omega
      go_wp2_with fail
      go_roundg (len - a')
      case measure=>omega
      case rel=>exact ⟨a',rfl,by omega,h2,fun out=>(HSC.out out).trans ((H3.out (by trivial)).2 out),only_trans (only_drewN HR.out _) H5.out,H6.out.trans HZ.out,H7.out⟩
    ·have f4:(gb l k == 35) = false:=by simp only [beq_eq_false_iff_ne];omega
     have HQ:=Lib.hid (And.intro hbl' h35)
     clear hbl hbl' hq h35 C hc0
     obtain ⟨c,ec⟩:∃ c,c = gb l k:=⟨_,rfl⟩
     have HEC:=Lib.hid ec
     rw [← ec] at kb f0 f1 f2 f3 f4
     clear ec
     go_wp2_with fail
     go_quiet (fail)
     go_wp2_with fail
     go_quiet (fail)
     go_wp2_with fail
     go_ret
     exact ⟨k,true,rfl,hak,hk,fun _=>⟨fun _=>HQ.out,HE.out⟩,fun h=>(by cases h),only_drewN HR.out _,HZ.out,HG.out⟩
  ·obtain rfl:k = len:=by omega
   have d1:decide (k < k) = false:=decide_eq_false (by omega)
   have d2:decide ((k:Int) < (k:Int)) = false:=decide_eq_false (by omega)
   clear C
   go_wp2_with fail
   go_quiet (fail)
   go_wp2_with fail
   go_ret
   exact ⟨k,true,rfl,hak,hk,fun _=>⟨fun h=>by omega,HE.out⟩,fun h=>(by cases h),only_drewN HR.out _,HZ.out,HG.out⟩
def TokLeft (w:World) (g:Nat) (A:Option Addr) (len cap a:Nat) (l:List Int) (e:Ending) (w':World):Prop :=
 ∃ (t:Tok) (c:Int) (a':Nat),e = .returned (.tuple #[t.val,.int .u8 c]) ∧ a' ≤ len ∧ (c = 0 → a < a' ∧ ∀ out,scanS l a false out = scanS l a' false (out ++ [t])) ∧ (c ≠ 0 → ∀ out,scanS l a false out = ([],(a':Int),c)) ∧
  w.grownBy w' (some g) ∧ Scn w' g A len cap a'
theorem sign_lt {l:List Int} {a:Nat} (h:a < l.length):a + signS (l.drop a) ≤ l.length:=by
 have:=sign_bd (l.drop a) (by rw [List.length_drop];omega)
 rw [List.length_drop] at this
 omega
theorem str_len (l:List Int):(strOfNums l).size = l.length:=by
 simp [strOfNums,ByteArray.size]
set_option maxRecDepth 100000 in
set_option maxHeartbeats 2000000 in
theorem token_sign (g len cap a b off:Nat) (l:List Int) (w:World) (hl:l.length = len) (hcap:len ≤ cap) (hm:len ≤ 9223372036854775807) (hb:Byt l) (hc:CellsAt w .u8 b off l) (hne:b < w.heap.size)
  (hg:Scn w g (some ⟨b,off,none⟩) len cap a) (ha:a < len) (hbl:blankB (gb l a) = false) (h35:gb l a ≠ 35) (hr:runsB (gb l a) = false) (hs:signS (l.drop a) ≠ 0) :
  Calls Tryz.prog 41 #[.pointer (some ⟨g,0,none⟩)] w (TokLeft w g (some ⟨b,off,none⟩) len cap a l):=by
 have hgl:=Blk.lt hg
 obtain ⟨kc0,kc1,kf⟩:=hg.cells
 have kb:=hc a (by omega)
 have C0:=fun w=>Lib.hid (runs_any (gb l a) w)
 rw [hr] at C0
 have C1:=fun w' (h:w'.heap.size = w.heap.size + 1 ∧ Below w.heap.size w w')=>Lib.hid (sign_any b (off + a) (len - a) (cap - a) (l.drop a) w' (by rw [List.length_drop,hl]) (by omega) (by omega) (by omega) (byt_drop hb a) ((cells_drop hc a).below h.2 hne))
 have hbd:=sign_lt (l:=l) (a:=a) (by omega)
 have hsz:(strOfNums ((l.drop a).take (signS (l.drop a)))).size = signS (l.drop a):=by
  rw [str_len,List.length_take,List.length_drop];omega
 have hn0:nx l a ≠ 0:=by
  have hd:gb l a < 128:=by
   unfold signS at hs
   split at hs
   ·rename_i h
    have:=h.2
    rw [gb_drop] at this
    simp [dblB] at this
    omega
   ·split at hs
    ·rename_i h
     have:=sgl_ascii h
     rw [gb_drop] at this
     simp at this
     omega
    ·exact absurd rfl hs
  rw [nx_ascii hb (by omega) hd];omega
 have HSC:=Lib.hid (fun out=>scan_sign (out:=out) (by omega:a < l.length) hn0 hbl h35 hr hs)
 have d1:(0:Int) ≤ (a:Int):=by omega
 have d2:(a:Int) < (len:Int):=by omega
 have d3:(a:Int) ≤ (len:Int):=by omega
 have HG:=Lib.hid hg
 generalize hS:strOfNums ((l.drop a).take (signS (l.drop a))) = S at *
 generalize hN:signS (l.drop a) = n at *
 generalize hB:gb l a = c at *
 rw [hl] at hbd
 have d5:S.size ≠ 0:=by omega
 have d6:¬ S.size = 0:=d5
 have d7:(S.toList != []) = true:=by
  rw [bne_iff_ne]
  intro h
  rw [ByteArray.toList_eq] at h
  apply d5
  rw [← ByteArray.size_data,← Array.length_toList,h];rfl
 have HSZ:=Lib.hid hsz
 have HN:=Lib.hid hs
 have d8:(!S.toList.isEmpty) = true:=by
  simp only [bne_iff_ne,ne_eq] at d7
  simp [d7]
 have hst:=(hg.set_ (a + n)).alloc (.cells #[.int .u8 3,.string S,.int .i64 0,.int .i64 (a:Int)] 63)
 have hw:wrap64 ((a:Int) + (S.size:Int)) = ((a + n:Nat):Int):=by rw [hsz];unfold wrap64;omega
 rw [← hw] at hst
 have HST:=Lib.hid hst
 clear hst hw
 clear hl hb hc hbl h35 hr hs hn0 hS hN hB hg hsz d5 d6
 go_enter Tryz.func41,Tryz.ntmps41
 go_wp2_with fail
 refine (C0 _).out.mono ?_
 rintro e w' ⟨rfl,rfl⟩
 go_wp2_with fail
 refine (C1 _ ⟨by simp,(Below.refl _ _).alloc (Nat.le_refl _) _⟩).out.mono ?_
 rintro e w' ⟨rfl,rfl⟩
 go_wp2_with fail
 refine bodyPost_ret (v:=.tuple #[Tok.val ⟨3,S,0,a⟩,.int .u8 0]) (by simp [results,Tryz.results41,go_sem,Tok.val]) rfl ⟨⟨3,S,0,a⟩,0,a + n,rfl,hbd,fun _=>⟨by have:=HN.out;omega,HSC.out⟩,fun h=>absurd rfl h,only_alloc (only_setCell (World.grownBy.refl _ _) (.inl rfl) _) _,HST.out⟩
set_option maxRecDepth 100000 in
set_option maxHeartbeats 2000000 in
theorem token_none (g len cap a b off:Nat) (l:List Int) (w:World) (hl:l.length = len) (hcap:len ≤ cap) (hm:len ≤ 9223372036854775807) (hb:Byt l) (hc:CellsAt w .u8 b off l) (hne:b < w.heap.size)
  (hg:Scn w g (some ⟨b,off,none⟩) len cap a) (ha:a < len) (hbl:blankB (gb l a) = false) (h35:gb l a ≠ 35) (hr:runsB (gb l a) = false) (hs:signS (l.drop a) = 0) :
  Calls Tryz.prog 41 #[.pointer (some ⟨g,0,none⟩)] w (TokLeft w g (some ⟨b,off,none⟩) len cap a l):=by
 have hgl:=Blk.lt hg
 obtain ⟨kc0,kc1,kf⟩:=hg.cells
 have kb:=hc a (by omega)
 have C0:=fun w=>Lib.hid (runs_any (gb l a) w)
 rw [hr] at C0
 have C1:=fun w' (h:Below w.heap.size w w')=>Lib.hid (sign_any b (off + a) (len - a) (cap - a) (l.drop a) w' (by rw [List.length_drop,hl]) (by omega) (by omega) (by omega) (byt_drop hb a) ((cells_drop hc a).below h hne))
 rw [hs] at C1
 have C2:=fun w' (h:Below w.heap.size w w')=>Lib.hid (Next_in b off len cap a l w' hl ha hcap hm hb (hc.below h hne))
 have d1:(0:Int) ≤ (a:Int):=by omega
 have d2:(a:Int) < (len:Int):=by omega
 have d3:(a:Int) ≤ (len:Int):=by omega
 have hz:strOfNums ((l.drop a).take 0) = ⟨#[]⟩:=rfl
 rw [hz] at C1
 have hst:=hg.alloc (.cells #[.int .u8 0,.string ⟨#[]⟩,.int .i64 0,.int .i64 0] 63)
 have HST:=Lib.hid hst
 by_cases h0:nx l a = 0
 ·have hN:NextT l a = .tuple #[.int .i32 0,.int .i64 0,.int .u8 3]:=by
   unfold NextT
   rw [if_neg (by omega),Int.toNat_natCast,if_pos (by rw [nx_cast,h0];rfl)]
  rw [hN] at C2
  have HSC:=Lib.hid (fun out=>scan_utf (rem:=false) (out:=out) (by omega:a < l.length) h0)
  generalize hB:gb l a = c at *
  clear hl hb hc hbl h35 hr hs hB hg h0 hN hst hz
  go_enter Tryz.func41,Tryz.ntmps41
  go_wp2_with fail
  refine (C0 _).out.mono ?_
  rintro e w' ⟨rfl,rfl⟩
  go_wp2_with fail
  refine (C1 _ ((Below.refl _ _).alloc (Nat.le_refl _) _)).out.mono ?_
  rintro e w' ⟨rfl,rfl⟩
  go_wp2_with fail
  refine (C2 _ ((Below.refl _ _).alloc (Nat.le_refl _) _)).out.mono ?_
  rintro e w' ⟨rfl,rfl⟩
  go_wp2_with fail
  refine bodyPost_ret (v:=.tuple #[Tok.val ⟨0,⟨#[]⟩,0,0⟩,.int .u8 3]) (by simp [results,Tryz.results41,go_sem,Tok.val]) rfl ⟨⟨0,⟨#[]⟩,0,0⟩,3,a,rfl,by omega,fun h=>by simp at h,fun _=>HSC.out,only_alloc (World.grownBy.refl _ _) _,HST.out⟩
 ·have hN:NextT l a = .tuple #[.int .i32 (rn l a),.int .i64 (nx l a:Nat),.int .u8 0]:=by
   unfold NextT
   rw [if_neg (by omega),Int.toNat_natCast,next_eq]
   simp only
   rw [if_neg (by omega)]
  rw [hN] at C2
  have HSC:=Lib.hid (fun out=>scan_nosign (out:=out) (by omega:a < l.length) h0 hbl h35 hr hs)
  generalize hB:gb l a = c at *
  clear hl hb hc hbl h35 hr hs hB hg h0 hN hst hz
  go_enter Tryz.func41,Tryz.ntmps41
  go_wp2_with fail
  refine (C0 _).out.mono ?_
  rintro e w' ⟨rfl,rfl⟩
  go_wp2_with fail
  refine (C1 _ ((Below.refl _ _).alloc (Nat.le_refl _) _)).out.mono ?_
  rintro e w' ⟨rfl,rfl⟩
  go_wp2_with fail
  refine (C2 _ ((Below.refl _ _).alloc (Nat.le_refl _) _)).out.mono ?_
  rintro e w' ⟨rfl,rfl⟩
  go_wp2_with fail
  refine bodyPost_ret (v:=.tuple #[Tok.val ⟨0,⟨#[]⟩,0,0⟩,.int .u8 4]) (by simp [results,Tryz.results41,go_sem,Tok.val]) rfl ⟨⟨0,⟨#[]⟩,0,0⟩,4,a,rfl,by omega,fun h=>by simp at h,fun _=>HSC.out,only_alloc (World.grownBy.refl _ _) _,HST.out⟩
end Go.Proofs.YtahpnackkmbmgaaGreat
end

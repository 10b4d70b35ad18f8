/- Part 1 of the proof: Mem, RLaw, RScan, LLaw, LScan, RWalk. Conditions: none. -/
import Derived.WalkKit
import Derived.Lib.Hide
import Derived.Deep.Draws
import Derived.Laws.BytesArg
import Derived.Test.YtahpnackkmbmgaaGreatChecked
import Derived.Deep.QuietTactic
import Derived.BigQuiet
set_option linter.all false
set_option linter.unusedVariables false
set_option linter.unusedSimpArgs false
section
namespace Go.Proofs.YtahpnackkmbmgaaGreat
open Go.RowKit
section
def gb (l:List Int) (i:Nat):Int:=l.getD i 0
theorem gb_drop (l:List Int) (a i:Nat):gb (l.drop a) i = gb l (a + i):=by
 unfold gb;simp [List.getElem?_drop]
theorem gb_take (l:List Int) (a i:Nat) (h:i < a):gb (l.take a) i = gb l i:=by
 unfold gb;simp [h]
theorem gb_get {l:List Int} {i:Nat} (h:i < l.length):l[i]? = some (gb l i):=by unfold gb;simp [h]
theorem take_gb {l:List Int} {k:Nat} (h:k < l.length):l.take (k + 1) = l.take k ++ [gb l k]:=by
 rw [List.take_succ_eq_append_getElem h];unfold gb;simp [h]
theorem gb_mem {l:List Int} {i:Nat} (h:i < l.length):gb l i ∈ l:=List.mem_of_getElem? (gb_get h)
def CellsAt (w:World) (k:IntKind) (b off:Nat) (l:List Int):Prop:=∀ i,i < l.length → w.cell? ⟨b,off + i,none⟩ = some (.int k (gb l i))
def SliceAt (w:World) (k:IntKind) (A:Option Addr) (l:List Int):Prop:=l = [] ∨ ∃ b off,A = some ⟨b,off,none⟩ ∧ b < w.heap.size ∧ CellsAt w k b off l
theorem cells_drop {w:World} {k:IntKind} {b off:Nat} {l:List Int} (h:CellsAt w k b off l) (n:Nat):CellsAt w k b (off + n) (l.drop n):=fun i hi=>by
 rw [List.length_drop] at hi
 rw [gb_drop,Nat.add_assoc]
 exact h (n + i) (by omega)
theorem cells_take {w:World} {k:IntKind} {b off:Nat} {l:List Int} (h:CellsAt w k b off l) (n:Nat):CellsAt w k b off (l.take n):=fun i hi=>by
 rw [List.length_take] at hi
 rw [gb_take _ _ _ (by omega)]
 exact h i (by omega)
theorem cells_new (w:World) (k:IntKind) (t:TypeId) (l:List Int):CellsAt (w.alloc (.cells (l.map (Value.int k)).toArray t)) k w.heap.size 0 l:=fun i hi=>by
 rw [World.cell?_alloc_new]
 simp [gb,hi]
theorem cells_new_at (w:World) (k:IntKind) (t:TypeId) (l:List Int) {n:Nat} (h:n = w.heap.size):CellsAt (w.alloc (.cells (l.map (Value.int k)).toArray t)) k n 0 l:=by subst h;exact cells_new w k t l
section
variable {w w':World} {k:IntKind} {b off:Nat} {l:List Int} {A:Option Addr}
theorem CellsAt.keep (h:CellsAt w k b off l) (hk:∀ i,w'.cell? ⟨b,i,none⟩ = w.cell? ⟨b,i,none⟩):CellsAt w' k b off l:=fun i hi=>(hk _).trans (h i hi)
theorem CellsAt.below {B:Nat} (h:CellsAt w k b off l) (hb:Below B w w') (hB:b < B):CellsAt w' k b off l:=h.keep fun i=>hb.cell (p:=⟨b,i,none⟩) hB
theorem CellsAt.drew (h:CellsAt w k b off l):CellsAt w.drew k b off l:=h
theorem CellsAt.drewN (h:CellsAt w k b off l) (n:Nat):CellsAt (w.drewN n) k b off l:=h
theorem CellsAt.grown {row:Option Nat} (h:CellsAt w k b off l) (hg:w.grownBy w' row) (hB:b < w.heap.size) (hr:row ≠ some b):CellsAt w' k b off l :=
 h.keep fun _=>World.cell?_of_block (hg.block b hB (fun e=>hr e.symm))
theorem SliceAt.below_all (h:SliceAt w k A l) (hb:Below w.heap.size w w'):SliceAt w' k A l:=by
 rcases h with h | ⟨b,off,rfl,hlt,hc⟩
 ·exact .inl h
 ·exact .inr ⟨b,off,rfl,Nat.lt_of_lt_of_le hlt hb.size,hc.below hb hlt⟩
theorem SliceAt.cells (h:SliceAt w k A l) (hl:0 < l.length):∃ b off,A = some ⟨b,off,none⟩ ∧ b < w.heap.size ∧ CellsAt w k b off l:=by
 rcases h with rfl | h
 ·simp at hl
 ·exact h
end
theorem below_drewN {B:Nat} {a w:World} (h:Below B a w) (n:Nat):Below B a (w.drewN n):=⟨h.os,h.tape,h.output,h.size,h.block⟩
theorem retBool {a b:Bool} (h:a = b):Ending.returned (.bool a) = .returned (.bool b):=by rw [h]
end
def Byt (l:List Int):Prop:=∀ x ∈ l,0 ≤ x ∧ x ≤ 255
theorem gb_bd {l:List Int} (h:Byt l) (i:Nat):0 ≤ gb l i ∧ gb l i ≤ 255:=by
 unfold gb
 rw [List.getD_eq_getElem?_getD]
 cases e:l[i]? with
 | none=>simp
 | some x=>exact h x (List.mem_of_getElem? e)
theorem byt_drop {l:List Int} (h:Byt l) (a:Nat):Byt (l.drop a):=fun x hx=>h x (List.mem_of_mem_drop hx)
def lenZ (c:Int):Int:=if c < 128 then 1 else if 192 ≤ c ∧ c < 224 then 2 else if 224 ≤ c ∧ c < 240 then 3 else if 240 ≤ c ∧ c < 248 then 4 else 0
theorem lenZ_bd (c:Int):0 ≤ lenZ c ∧ lenZ c ≤ 4:=by unfold lenZ;repeat' split <;> omega
def isB (r:Int):Bool:=decide (0 ≤ r) && (decide (r ≤ 1114111) && (decide (r < 55296) || decide (57343 < r)))
theorem isB_iff (r:Int):isB r = true ↔ 0 ≤ r ∧ r ≤ 1114111 ∧ (r < 55296 ∨ 57343 < r):=by unfold isB;simp only [Bool.and_eq_true,Bool.or_eq_true,decide_eq_true_eq]
def sizeZ (r:Int):Int:=if r < 128 then 1 else if r < 2048 then 2 else if r < 65536 then 3 else 4
def firstZ (n c:Int):Int:=if n = 1 then c else if n = 2 then c % 32 else if n = 3 then c % 16 else c % 8
def accS (l:List Int) (m:Int):Nat → Int
 | 0=>m
 | k + 1=>accS l m k * 64 + gb l (k + 1) % 64
def contS (l:List Int):Nat → Bool
 | 0=>true
 | k + 1=>contS l k && decide (gb l (k + 1) / 64 = 2)
def nextS (l:List Int):Int × Int :=
 if lenZ (gb l 0) = 0 ∨ (l.length:Int) < lenZ (gb l 0) then (0,0) else
 if contS l ((lenZ (gb l 0)).toNat - 1) = true ∧ isB (accS l (firstZ (lenZ (gb l 0)) (gb l 0)) ((lenZ (gb l 0)).toNat - 1)) = true ∧ sizeZ (accS l (firstZ (lenZ (gb l 0)) (gb l 0)) ((lenZ (gb l 0)).toNat - 1)) = lenZ (gb l 0)
 then (accS l (firstZ (lenZ (gb l 0)) (gb l 0)) ((lenZ (gb l 0)).toNat - 1),lenZ (gb l 0)) else (0,0)

def offZ (n:Nat):Int:=if n = 2 then 192 else if n = 3 then 224 else if n = 4 then 240 else 0
def refS (l:List Int) (m:Int):Nat → Int
 | 0=>m
 | k + 1=>64 * refS l m k + gb l (k + 1) - 128
def refR (l:List Int) (n:Nat):Int:=refS l (gb l 0 - offZ n) (n - 1)
def bytesS (r:Int):List Int :=
 if r < 128 then [r] else if r < 2048 then [192 + r / 64,128 + r % 64] else if r < 65536 then [224 + r / 4096,128 + r / 64 % 64,128 + r % 64]
 else [240 + r / 262144,128 + r / 4096 % 64,128 + r / 64 % 64,128 + r % 64]
theorem bytesS_len (r:Int):((bytesS r).length:Int) = sizeZ r:=by
 unfold bytesS sizeZ
 by_cases a:r < 128
 ·simp [a]
 by_cases b:r < 2048
 ·simp [a,b]
 by_cases c:r < 65536 <;> simp [a,b,c]
def trialB (l:List Int) (n:Nat):Bool:=isB (refR l n) && (bytesS (refR l n) == l.take n)

theorem take1 {l:List Int} (h:1 ≤ l.length):l.take 1 = [gb l 0]:=by
 match l,h with
 | a :: _,_=>rfl
theorem take2 {l:List Int} (h:2 ≤ l.length):l.take 2 = [gb l 0,gb l 1]:=by
 match l,h with
 | a :: b :: _,_=>rfl
theorem take3 {l:List Int} (h:3 ≤ l.length):l.take 3 = [gb l 0,gb l 1,gb l 2]:=by
 match l,h with
 | a :: b :: c :: _,_=>rfl
theorem take4 {l:List Int} (h:4 ≤ l.length):l.take 4 = [gb l 0,gb l 1,gb l 2,gb l 3]:=by
 match l,h with
 | a :: b :: c :: d :: _,_=>rfl

theorem next_none {l:List Int}:nextS l = (0,0) ∨ (1 ≤ (nextS l).2 ∧ (nextS l).2 ≤ 4 ∧ (nextS l).2 ≤ l.length):=by
 unfold nextS
 have h:=lenZ_bd (gb l 0)
 split
 ·exact .inl rfl
 ·rename_i h0
  split
  ·right;simp only;omega
  ·exact .inl rfl

def V (l:List Int):Nat → Prop
 | 1=>gb l 0 < 128
 | 2=>192 ≤ gb l 0 ∧ gb l 0 < 224 ∧ 128 ≤ gb l 1 ∧ gb l 1 < 192 ∧ 128 ≤ (gb l 0 - 192) * 64 + (gb l 1 - 128)
 | 3=>224 ≤ gb l 0 ∧ gb l 0 < 240 ∧ 128 ≤ gb l 1 ∧ gb l 1 < 192 ∧ 128 ≤ gb l 2 ∧ gb l 2 < 192 ∧ 2048 ≤ (gb l 0 - 224) * 4096 + (gb l 1 - 128) * 64 + (gb l 2 - 128) ∧
   ((gb l 0 - 224) * 4096 + (gb l 1 - 128) * 64 + (gb l 2 - 128) < 55296 ∨ 57343 < (gb l 0 - 224) * 4096 + (gb l 1 - 128) * 64 + (gb l 2 - 128))
 | 4=>240 ≤ gb l 0 ∧ gb l 0 < 248 ∧ 128 ≤ gb l 1 ∧ gb l 1 < 192 ∧ 128 ≤ gb l 2 ∧ gb l 2 < 192 ∧ 128 ≤ gb l 3 ∧ gb l 3 < 192 ∧
   65536 ≤ (gb l 0 - 240) * 262144 + (gb l 1 - 128) * 4096 + (gb l 2 - 128) * 64 + (gb l 3 - 128) ∧ (gb l 0 - 240) * 262144 + (gb l 1 - 128) * 4096 + (gb l 2 - 128) * 64 + (gb l 3 - 128) ≤ 1114111
 | _=>False
theorem refR1 (l:List Int):refR l 1 = gb l 0:=by simp [refR,refS,offZ]
theorem refR2 (l:List Int):refR l 2 = (gb l 0 - 192) * 64 + (gb l 1 - 128):=by simp [refR,refS,offZ];omega
theorem refR3 (l:List Int):refR l 3 = (gb l 0 - 224) * 4096 + (gb l 1 - 128) * 64 + (gb l 2 - 128):=by simp [refR,refS,offZ];omega
theorem refR4 (l:List Int):refR l 4 = (gb l 0 - 240) * 262144 + (gb l 1 - 128) * 4096 + (gb l 2 - 128) * 64 + (gb l 3 - 128):=by simp [refR,refS,offZ];omega
theorem bytes1 {r:Int} (h:r < 128):bytesS r = [r]:=by unfold bytesS;rw [if_pos h]
theorem bytes2 {r:Int} (h:¬ r < 128) (h':r < 2048):bytesS r = [192 + r / 64,128 + r % 64]:=by unfold bytesS;rw [if_neg h,if_pos h']
theorem bytes3 {r:Int} (h:¬ r < 2048) (h':r < 65536):bytesS r = [224 + r / 4096,128 + r / 64 % 64,128 + r % 64]:=by unfold bytesS;rw [if_neg (by omega),if_neg h,if_pos h']
theorem bytes4 {r:Int} (h:¬ r < 65536):bytesS r = [240 + r / 262144,128 + r / 4096 % 64,128 + r / 64 % 64,128 + r % 64]:=by unfold bytesS;rw [if_neg (by omega),if_neg (by omega),if_neg h]
theorem bytes_cases (r:Int) {P:Prop} (h1:r < 128 → bytesS r = [r] → P) (h2:¬ r < 128 → r < 2048 → bytesS r = [192 + r / 64,128 + r % 64] → P)
  (h3:¬ r < 2048 → r < 65536 → bytesS r = [224 + r / 4096,128 + r / 64 % 64,128 + r % 64] → P)
  (h4:¬ r < 65536 → bytesS r = [240 + r / 262144,128 + r / 4096 % 64,128 + r / 64 % 64,128 + r % 64] → P):P:=by
 by_cases a:r < 128
 ·exact h1 a (bytes1 a)
 by_cases b:r < 2048
 ·exact h2 a b (bytes2 a b)
 by_cases c:r < 65536
 ·exact h3 b c (bytes3 b c)
 ·exact h4 c (bytes4 c)

theorem trial1 {l:List Int} (hb:Byt l) (hl:1 ≤ l.length):trialB l 1 = true ↔ V l 1:=by
 have b0:=gb_bd hb 0
 unfold trialB V
 rw [take1 hl,refR1]
 simp only [Bool.and_eq_true,beq_iff_eq,isB_iff]
 generalize gb l 0 = c at *
 refine bytes_cases c ?_ ?_ ?_ ?_ <;> (intros;rename_i e;rw [e];simp;try omega)
theorem trial2 {l:List Int} (hb:Byt l) (hl:2 ≤ l.length):trialB l 2 = true ↔ V l 2:=by
 have b0:=gb_bd hb 0
 have b1:=gb_bd hb 1
 unfold trialB V
 rw [take2 hl,refR2]
 simp only [Bool.and_eq_true,beq_iff_eq,isB_iff]
 generalize gb l 0 = c at *
 generalize gb l 1 = d at *
 refine bytes_cases ((c - 192) * 64 + (d - 128)) ?_ ?_ ?_ ?_ <;> (intros;rename_i e;rw [e];simp;try omega)
theorem trial3 {l:List Int} (hb:Byt l) (hl:3 ≤ l.length):trialB l 3 = true ↔ V l 3:=by
 have b0:=gb_bd hb 0
 have b1:=gb_bd hb 1
 have b2:=gb_bd hb 2
 unfold trialB V
 rw [take3 hl,refR3]
 simp only [Bool.and_eq_true,beq_iff_eq,isB_iff]
 generalize gb l 0 = c at *
 generalize gb l 1 = d at *
 generalize gb l 2 = f at *
 refine bytes_cases ((c - 224) * 4096 + (d - 128) * 64 + (f - 128)) ?_ ?_ ?_ ?_ <;> (intros;rename_i e;rw [e];simp;try omega)
theorem trial4 {l:List Int} (hb:Byt l) (hl:4 ≤ l.length):trialB l 4 = true ↔ V l 4:=by
 have b0:=gb_bd hb 0
 have b1:=gb_bd hb 1
 have b2:=gb_bd hb 2
 have b3:=gb_bd hb 3
 unfold trialB V
 rw [take4 hl,refR4]
 simp only [Bool.and_eq_true,beq_iff_eq,isB_iff]
 generalize gb l 0 = c at *
 generalize gb l 1 = d at *
 generalize gb l 2 = f at *
 generalize gb l 3 = g at *
 refine bytes_cases ((c - 240) * 262144 + (d - 128) * 4096 + (f - 128) * 64 + (g - 128)) ?_ ?_ ?_ ?_ <;> (intros;rename_i e;rw [e];simp;try omega)
def codeR (l:List Int) (n:Nat):Int:=accS l (firstZ n (gb l 0)) (n - 1)
theorem next_case {l:List Int} {n:Nat} (h:lenZ (gb l 0) = n) (h0:n ≠ 0) :
  nextS l = if n ≤ l.length ∧ contS l (n - 1) = true ∧ isB (codeR l n) = true ∧ sizeZ (codeR l n) = n then (codeR l n,(n:Int)) else (0,0):=by
 unfold nextS codeR
 rw [h]
 simp only [Int.toNat_natCast]
 by_cases hl:n ≤ l.length
 ·rw [if_neg (by omega)]
  simp only [hl,true_and]
 ·rw [if_pos (by omega),if_neg (fun hh=>hl hh.1)]
theorem next_zero {l:List Int} (h:lenZ (gb l 0) = 0):nextS l = (0,0):=by unfold nextS;rw [if_pos (.inl h)]
theorem size_of {r:Int}:(sizeZ r = 1 ↔ r < 128) ∧ (sizeZ r = 2 ↔ ¬ r < 128 ∧ r < 2048) ∧ (sizeZ r = 3 ↔ ¬ r < 2048 ∧ r < 65536) ∧ (sizeZ r = 4 ↔ ¬ r < 65536):=by
 unfold sizeZ
 by_cases a:r < 128
 ·simp [a];omega
 by_cases b:r < 2048
 ·simp [a,b];omega
 by_cases c:r < 65536 <;> simp [a,b,c] <;> omega
theorem next_is {l:List Int} (hb:Byt l) (n:Nat) (hn:n ≤ l.length) (hv:V l n):nextS l = (refR l n,(n:Int)):=by
 have b0:=gb_bd hb 0
 have b1:=gb_bd hb 1
 have b2:=gb_bd hb 2
 have b3:=gb_bd hb 3
 have sz:=@size_of (codeR l n)
 match n,hn,hv with
 | 1,hn,hv =>
  simp only [V] at hv
  have hl:lenZ (gb l 0) = (1:Nat):=by unfold lenZ;rw [if_pos hv];rfl
  have e:codeR l 1 = refR l 1:=by rw [refR1];simp [codeR,accS,firstZ]
  rw [next_case hl (by omega),e]
  rw [e] at sz
  rw [if_pos ⟨hn,rfl,by rw [isB_iff,refR1];omega,by rw [show ((1:Nat):Int) = 1 from rfl,sz.1,refR1];exact hv⟩]
 | 2,hn,hv =>
  simp only [V] at hv
  have hl:lenZ (gb l 0) = (2:Nat):=by unfold lenZ;rw [if_neg (by omega),if_pos (by omega)];rfl
  have e:codeR l 2 = refR l 2:=by rw [refR2];simp [codeR,accS,firstZ];omega
  have c:contS l 1 = true:=by simp [contS];omega
  rw [next_case hl (by omega),e]
  rw [e] at sz
  rw [if_pos ⟨hn,c,by rw [isB_iff,refR2];omega,by rw [show ((2:Nat):Int) = 2 from rfl,sz.2.1,refR2];omega⟩]
 | 3,hn,hv =>
  simp only [V] at hv
  have hl:lenZ (gb l 0) = (3:Nat):=by unfold lenZ;rw [if_neg (by omega),if_neg (by omega),if_pos (by omega)];rfl
  have e:codeR l 3 = refR l 3:=by rw [refR3];simp [codeR,accS,firstZ];omega
  have c:contS l 2 = true:=by simp [contS];omega
  rw [next_case hl (by omega),e]
  rw [e] at sz
  rw [if_pos ⟨hn,c,by rw [isB_iff,refR3];omega,by rw [show ((3:Nat):Int) = 3 from rfl,sz.2.2.1,refR3];omega⟩]
 | 4,hn,hv =>
  simp only [V] at hv
  have hl:lenZ (gb l 0) = (4:Nat):=by unfold lenZ;rw [if_neg (by omega),if_neg (by omega),if_neg (by omega),if_pos (by omega)];rfl
  have e:codeR l 4 = refR l 4:=by rw [refR4];simp [codeR,accS,firstZ];omega
  have c:contS l 3 = true:=by simp [contS];omega
  rw [next_case hl (by omega),e]
  rw [e] at sz
  rw [if_pos ⟨hn,c,by rw [isB_iff,refR4];omega,by rw [show ((4:Nat):Int) = 4 from rfl,sz.2.2.2,refR4];omega⟩]
theorem next_has {l:List Int} (hb:Byt l):nextS l = (0,0) ∨ ∃ n:Nat,n ≤ l.length ∧ 1 ≤ n ∧ n ≤ 4 ∧ V l n:=by
 have b0:=gb_bd hb 0
 have b1:=gb_bd hb 1
 have b2:=gb_bd hb 2
 have b3:=gb_bd hb 3
 have hk:lenZ (gb l 0) = 0 ∨ (lenZ (gb l 0) = (1:Nat) ∧ gb l 0 < 128) ∨ (lenZ (gb l 0) = (2:Nat) ∧ 192 ≤ gb l 0 ∧ gb l 0 < 224) ∨ (lenZ (gb l 0) = (3:Nat) ∧ 224 ≤ gb l 0 ∧ gb l 0 < 240) ∨ (lenZ (gb l 0) = (4:Nat) ∧ 240 ≤ gb l 0 ∧ gb l 0 < 248):=by
  unfold lenZ
  repeat' split
  all_goals simp
  all_goals omega
 rcases hk with h | ⟨h,k⟩ | ⟨h,k⟩ | ⟨h,k⟩ | ⟨h,k⟩
 ·exact .inl (next_zero h)
 ·rw [next_case h (by omega)]
  split
  ·rename_i g;right;exact ⟨1,g.1,by omega,by omega,k⟩
  ·exact .inl rfl
 ·have sz:=@size_of (codeR l 2)
  rw [next_case h (by omega)]
  split
  ·rename_i g;right
   obtain ⟨g1,g2,g3,g4⟩:=g
   rw [isB_iff] at g3
   rw [show ((2:Nat):Int) = 2 from rfl,sz.2.1] at g4
   simp [contS] at g2
   simp [codeR,accS,firstZ] at g3 g4
   exact ⟨2,g1,by omega,by omega,by simp only [V];omega⟩
  ·exact .inl rfl
 ·have sz:=@size_of (codeR l 3)
  rw [next_case h (by omega)]
  split
  ·rename_i g;right
   obtain ⟨g1,g2,g3,g4⟩:=g
   rw [isB_iff] at g3
   rw [show ((3:Nat):Int) = 3 from rfl,sz.2.2.1] at g4
   simp [contS] at g2
   simp [codeR,accS,firstZ] at g3 g4
   exact ⟨3,g1,by omega,by omega,by simp only [V];omega⟩
  ·exact .inl rfl
 ·have sz:=@size_of (codeR l 4)
  rw [next_case h (by omega)]
  split
  ·rename_i g;right
   obtain ⟨g1,g2,g3,g4⟩:=g
   rw [isB_iff] at g3
   rw [show ((4:Nat):Int) = 4 from rfl,sz.2.2.2] at g4
   simp [contS] at g2
   simp [codeR,accS,firstZ] at g3 g4
   exact ⟨4,g1,by omega,by omega,by simp only [V];omega⟩
  ·exact .inl rfl
theorem trial_iff {l:List Int} (hb:Byt l) {n:Nat} (h1:1 ≤ n) (h4:n ≤ 4) (hl:n ≤ l.length):trialB l n = true ↔ V l n:=by
 obtain rfl | rfl | rfl | rfl:n = 1 ∨ n = 2 ∨ n = 3 ∨ n = 4:=by omega
 ·exact trial1 hb hl
 ·exact trial2 hb hl
 ·exact trial3 hb hl
 ·exact trial4 hb hl
theorem trial_won {l:List Int} (hb:Byt l) {n:Nat} (h1:1 ≤ n) (h4:n ≤ 4) (hl:n ≤ l.length) (h:trialB l n = true):nextS l = (refR l n,(n:Int)) :=
 next_is hb n hl ((trial_iff hb h1 h4 hl).1 h)
theorem trials_lost {l:List Int} (hb:Byt l) (h:∀ n,1 ≤ n → n ≤ 4 → n ≤ l.length → trialB l n = false):nextS l = (0,0):=by
 rcases next_has hb with h0 | ⟨n,hl,h1,h4,hv⟩
 ·exact h0
 ·have:=(trial_iff hb h1 h4 hl).2 hv
  rw [h n h1 h4 hl] at this
  cases this
def nx (l:List Int) (a:Nat):Nat:=(nextS (l.drop a)).2.toNat
def rn (l:List Int) (a:Nat):Int:=(nextS (l.drop a)).1
theorem nx_cast (l:List Int) (a:Nat):(nextS (l.drop a)).2 = (nx l a:Int):=by
 unfold nx
 have:=next_none (l:=l.drop a)
 rcases this with h | h
 ·rw [h];rfl
 ·omega
theorem nx_bd {l:List Int} {a:Nat} (h:nx l a ≠ 0):1 ≤ nx l a ∧ nx l a ≤ 4 ∧ (a < l.length → a + nx l a ≤ l.length):=by
 have h1:=next_none (l:=l.drop a)
 have h2:=nx_cast l a
 rw [List.length_drop] at h1
 rcases h1 with h1 | h1
 ·rw [h1] at h2;simp at h2;omega
 ·omega
theorem next_eq (l:List Int) (a:Nat):nextS (l.drop a) = (rn l a,(nx l a:Int)):=by
 rw [← nx_cast];rfl
def smallB (c:Int):Bool:=decide (97 ≤ c) && decide (c ≤ 122)
def greatB (c:Int):Bool:=decide (65 ≤ c) && decide (c ≤ 90)
def digitB (c:Int):Bool:=decide (48 ≤ c) && decide (c ≤ 57)
def runsB (c:Int):Bool:=smallB c || (greatB c || (digitB c || c == 95))
theorem small_iff (c:Int):smallB c = true ↔ 97 ≤ c ∧ c ≤ 122:=by unfold smallB;simp
theorem great_iff (c:Int):greatB c = true ↔ 65 ≤ c ∧ c ≤ 90:=by unfold greatB;simp
theorem digit_iff (c:Int):digitB c = true ↔ 48 ≤ c ∧ c ≤ 57:=by unfold digitB;simp
theorem runs_iff (c:Int):runsB c = true ↔ (97 ≤ c ∧ c ≤ 122) ∨ (65 ≤ c ∧ c ≤ 90) ∨ (48 ≤ c ∧ c ≤ 57) ∨ c = 95:=by
 unfold runsB;simp [small_iff,great_iff,digit_iff]
theorem small_no (c:Int):smallB c = false ↔ ¬ (97 ≤ c ∧ c ≤ 122):=by rw [← small_iff];simp
theorem great_no (c:Int):greatB c = false ↔ ¬ (65 ≤ c ∧ c ≤ 90):=by rw [← great_iff];simp
theorem digit_no (c:Int):digitB c = false ↔ ¬ (48 ≤ c ∧ c ≤ 57):=by rw [← digit_iff];simp
def kindZ (c:Int):Int:=if smallB c then 1 else if greatB c then 2 else if digitB c then 3 else if c = 95 then 4 else 0
theorem kind_pos (c:Int):0 < kindZ c ↔ runsB c = true:=by
 unfold kindZ
 rw [runs_iff]
 simp only [small_iff,great_iff,digit_iff]
 repeat' split
 all_goals omega
theorem kind_digit (c:Int):kindZ c = 3 ↔ digitB c = true:=by
 unfold kindZ
 simp only [small_iff,great_iff,digit_iff]
 repeat' split
 all_goals omega
theorem kind_small (c:Int):kindZ c = 1 ↔ smallB c = true:=by
 unfold kindZ
 simp only [small_iff,great_iff,digit_iff]
 repeat' split
 all_goals omega
theorem kind_other (c:Int):(kindZ c = 0 ∨ kindZ c = 2) ↔ ¬ (smallB c = true ∨ digitB c = true ∨ c = 95):=by
 unfold kindZ
 simp only [small_iff,great_iff,digit_iff]
 repeat' split
 all_goals omega
def numsOf (s:ByteArray):List Int:=s.data.toList.map fun b=>(b.toNat:Int)
theorem nums_len (s:ByteArray):(numsOf s).length = s.size:=by unfold numsOf;rw [List.length_map,Array.length_toList];rfl
theorem nums_gb (s:ByteArray) (k:Nat) (h:k < s.size):(s[k].toNat:Int) = gb (numsOf s) k:=by
 have h':k < s.data.size:=h
 have e:(numsOf s)[k]? = some ((s.data[k].toNat:Nat):Int):=by
  unfold numsOf
  rw [List.getElem?_map,Array.getElem?_toList,Array.getElem?_eq_getElem h']
  rfl
 unfold gb
 rw [List.getD_eq_getElem?_getD,e]
 rfl
theorem nums_str {l:List Int} (h:Byt l):numsOf (strOfNums l) = l:=by
 unfold numsOf
 rw [strOfNums_data,List.map_map]
 conv=>rhs;rw [← List.map_id l]
 apply List.map_congr_left
 intro x hx
 have:=h x hx
 simp only [Function.comp,UInt8.toNat_ofNat',id]
 omega
def okAt (l:List Int) (i:Nat):Bool:=smallB (gb l i) || (decide (0 < i) && (digitB (gb l i) || gb l i == 95))
def wordlyB (l:List Int):Bool:=decide (0 < l.length) && (List.range l.length).all (okAt l)
theorem wordly_no {l:List Int} {k:Nat} (hk:k < l.length) (h:okAt l k = false):wordlyB l = false:=by
 unfold wordlyB
 have:(List.range l.length).all (okAt l) = false:=by
  rw [List.all_eq_false]
  exact ⟨k,List.mem_range.2 hk,by rw [h];decide⟩
 rw [this,Bool.and_false]
theorem wordly_end {l:List Int} (h:∀ i,i < l.length → okAt l i = true):wordlyB l = decide (0 < l.length):=by
 unfold wordlyB
 have:(List.range l.length).all (okAt l) = true:=by
  rw [List.all_eq_true]
  exact fun i hi=>h i (List.mem_range.1 hi)
 rw [this,Bool.and_true]
theorem ok_snoc {l:List Int} {k:Nat} (h:∀ i,i < k → okAt l i = true) (hk:okAt l k = true):∀ i,i < k + 1 → okAt l i = true:=fun i hi=>by
 by_cases e:i = k
 ·rw [e];exact hk
 ·exact h i (by omega)

def decV:List Int → Int → Int
 | [],n=>n
 | c :: l,n=>decV l (10 * n + (c - 48))
theorem decV_snoc (l:List Int) (c n:Int):decV (l ++ [c]) n = 10 * decV l n + (c - 48):=by
 induction l generalizing n with
 | nil=>rfl
 | cons d l ih=>simp only [List.cons_append,decV];exact ih _
def Digits (l:List Int):Prop:=∀ x ∈ l,48 ≤ x ∧ x ≤ 57
theorem decV_ge {l:List Int} (h:Digits l) {n:Int} (hn:0 ≤ n):n ≤ decV l n:=by
 induction l generalizing n with
 | nil=>exact Int.le_refl _
 | cons c l ih =>
  have hc:=h c (by simp)
  have:=ih (fun x hx=>h x (by simp [hx])) (n:=10 * n + (c - 48)) (by omega)
  simp only [decV];omega
theorem decV_take {l:List Int} (h:Digits l) (k:Nat):decV (l.take k) 0 ≤ decV l 0:=by
 have h1:∀ (a b:List Int) (n:Int),decV (a ++ b) n = decV b (decV a n):=by
  intro a
  induction a with
  | nil=>intro b n;rfl
  | cons c a ih=>intro b n;exact ih b _
 have h2:=decV_ge (fun x hx=>h x (List.mem_of_mem_take hx):Digits (l.take k)) (n:=0) (by omega)
 have h3:=decV_ge (fun x hx=>h x (List.mem_of_mem_drop hx):Digits (l.drop k)) (n:=decV (l.take k) 0) h2
 rw [← h1,List.take_append_drop] at h3
 exact h3
theorem decV_step {l:List Int} {k:Nat} (hk:k < l.length):decV (l.take (k + 1)) 0 = 10 * decV (l.take k) 0 + (gb l k - 48):=by rw [take_gb hk,decV_snoc]
def ten:Nat → Int
 | 0=>1
 | n + 1=>10 * ten n
theorem ten_pos (n:Nat):0 < ten n:=by induction n <;> simp [ten];omega
theorem decV_val (l:List Int) (n:Int):decV l n = n * ten l.length + decV l 0:=by
 induction l generalizing n with
 | nil=>simp [decV,ten]
 | cons c l ih =>
  simp only [decV,List.length_cons,ten]
  rw [ih (10 * n + (c - 48)),ih (10 * 0 + (c - 48))]
  grind
theorem decV_lt {l:List Int} (h:Digits l):0 ≤ decV l 0 ∧ decV l 0 < ten l.length:=by
 induction l with
 | nil=>simp [decV,ten]
 | cons c l ih =>
  have hc:=h c (by simp)
  have hi:=ih fun x hx=>h x (by simp [hx])
  simp only [decV,List.length_cons,ten]
  rw [decV_val]
  have hp:=ten_pos l.length
  have h1:(10 * 0 + (c - 48)) * ten l.length ≤ 9 * ten l.length:=Int.mul_le_mul_of_nonneg_right (by omega) (Int.le_of_lt hp)
  have h2:0 ≤ (10 * 0 + (c - 48)) * ten l.length:=Int.mul_nonneg (by omega) (Int.le_of_lt hp)
  omega
def lessZ:List Int → List Int → Bool
 | a :: l,b :: m=>if a = b then lessZ l m else decide (a < b)
 | [],_ :: _=>true
 | _,[]=>false
theorem less_val {a b:List Int} (ha:Digits a) (hb:Digits b) (h:a.length = b.length):lessZ a b = true ↔ decV a 0 < decV b 0:=by
 induction a generalizing b with
 | nil =>
  cases b with
  | nil=>simp [lessZ]
  | cons _ _=>simp at h
 | cons x a ih =>
  cases b with
  | nil=>simp at h
  | cons y b =>
   have hx:=ha x (by simp)
   have hy:=hb y (by simp)
   have ha':Digits a:=fun z hz=>ha z (by simp [hz])
   have hb':Digits b:=fun z hz=>hb z (by simp [hz])
   have hl:a.length = b.length:=by simpa using h
   have i:=ih ha' hb' hl
   have la:=decV_lt ha'
   have lb:=decV_lt hb'
   simp only [lessZ,decV]
   rw [decV_val a,decV_val b,← hl]
   rw [← hl] at lb
   have hp:=ten_pos a.length
   by_cases e:x = y
   ·rw [if_pos e,i,e];omega
   ·rw [if_neg e,decide_eq_true_eq]
    constructor
    ·intro hlt
     have:(10 * 0 + (x - 48) + 1) * ten a.length ≤ (10 * 0 + (y - 48)) * ten a.length:=Int.mul_le_mul_of_nonneg_right (by omega) (Int.le_of_lt hp)
     rw [Int.add_mul] at this
     omega
    ·intro hlt
     apply Decidable.byContradiction
     intro hn
     have:(10 * 0 + (y - 48) + 1) * ten a.length ≤ (10 * 0 + (x - 48)) * ten a.length:=Int.mul_le_mul_of_nonneg_right (by omega) (Int.le_of_lt hp)
     rw [Int.add_mul] at this
     omega
section
def ownWs:List ByteArray:=[⟨#[102,117,110]⟩,⟨#[114,101,99]⟩,⟨#[108,101,116]⟩,⟨#[105,110]⟩,⟨#[105,102]⟩,⟨#[116,104,101,110]⟩,⟨#[101,108,115,101]⟩,⟨#[99,97,115,101]⟩,⟨#[111,102]⟩,⟨#[101,110,100]⟩,⟨#[116,114,117,101]⟩,⟨#[102,97,108,115,101]⟩,⟨#[100,101,102]⟩,⟨#[73,110,116]⟩,⟨#[66,111,111,108]⟩]
def signWs:List ByteArray:=[⟨#[61,61]⟩,⟨#[61,62]⟩,⟨#[58,61]⟩,⟨#[45,62]⟩,⟨#[40]⟩,⟨#[41]⟩,⟨#[123]⟩,⟨#[125]⟩,⟨#[60]⟩,⟨#[62]⟩,⟨#[61]⟩,⟨#[44]⟩,⟨#[58]⟩,⟨#[59]⟩,⟨#[124]⟩,⟨#[46]⟩,⟨#[92]⟩,⟨#[64]⟩,⟨#[94]⟩,⟨#[63]⟩,⟨#[43]⟩,⟨#[45]⟩,⟨#[42]⟩,⟨#[47]⟩,⟨#[37]⟩]
def signNs:List (List Int):=[[61,61],[61,62],[58,61],[45,62],[40],[41],[123],[125],[60],[62],[61],[44],[58],[59],[124],[46],[92],[64],[94],[63],[43],[45],[42],[47],[37]]
def sgls:List Int:=[40,41,123,125,60,62,61,44,58,59,124,46,92,64,94,63,43,45,42,47,37]
def inB (ws:List ByteArray) (s:ByteArray):Bool:=ws.any fun w=>w.toList == s.toList
def ownB (s:ByteArray):Bool:=inB ownWs s
def dblB (a b:Int):Bool:=(a == 61 && b == 61) || ((a == 61 && b == 62) || ((a == 58 && b == 61) || (a == 45 && b == 62)))
def signS (l:List Int):Nat:=if 2 ≤ l.length ∧ dblB (gb l 0) (gb l 1) = true then 2 else if gb l 0 ∈ sgls then 1 else 0
theorem sign_bd (l:List Int) (h:1 ≤ l.length):signS l ≤ 2 ∧ signS l ≤ l.length:=by unfold signS;split;omega;split <;> omega
structure Tok where
 kind:Int
 text:ByteArray
 n:Int
 at_:Int
def Tok.cells (t:Tok):List Value:=[.int .u8 t.kind,.string t.text,.int .i64 t.n,.int .i64 t.at_]
def numS (l:List Int):Int × Int :=
 if (gb l 0 = 48 ∧ 1 < l.length) ∨ ¬ (l.all digitB = true) then (0,4) else if 9223372036854775807 < decV l 0 then (0,7) else (decV l 0,0)
def runS (s:ByteArray) (at_:Int):Tok × Int :=
 if digitB (gb (numsOf s) 0) = true then (⟨2,⟨#[]⟩,(numS (numsOf s)).1,at_⟩,(numS (numsOf s)).2) else
 if ownB s = true then (⟨3,s,0,at_⟩,0) else if wordlyB (numsOf s) = false then (⟨1,s,0,at_⟩,4) else
 if 32 < (numsOf s).length then (⟨1,s,0,at_⟩,7) else (⟨1,s,0,at_⟩,0)
def blankB (c:Int):Bool:=c == 32 || (c == 9 || (c == 13 || c == 10))
def runAt (l:List Int) (a:Nat):List Int:=(l.drop a).takeWhile runsB
def body (rec_:Nat → Bool → List Tok → List Tok × Int × Int) (l:List Int) (a:Nat) (rem:Bool) (out:List Tok):List Tok × Int × Int :=
 if a < l.length then
  if nx l a = 0 then ([],a,3)
  else if rem = true then rec_ (a + nx l a) (gb l a != 10) out
  else if blankB (gb l a) = true then rec_ (a + 1) false out
  else if gb l a = 35 then rec_ (a + 1) true out
  else if runsB (gb l a) = true then
   if (runS (strOfNums (runAt l a)) a).2 = 0 then rec_ (a + (runAt l a).length) false (out ++ [(runS (strOfNums (runAt l a)) a).1]) else ([],a,(runS (strOfNums (runAt l a)) a).2)
  else if signS (l.drop a) = 0 then ([],a,4)
  else rec_ (a + signS (l.drop a)) false (out ++ [⟨3,strOfNums ((l.drop a).take (signS (l.drop a))),0,a⟩])
 else (out ++ [⟨4,⟨#[]⟩,0,l.length⟩],0,0)
def scanF (l:List Int):Nat → Nat → Bool → List Tok → List Tok × Int × Int
 | 0=>fun _ _ _=>([],0,0)
 | f + 1=>fun a rem out=>body (scanF l f) l a rem out
theorem run_pos {l:List Int} {a:Nat} (h:a < l.length) (hr:runsB (gb l a) = true):0 < (runAt l a).length:=by
 unfold runAt
 rw [List.drop_eq_getElem_cons h]
 have:l[a] = gb l a:=by unfold gb;simp [h]
 rw [List.takeWhile_cons,this,hr]
 simp
theorem body_congr {r1 r2:Nat → Bool → List Tok → List Tok × Int × Int} {l:List Int} {a:Nat} (h:∀ a',a < l.length → a < a' → r1 a' = r2 a') (rem:Bool) (out:List Tok):body r1 l a rem out = body r2 l a rem out:=by
 unfold body
 by_cases ha:a < l.length
 ·rw [if_pos ha,if_pos ha]
  by_cases h0:nx l a = 0
  ·rw [if_pos h0,if_pos h0]
  rw [if_neg h0,if_neg h0]
  rw [h (a + nx l a) ha (by omega),h (a + 1) ha (by omega)]
  by_cases hr:runsB (gb l a) = true
  ·rw [h _ ha (by have:=run_pos ha hr;omega:a < a + (runAt l a).length)]
   simp only [hr,if_true]
  ·have hr':runsB (gb l a) = false:=by simpa using hr
   simp only [hr',Bool.false_eq_true,if_false]
   by_cases hs:signS (l.drop a) = 0
   ·simp only [hs,if_true]
   ·rw [h _ ha (by omega:a < a + signS (l.drop a))]
 ·rw [if_neg ha,if_neg ha]
theorem scan_fuel (l:List Int):∀ (n f g a:Nat),l.length - a ≤ n → l.length - a < f → l.length - a < g → scanF l f a = scanF l g a:=by
 intro n
 induction n with
 | zero =>
  intro f g a hn hf hg
  obtain ⟨f,rfl⟩:∃ k,f = k + 1:=⟨f - 1,by omega⟩
  obtain ⟨g,rfl⟩:∃ k,g = k + 1:=⟨g - 1,by omega⟩
  funext rem out
  exact body_congr (fun a' h _=>by omega) rem out
 | succ n ih =>
  intro f g a hn hf hg
  obtain ⟨f,rfl⟩:∃ k,f = k + 1:=⟨f - 1,by omega⟩
  obtain ⟨g,rfl⟩:∃ k,g = k + 1:=⟨g - 1,by omega⟩
  funext rem out
  exact body_congr (fun a' h h'=>ih f g a' (by omega) (by omega) (by omega)) rem out
def scanS (l:List Int) (a:Nat) (rem:Bool) (out:List Tok):List Tok × Int × Int:=scanF l (l.length - a + 1) a rem out
theorem scan_eq (l:List Int) (a:Nat) (rem:Bool) (out:List Tok):scanS l a rem out = body (scanS l) l a rem out:=by
 show body (scanF l (l.length - a)) l a rem out = _
 refine body_congr (fun a' h h'=>?_) rem out
 funext rem out
 show scanF l (l.length - a) a' rem out = scanF l (l.length - a' + 1) a' rem out
 rw [scan_fuel l (l.length - a') (l.length - a) (l.length - a' + 1) a' (by omega) (by omega) (by omega)]
section
variable {l:List Int} {a:Nat} {rem:Bool} {out:List Tok}
theorem scan_end (h:l.length ≤ a):scanS l a rem out = (out ++ [⟨4,⟨#[]⟩,0,l.length⟩],0,0):=by rw [scan_eq];unfold body;rw [if_neg (by omega)]
theorem scan_utf (h:a < l.length) (h0:nx l a = 0):scanS l a rem out = ([],(a:Int),3):=by rw [scan_eq];unfold body;rw [if_pos h,if_pos h0]
theorem scan_rem (h:a < l.length) (h0:nx l a ≠ 0):scanS l a true out = scanS l (a + nx l a) (gb l a != 10) out:=by rw [scan_eq];unfold body;rw [if_pos h,if_neg h0,if_pos rfl]
theorem scan_blank (h:a < l.length) (h0:nx l a ≠ 0) (hb:blankB (gb l a) = true):scanS l a false out = scanS l (a + 1) false out:=by rw [scan_eq];unfold body;rw [if_pos h,if_neg h0,if_neg (by decide),if_pos hb]
theorem scan_hash (h:a < l.length) (h0:nx l a ≠ 0) (hb:gb l a = 35):scanS l a false out = scanS l (a + 1) true out:=by rw [scan_eq];unfold body;rw [if_pos h,if_neg h0,if_neg (by decide),if_neg (by rw [hb];decide),if_pos hb]
theorem scan_run (h:a < l.length) (h0:nx l a ≠ 0) (hb:blankB (gb l a) = false) (hh:gb l a ≠ 35) (hr:runsB (gb l a) = true) :
  scanS l a false out = if (runS (strOfNums (runAt l a)) a).2 = 0 then scanS l (a + (runAt l a).length) false (out ++ [(runS (strOfNums (runAt l a)) a).1]) else ([],(a:Int),(runS (strOfNums (runAt l a)) a).2):=by
 rw [scan_eq];unfold body;rw [if_pos h,if_neg h0,if_neg (by decide),if_neg (by rw [hb];decide),if_neg hh,if_pos hr]
theorem scan_nosign (h:a < l.length) (h0:nx l a ≠ 0) (hb:blankB (gb l a) = false) (hh:gb l a ≠ 35) (hr:runsB (gb l a) = false) (hs:signS (l.drop a) = 0):scanS l a false out = ([],(a:Int),4):=by
 rw [scan_eq];unfold body;rw [if_pos h,if_neg h0,if_neg (by decide),if_neg (by rw [hb];decide),if_neg hh,if_neg (by rw [hr];decide),if_pos hs]
theorem scan_sign (h:a < l.length) (h0:nx l a ≠ 0) (hb:blankB (gb l a) = false) (hh:gb l a ≠ 35) (hr:runsB (gb l a) = false) (hs:signS (l.drop a) ≠ 0) :
  scanS l a false out = scanS l (a + signS (l.drop a)) false (out ++ [⟨3,strOfNums ((l.drop a).take (signS (l.drop a))),0,a⟩]):=by
 rw [scan_eq];unfold body;rw [if_pos h,if_neg h0,if_neg (by decide),if_neg (by rw [hb];decide),if_neg hh,if_neg (by rw [hr];decide),if_neg hs]
end
theorem nx_ascii {l:List Int} {a:Nat} (hb:Byt l) (h:a < l.length) (hc:gb l a < 128):nx l a = 1:=by
 have h1:=next_is (byt_drop hb a) 1 (by rw [List.length_drop];omega) (by simp only [V];rw [gb_drop];exact hc)
 unfold nx;rw [h1];rfl
theorem blank_iff (c:Int):blankB c = true ↔ c = 32 ∨ c = 9 ∨ c = 13 ∨ c = 10:=by unfold blankB;simp
theorem blank_no (c:Int):blankB c = false ↔ ¬ (c = 32 ∨ c = 9 ∨ c = 13 ∨ c = 10):=by rw [← blank_iff];simp
theorem sgl_ascii {c:Int} (h:c ∈ sgls):37 ≤ c ∧ c ≤ 125:=by simp [sgls] at h;omega
end
theorem length_any (c:Int) (w:World) (h:0 ≤ c) (h':c ≤ 255) :
  Calls Tryz.prog 118 #[.int .u8 c] w fun e w'=>e = .returned (.int .i64 (lenZ c)) ∧ w = w':=by
 by_cases c1:c < 128
 ·have f:(c / 128 == 0) = true:=by simp;omega
  have e:lenZ c = 1:=by unfold lenZ;rw [if_pos c1]
  rw [e]
  go_enter Tryz.func118,Tryz.ntmps118
  go_wp2_with fail
  go_ret
  exact ⟨rfl,rfl⟩
 have f:(c / 128 == 0) = false:=by simp;omega
 by_cases c2:192 ≤ c ∧ c < 224
 ·have g:(c / 32 == 6) = true:=by simp;omega
  have e:lenZ c = 2:=by unfold lenZ;rw [if_neg c1,if_pos c2]
  rw [e]
  clear c1 c2 e
  go_enter Tryz.func118,Tryz.ntmps118
  go_wp2_with fail
  go_ret
  exact ⟨rfl,rfl⟩
 have g:(c / 32 == 6) = false:=by simp;omega
 by_cases c3:224 ≤ c ∧ c < 240
 ·have i:(c / 16 == 14) = true:=by simp;omega
  have e:lenZ c = 3:=by unfold lenZ;rw [if_neg c1,if_neg c2,if_pos c3]
  rw [e]
  clear c1 c2 c3 e
  go_enter Tryz.func118,Tryz.ntmps118
  go_wp2_with fail
  go_ret
  exact ⟨rfl,rfl⟩
 have i:(c / 16 == 14) = false:=by simp;omega
 by_cases c4:240 ≤ c ∧ c < 248
 ·have j:(c / 8 == 30) = true:=by simp;omega
  have e:lenZ c = 4:=by unfold lenZ;rw [if_neg c1,if_neg c2,if_neg c3,if_pos c4]
  rw [e]
  clear c1 c2 c3 c4 e
  go_enter Tryz.func118,Tryz.ntmps118
  go_wp2_with fail
  go_ret
  exact ⟨rfl,rfl⟩
 have j:(c / 8 == 30) = false:=by simp;omega
 have e:lenZ c = 0:=by unfold lenZ;rw [if_neg c1,if_neg c2,if_neg c3,if_neg c4]
 rw [e]
 clear c1 c2 c3 c4 e
 go_enter Tryz.func118,Tryz.ntmps118
 go_wp2_with fail
 go_ret
 exact ⟨rfl,rfl⟩
theorem is_any (r:Int) (w:World):Calls Tryz.prog 119 #[.int .i32 r] w fun e w'=>e = .returned (.bool (isB r)) ∧ w = w':=by
 cases hb:isB r
 ·have H:¬ (0 ≤ r ∧ r ≤ 1114111 ∧ (r < 55296 ∨ 57343 < r)):=by rw [← isB_iff,hb];decide
  clear hb
  by_cases h0:r < 0
  ·go_enter Tryz.func119,Tryz.ntmps119
   go_wp2_with fail
   go_ret
   exact ⟨rfl,rfl⟩
  ·by_cases h1:1114111 < r
   ·clear H
    go_enter Tryz.func119,Tryz.ntmps119
    go_wp2_with fail
    go_ret
    exact ⟨rfl,rfl⟩
   ·have h2:55296 ≤ r:=by omega
    have h3:r ≤ 57343:=by omega
    clear H
    go_enter Tryz.func119,Tryz.ntmps119
    go_wp2_with fail
    go_ret
    exact ⟨retBool (by simp <;> omega),rfl⟩
 ·rw [isB_iff] at hb
  obtain ⟨h0,h1,h2⟩:=hb
  by_cases h3:r < 55296
  ·clear h2
   go_enter Tryz.func119,Tryz.ntmps119
   go_wp2_with fail
   go_ret
   exact ⟨rfl,rfl⟩
  ·have h4:57343 < r:=by omega
   clear h2
   go_enter Tryz.func119,Tryz.ntmps119
   go_wp2_with fail
   go_ret
   exact ⟨retBool (by simp <;> omega),rfl⟩
theorem size_any (r:Int) (w:World):Calls Tryz.prog 120 #[.int .i32 r] w fun e w'=>e = .returned (.int .i64 (sizeZ r)) ∧ w = w':=by
 unfold sizeZ
 by_cases a:r < 128
 ·rw [if_pos a]
  go_enter Tryz.func120,Tryz.ntmps120
  go_wp2_with fail
  go_ret
  exact ⟨rfl,rfl⟩
 rw [if_neg a]
 by_cases b:r < 2048
 ·rw [if_pos b]
  go_enter Tryz.func120,Tryz.ntmps120
  go_wp2_with fail
  go_ret
  exact ⟨rfl,rfl⟩
 rw [if_neg b]
 by_cases c:r < 65536
 ·rw [if_pos c]
  go_enter Tryz.func120,Tryz.ntmps120
  go_wp2_with fail
  go_ret
  exact ⟨rfl,rfl⟩
 rw [if_neg c]
 go_enter Tryz.func120,Tryz.ntmps120
 go_wp2_with fail
 go_ret
 exact ⟨rfl,rfl⟩
end Go.Proofs.YtahpnackkmbmgaaGreat
end

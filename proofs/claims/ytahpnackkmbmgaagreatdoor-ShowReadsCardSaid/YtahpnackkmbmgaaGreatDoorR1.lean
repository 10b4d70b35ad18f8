/- Part 1 of the proof: Mem, RLaw, RScan, LLaw, LScan, KTy, VMeetLaw, VTy, VData, Blk, App, AppN, VMem, VRel, VObj, VApp, VRun, VSpec. Conditions: none. -/
import Derived.WalkKit
import Derived.Lib.Hide
import Derived.Deep.Draws
import Derived.Laws.BytesArg
import Derived.Test.YtahpnackkmbmgaaGreatDoorChecked
import Derived.Laws.Rows
import Derived.Maps.AppendAt
import Derived.Deep.AppendLies
import Derived.RegionTactic
import Derived.OwnWalk
import Derived.WalkSpells
import Derived.Laws.Tables
import Derived.Laws.CopyRow
set_option linter.all false
set_option linter.unusedVariables false
set_option linter.unusedSimpArgs false
section
namespace Go.Proofs.YtahpnackkmbmgaaGreatDoor
open Go.RowKit
section
def gb (l:List Int) (i:Nat):Int:=l.getD i 0
theorem gb_drop (l:List Int) (a i:Nat):gb (l.drop a) i = gb l (a + i):=by
 unfold gb;simp [List.getElem?_drop]
theorem gb_take (l:List Int) (a i:Nat) (h:i < a):gb (l.take a) i = gb l i:=by
 unfold gb;simp [h]
theorem gb_get {l:List Int} {i:Nat} (h:i < l.length):l[i]? = some (gb l i):=by unfold gb;simp [h]
theorem take_gb {l:List Int} {k:Nat} (h:k < l.length):l.take (k + 1) = l.take k ++ [gb l k]:=by
 rw [List.take_succ_eq_append_getElem h];unfold gb;simp [h]
theorem gb_mem {l:List Int} {i:Nat} (h:i < l.length):gb l i ∈ l:=List.mem_of_getElem? (gb_get h)
def CellsAt (w:World) (k:IntKind) (b off:Nat) (l:List Int):Prop:=∀ i,i < l.length → w.cell? ⟨b,off + i,none⟩ = some (.int k (gb l i))
def SliceAt (w:World) (k:IntKind) (A:Option Addr) (l:List Int):Prop:=l = [] ∨ ∃ b off,A = some ⟨b,off,none⟩ ∧ b < w.heap.size ∧ CellsAt w k b off l
theorem cells_drop {w:World} {k:IntKind} {b off:Nat} {l:List Int} (h:CellsAt w k b off l) (n:Nat):CellsAt w k b (off + n) (l.drop n):=fun i hi=>by
 rw [List.length_drop] at hi
 rw [gb_drop,Nat.add_assoc]
 exact h (n + i) (by omega)
theorem cells_take {w:World} {k:IntKind} {b off:Nat} {l:List Int} (h:CellsAt w k b off l) (n:Nat):CellsAt w k b off (l.take n):=fun i hi=>by
 rw [List.length_take] at hi
 rw [gb_take _ _ _ (by omega)]
 exact h i (by omega)
theorem cells_new (w:World) (k:IntKind) (t:TypeId) (l:List Int):CellsAt (w.alloc (.cells (l.map (Value.int k)).toArray t)) k w.heap.size 0 l:=fun i hi=>by
 rw [World.cell?_alloc_new]
 simp [gb,hi]
theorem cells_new_at (w:World) (k:IntKind) (t:TypeId) (l:List Int) {n:Nat} (h:n = w.heap.size):CellsAt (w.alloc (.cells (l.map (Value.int k)).toArray t)) k n 0 l:=by subst h;exact cells_new w k t l
section
variable {w w':World} {k:IntKind} {b off:Nat} {l:List Int} {A:Option Addr}
theorem CellsAt.keep (h:CellsAt w k b off l) (hk:∀ i,w'.cell? ⟨b,i,none⟩ = w.cell? ⟨b,i,none⟩):CellsAt w' k b off l:=fun i hi=>(hk _).trans (h i hi)
theorem CellsAt.below {B:Nat} (h:CellsAt w k b off l) (hb:Below B w w') (hB:b < B):CellsAt w' k b off l:=h.keep fun i=>hb.cell (p:=⟨b,i,none⟩) hB
theorem CellsAt.drew (h:CellsAt w k b off l):CellsAt w.drew k b off l:=h
theorem CellsAt.drewN (h:CellsAt w k b off l) (n:Nat):CellsAt (w.drewN n) k b off l:=h
theorem CellsAt.grown {row:Option Nat} (h:CellsAt w k b off l) (hg:w.grownBy w' row) (hB:b < w.heap.size) (hr:row ≠ some b):CellsAt w' k b off l :=
 h.keep fun _=>World.cell?_of_block (hg.block b hB (fun e=>hr e.symm))
theorem SliceAt.below_all (h:SliceAt w k A l) (hb:Below w.heap.size w w'):SliceAt w' k A l:=by
 rcases h with h | ⟨b,off,rfl,hlt,hc⟩
 ·exact .inl h
 ·exact .inr ⟨b,off,rfl,Nat.lt_of_lt_of_le hlt hb.size,hc.below hb hlt⟩
theorem SliceAt.cells (h:SliceAt w k A l) (hl:0 < l.length):∃ b off,A = some ⟨b,off,none⟩ ∧ b < w.heap.size ∧ CellsAt w k b off l:=by
 rcases h with rfl | h
 ·simp at hl
 ·exact h
end
theorem below_drewN {B:Nat} {a w:World} (h:Below B a w) (n:Nat):Below B a (w.drewN n):=⟨h.os,h.tape,h.output,h.size,h.block⟩
theorem retBool {a b:Bool} (h:a = b):Ending.returned (.bool a) = .returned (.bool b):=by rw [h]
end
def Byt (l:List Int):Prop:=∀ x ∈ l,0 ≤ x ∧ x ≤ 255
theorem gb_bd {l:List Int} (h:Byt l) (i:Nat):0 ≤ gb l i ∧ gb l i ≤ 255:=by
 unfold gb
 rw [List.getD_eq_getElem?_getD]
 cases e:l[i]? with
 | none=>simp
 | some x=>exact h x (List.mem_of_getElem? e)
theorem byt_drop {l:List Int} (h:Byt l) (a:Nat):Byt (l.drop a):=fun x hx=>h x (List.mem_of_mem_drop hx)
def lenZ (c:Int):Int:=if c < 128 then 1 else if 192 ≤ c ∧ c < 224 then 2 else if 224 ≤ c ∧ c < 240 then 3 else if 240 ≤ c ∧ c < 248 then 4 else 0
theorem lenZ_bd (c:Int):0 ≤ lenZ c ∧ lenZ c ≤ 4:=by unfold lenZ;repeat' split <;> omega
def isB (r:Int):Bool:=decide (0 ≤ r) && (decide (r ≤ 1114111) && (decide (r < 55296) || decide (57343 < r)))
theorem isB_iff (r:Int):isB r = true ↔ 0 ≤ r ∧ r ≤ 1114111 ∧ (r < 55296 ∨ 57343 < r):=by unfold isB;simp only [Bool.and_eq_true,Bool.or_eq_true,decide_eq_true_eq]
def sizeZ (r:Int):Int:=if r < 128 then 1 else if r < 2048 then 2 else if r < 65536 then 3 else 4
def firstZ (n c:Int):Int:=if n = 1 then c else if n = 2 then c % 32 else if n = 3 then c % 16 else c % 8
def accS (l:List Int) (m:Int):Nat → Int
 | 0=>m
 | k + 1=>accS l m k * 64 + gb l (k + 1) % 64
def contS (l:List Int):Nat → Bool
 | 0=>true
 | k + 1=>contS l k && decide (gb l (k + 1) / 64 = 2)
def nextS (l:List Int):Int × Int :=
 if lenZ (gb l 0) = 0 ∨ (l.length:Int) < lenZ (gb l 0) then (0,0) else
 if contS l ((lenZ (gb l 0)).toNat - 1) = true ∧ isB (accS l (firstZ (lenZ (gb l 0)) (gb l 0)) ((lenZ (gb l 0)).toNat - 1)) = true ∧ sizeZ (accS l (firstZ (lenZ (gb l 0)) (gb l 0)) ((lenZ (gb l 0)).toNat - 1)) = lenZ (gb l 0)
 then (accS l (firstZ (lenZ (gb l 0)) (gb l 0)) ((lenZ (gb l 0)).toNat - 1),lenZ (gb l 0)) else (0,0)

def offZ (n:Nat):Int:=if n = 2 then 192 else if n = 3 then 224 else if n = 4 then 240 else 0
def refS (l:List Int) (m:Int):Nat → Int
 | 0=>m
 | k + 1=>64 * refS l m k + gb l (k + 1) - 128
def refR (l:List Int) (n:Nat):Int:=refS l (gb l 0 - offZ n) (n - 1)
def bytesS (r:Int):List Int :=
 if r < 128 then [r] else if r < 2048 then [192 + r / 64,128 + r % 64] else if r < 65536 then [224 + r / 4096,128 + r / 64 % 64,128 + r % 64]
 else [240 + r / 262144,128 + r / 4096 % 64,128 + r / 64 % 64,128 + r % 64]
theorem bytesS_len (r:Int):((bytesS r).length:Int) = sizeZ r:=by
 unfold bytesS sizeZ
 by_cases a:r < 128
 ·simp [a]
 by_cases b:r < 2048
 ·simp [a,b]
 by_cases c:r < 65536 <;> simp [a,b,c]
def trialB (l:List Int) (n:Nat):Bool:=isB (refR l n) && (bytesS (refR l n) == l.take n)

theorem take1 {l:List Int} (h:1 ≤ l.length):l.take 1 = [gb l 0]:=by
 match l,h with
 | a :: _,_=>rfl
theorem take2 {l:List Int} (h:2 ≤ l.length):l.take 2 = [gb l 0,gb l 1]:=by
 match l,h with
 | a :: b :: _,_=>rfl
theorem take3 {l:List Int} (h:3 ≤ l.length):l.take 3 = [gb l 0,gb l 1,gb l 2]:=by
 match l,h with
 | a :: b :: c :: _,_=>rfl
theorem take4 {l:List Int} (h:4 ≤ l.length):l.take 4 = [gb l 0,gb l 1,gb l 2,gb l 3]:=by
 match l,h with
 | a :: b :: c :: d :: _,_=>rfl

theorem next_none {l:List Int}:nextS l = (0,0) ∨ (1 ≤ (nextS l).2 ∧ (nextS l).2 ≤ 4 ∧ (nextS l).2 ≤ l.length):=by
 unfold nextS
 have h:=lenZ_bd (gb l 0)
 split
 ·exact .inl rfl
 ·rename_i h0
  split
  ·right;simp only;omega
  ·exact .inl rfl

def V (l:List Int):Nat → Prop
 | 1=>gb l 0 < 128
 | 2=>192 ≤ gb l 0 ∧ gb l 0 < 224 ∧ 128 ≤ gb l 1 ∧ gb l 1 < 192 ∧ 128 ≤ (gb l 0 - 192) * 64 + (gb l 1 - 128)
 | 3=>224 ≤ gb l 0 ∧ gb l 0 < 240 ∧ 128 ≤ gb l 1 ∧ gb l 1 < 192 ∧ 128 ≤ gb l 2 ∧ gb l 2 < 192 ∧ 2048 ≤ (gb l 0 - 224) * 4096 + (gb l 1 - 128) * 64 + (gb l 2 - 128) ∧
   ((gb l 0 - 224) * 4096 + (gb l 1 - 128) * 64 + (gb l 2 - 128) < 55296 ∨ 57343 < (gb l 0 - 224) * 4096 + (gb l 1 - 128) * 64 + (gb l 2 - 128))
 | 4=>240 ≤ gb l 0 ∧ gb l 0 < 248 ∧ 128 ≤ gb l 1 ∧ gb l 1 < 192 ∧ 128 ≤ gb l 2 ∧ gb l 2 < 192 ∧ 128 ≤ gb l 3 ∧ gb l 3 < 192 ∧
   65536 ≤ (gb l 0 - 240) * 262144 + (gb l 1 - 128) * 4096 + (gb l 2 - 128) * 64 + (gb l 3 - 128) ∧ (gb l 0 - 240) * 262144 + (gb l 1 - 128) * 4096 + (gb l 2 - 128) * 64 + (gb l 3 - 128) ≤ 1114111
 | _=>False
theorem refR1 (l:List Int):refR l 1 = gb l 0:=by simp [refR,refS,offZ]
theorem refR2 (l:List Int):refR l 2 = (gb l 0 - 192) * 64 + (gb l 1 - 128):=by simp [refR,refS,offZ];omega
theorem refR3 (l:List Int):refR l 3 = (gb l 0 - 224) * 4096 + (gb l 1 - 128) * 64 + (gb l 2 - 128):=by simp [refR,refS,offZ];omega
theorem refR4 (l:List Int):refR l 4 = (gb l 0 - 240) * 262144 + (gb l 1 - 128) * 4096 + (gb l 2 - 128) * 64 + (gb l 3 - 128):=by simp [refR,refS,offZ];omega
theorem bytes1 {r:Int} (h:r < 128):bytesS r = [r]:=by unfold bytesS;rw [if_pos h]
theorem bytes2 {r:Int} (h:¬ r < 128) (h':r < 2048):bytesS r = [192 + r / 64,128 + r % 64]:=by unfold bytesS;rw [if_neg h,if_pos h']
theorem bytes3 {r:Int} (h:¬ r < 2048) (h':r < 65536):bytesS r = [224 + r / 4096,128 + r / 64 % 64,128 + r % 64]:=by unfold bytesS;rw [if_neg (by omega),if_neg h,if_pos h']
theorem bytes4 {r:Int} (h:¬ r < 65536):bytesS r = [240 + r / 262144,128 + r / 4096 % 64,128 + r / 64 % 64,128 + r % 64]:=by unfold bytesS;rw [if_neg (by omega),if_neg (by omega),if_neg h]
theorem bytes_cases (r:Int) {P:Prop} (h1:r < 128 → bytesS r = [r] → P) (h2:¬ r < 128 → r < 2048 → bytesS r = [192 + r / 64,128 + r % 64] → P)
  (h3:¬ r < 2048 → r < 65536 → bytesS r = [224 + r / 4096,128 + r / 64 % 64,128 + r % 64] → P)
  (h4:¬ r < 65536 → bytesS r = [240 + r / 262144,128 + r / 4096 % 64,128 + r / 64 % 64,128 + r % 64] → P):P:=by
 by_cases a:r < 128
 ·exact h1 a (bytes1 a)
 by_cases b:r < 2048
 ·exact h2 a b (bytes2 a b)
 by_cases c:r < 65536
 ·exact h3 b c (bytes3 b c)
 ·exact h4 c (bytes4 c)

theorem trial1 {l:List Int} (hb:Byt l) (hl:1 ≤ l.length):trialB l 1 = true ↔ V l 1:=by
 have b0:=gb_bd hb 0
 unfold trialB V
 rw [take1 hl,refR1]
 simp only [Bool.and_eq_true,beq_iff_eq,isB_iff]
 generalize gb l 0 = c at *
 refine bytes_cases c ?_ ?_ ?_ ?_ <;> (intros;rename_i e;rw [e];simp;try omega)
theorem trial2 {l:List Int} (hb:Byt l) (hl:2 ≤ l.length):trialB l 2 = true ↔ V l 2:=by
 have b0:=gb_bd hb 0
 have b1:=gb_bd hb 1
 unfold trialB V
 rw [take2 hl,refR2]
 simp only [Bool.and_eq_true,beq_iff_eq,isB_iff]
 generalize gb l 0 = c at *
 generalize gb l 1 = d at *
 refine bytes_cases ((c - 192) * 64 + (d - 128)) ?_ ?_ ?_ ?_ <;> (intros;rename_i e;rw [e];simp;try omega)
theorem trial3 {l:List Int} (hb:Byt l) (hl:3 ≤ l.length):trialB l 3 = true ↔ V l 3:=by
 have b0:=gb_bd hb 0
 have b1:=gb_bd hb 1
 have b2:=gb_bd hb 2
 unfold trialB V
 rw [take3 hl,refR3]
 simp only [Bool.and_eq_true,beq_iff_eq,isB_iff]
 generalize gb l 0 = c at *
 generalize gb l 1 = d at *
 generalize gb l 2 = f at *
 refine bytes_cases ((c - 224) * 4096 + (d - 128) * 64 + (f - 128)) ?_ ?_ ?_ ?_ <;> (intros;rename_i e;rw [e];simp;try omega)
theorem trial4 {l:List Int} (hb:Byt l) (hl:4 ≤ l.length):trialB l 4 = true ↔ V l 4:=by
 have b0:=gb_bd hb 0
 have b1:=gb_bd hb 1
 have b2:=gb_bd hb 2
 have b3:=gb_bd hb 3
 unfold trialB V
 rw [take4 hl,refR4]
 simp only [Bool.and_eq_true,beq_iff_eq,isB_iff]
 generalize gb l 0 = c at *
 generalize gb l 1 = d at *
 generalize gb l 2 = f at *
 generalize gb l 3 = g at *
 refine bytes_cases ((c - 240) * 262144 + (d - 128) * 4096 + (f - 128) * 64 + (g - 128)) ?_ ?_ ?_ ?_ <;> (intros;rename_i e;rw [e];simp;try omega)
def codeR (l:List Int) (n:Nat):Int:=accS l (firstZ n (gb l 0)) (n - 1)
theorem next_case {l:List Int} {n:Nat} (h:lenZ (gb l 0) = n) (h0:n ≠ 0) :
  nextS l = if n ≤ l.length ∧ contS l (n - 1) = true ∧ isB (codeR l n) = true ∧ sizeZ (codeR l n) = n then (codeR l n,(n:Int)) else (0,0):=by
 unfold nextS codeR
 rw [h]
 simp only [Int.toNat_natCast]
 by_cases hl:n ≤ l.length
 ·rw [if_neg (by omega)]
  simp only [hl,true_and]
 ·rw [if_pos (by omega),if_neg (fun hh=>hl hh.1)]
theorem next_zero {l:List Int} (h:lenZ (gb l 0) = 0):nextS l = (0,0):=by unfold nextS;rw [if_pos (.inl h)]
theorem size_of {r:Int}:(sizeZ r = 1 ↔ r < 128) ∧ (sizeZ r = 2 ↔ ¬ r < 128 ∧ r < 2048) ∧ (sizeZ r = 3 ↔ ¬ r < 2048 ∧ r < 65536) ∧ (sizeZ r = 4 ↔ ¬ r < 65536):=by
 unfold sizeZ
 by_cases a:r < 128
 ·simp [a];omega
 by_cases b:r < 2048
 ·simp [a,b];omega
 by_cases c:r < 65536 <;> simp [a,b,c] <;> omega
theorem next_is {l:List Int} (hb:Byt l) (n:Nat) (hn:n ≤ l.length) (hv:V l n):nextS l = (refR l n,(n:Int)):=by
 have b0:=gb_bd hb 0
 have b1:=gb_bd hb 1
 have b2:=gb_bd hb 2
 have b3:=gb_bd hb 3
 have sz:=@size_of (codeR l n)
 match n,hn,hv with
 | 1,hn,hv =>
  simp only [V] at hv
  have hl:lenZ (gb l 0) = (1:Nat):=by unfold lenZ;rw [if_pos hv];rfl
  have e:codeR l 1 = refR l 1:=by rw [refR1];simp [codeR,accS,firstZ]
  rw [next_case hl (by omega),e]
  rw [e] at sz
  rw [if_pos ⟨hn,rfl,by rw [isB_iff,refR1];omega,by rw [show ((1:Nat):Int) = 1 from rfl,sz.1,refR1];exact hv⟩]
 | 2,hn,hv =>
  simp only [V] at hv
  have hl:lenZ (gb l 0) = (2:Nat):=by unfold lenZ;rw [if_neg (by omega),if_pos (by omega)];rfl
  have e:codeR l 2 = refR l 2:=by rw [refR2];simp [codeR,accS,firstZ];omega
  have c:contS l 1 = true:=by simp [contS];omega
  rw [next_case hl (by omega),e]
  rw [e] at sz
  rw [if_pos ⟨hn,c,by rw [isB_iff,refR2];omega,by rw [show ((2:Nat):Int) = 2 from rfl,sz.2.1,refR2];omega⟩]
 | 3,hn,hv =>
  simp only [V] at hv
  have hl:lenZ (gb l 0) = (3:Nat):=by unfold lenZ;rw [if_neg (by omega),if_neg (by omega),if_pos (by omega)];rfl
  have e:codeR l 3 = refR l 3:=by rw [refR3];simp [codeR,accS,firstZ];omega
  have c:contS l 2 = true:=by simp [contS];omega
  rw [next_case hl (by omega),e]
  rw [e] at sz
  rw [if_pos ⟨hn,c,by rw [isB_iff,refR3];omega,by rw [show ((3:Nat):Int) = 3 from rfl,sz.2.2.1,refR3];omega⟩]
 | 4,hn,hv =>
  simp only [V] at hv
  have hl:lenZ (gb l 0) = (4:Nat):=by unfold lenZ;rw [if_neg (by omega),if_neg (by omega),if_neg (by omega),if_pos (by omega)];rfl
  have e:codeR l 4 = refR l 4:=by rw [refR4];simp [codeR,accS,firstZ];omega
  have c:contS l 3 = true:=by simp [contS];omega
  rw [next_case hl (by omega),e]
  rw [e] at sz
  rw [if_pos ⟨hn,c,by rw [isB_iff,refR4];omega,by rw [show ((4:Nat):Int) = 4 from rfl,sz.2.2.2,refR4];omega⟩]
theorem next_has {l:List Int} (hb:Byt l):nextS l = (0,0) ∨ ∃ n:Nat,n ≤ l.length ∧ 1 ≤ n ∧ n ≤ 4 ∧ V l n:=by
 have b0:=gb_bd hb 0
 have b1:=gb_bd hb 1
 have b2:=gb_bd hb 2
 have b3:=gb_bd hb 3
 have hk:lenZ (gb l 0) = 0 ∨ (lenZ (gb l 0) = (1:Nat) ∧ gb l 0 < 128) ∨ (lenZ (gb l 0) = (2:Nat) ∧ 192 ≤ gb l 0 ∧ gb l 0 < 224) ∨ (lenZ (gb l 0) = (3:Nat) ∧ 224 ≤ gb l 0 ∧ gb l 0 < 240) ∨ (lenZ (gb l 0) = (4:Nat) ∧ 240 ≤ gb l 0 ∧ gb l 0 < 248):=by
  unfold lenZ
  repeat' split
  all_goals simp
  all_goals omega
 rcases hk with h | ⟨h,k⟩ | ⟨h,k⟩ | ⟨h,k⟩ | ⟨h,k⟩
 ·exact .inl (next_zero h)
 ·rw [next_case h (by omega)]
  split
  ·rename_i g;right;exact ⟨1,g.1,by omega,by omega,k⟩
  ·exact .inl rfl
 ·have sz:=@size_of (codeR l 2)
  rw [next_case h (by omega)]
  split
  ·rename_i g;right
   obtain ⟨g1,g2,g3,g4⟩:=g
   rw [isB_iff] at g3
   rw [show ((2:Nat):Int) = 2 from rfl,sz.2.1] at g4
   simp [contS] at g2
   simp [codeR,accS,firstZ] at g3 g4
   exact ⟨2,g1,by omega,by omega,by simp only [V];omega⟩
  ·exact .inl rfl
 ·have sz:=@size_of (codeR l 3)
  rw [next_case h (by omega)]
  split
  ·rename_i g;right
   obtain ⟨g1,g2,g3,g4⟩:=g
   rw [isB_iff] at g3
   rw [show ((3:Nat):Int) = 3 from rfl,sz.2.2.1] at g4
   simp [contS] at g2
   simp [codeR,accS,firstZ] at g3 g4
   exact ⟨3,g1,by omega,by omega,by simp only [V];omega⟩
  ·exact .inl rfl
 ·have sz:=@size_of (codeR l 4)
  rw [next_case h (by omega)]
  split
  ·rename_i g;right
   obtain ⟨g1,g2,g3,g4⟩:=g
   rw [isB_iff] at g3
   rw [show ((4:Nat):Int) = 4 from rfl,sz.2.2.2] at g4
   simp [contS] at g2
   simp [codeR,accS,firstZ] at g3 g4
   exact ⟨4,g1,by omega,by omega,by simp only [V];omega⟩
  ·exact .inl rfl
theorem trial_iff {l:List Int} (hb:Byt l) {n:Nat} (h1:1 ≤ n) (h4:n ≤ 4) (hl:n ≤ l.length):trialB l n = true ↔ V l n:=by
 obtain rfl | rfl | rfl | rfl:n = 1 ∨ n = 2 ∨ n = 3 ∨ n = 4:=by omega
 ·exact trial1 hb hl
 ·exact trial2 hb hl
 ·exact trial3 hb hl
 ·exact trial4 hb hl
theorem trial_won {l:List Int} (hb:Byt l) {n:Nat} (h1:1 ≤ n) (h4:n ≤ 4) (hl:n ≤ l.length) (h:trialB l n = true):nextS l = (refR l n,(n:Int)) :=
 next_is hb n hl ((trial_iff hb h1 h4 hl).1 h)
theorem trials_lost {l:List Int} (hb:Byt l) (h:∀ n,1 ≤ n → n ≤ 4 → n ≤ l.length → trialB l n = false):nextS l = (0,0):=by
 rcases next_has hb with h0 | ⟨n,hl,h1,h4,hv⟩
 ·exact h0
 ·have:=(trial_iff hb h1 h4 hl).2 hv
  rw [h n h1 h4 hl] at this
  cases this
def nx (l:List Int) (a:Nat):Nat:=(nextS (l.drop a)).2.toNat
def rn (l:List Int) (a:Nat):Int:=(nextS (l.drop a)).1
theorem nx_cast (l:List Int) (a:Nat):(nextS (l.drop a)).2 = (nx l a:Int):=by
 unfold nx
 have:=next_none (l:=l.drop a)
 rcases this with h | h
 ·rw [h];rfl
 ·omega
theorem nx_bd {l:List Int} {a:Nat} (h:nx l a ≠ 0):1 ≤ nx l a ∧ nx l a ≤ 4 ∧ (a < l.length → a + nx l a ≤ l.length):=by
 have h1:=next_none (l:=l.drop a)
 have h2:=nx_cast l a
 rw [List.length_drop] at h1
 rcases h1 with h1 | h1
 ·rw [h1] at h2;simp at h2;omega
 ·omega
theorem next_eq (l:List Int) (a:Nat):nextS (l.drop a) = (rn l a,(nx l a:Int)):=by
 rw [← nx_cast];rfl
def smallB (c:Int):Bool:=decide (97 ≤ c) && decide (c ≤ 122)
def greatB (c:Int):Bool:=decide (65 ≤ c) && decide (c ≤ 90)
def digitB (c:Int):Bool:=decide (48 ≤ c) && decide (c ≤ 57)
def runsB (c:Int):Bool:=smallB c || (greatB c || (digitB c || c == 95))
theorem small_iff (c:Int):smallB c = true ↔ 97 ≤ c ∧ c ≤ 122:=by unfold smallB;simp
theorem great_iff (c:Int):greatB c = true ↔ 65 ≤ c ∧ c ≤ 90:=by unfold greatB;simp
theorem digit_iff (c:Int):digitB c = true ↔ 48 ≤ c ∧ c ≤ 57:=by unfold digitB;simp
theorem runs_iff (c:Int):runsB c = true ↔ (97 ≤ c ∧ c ≤ 122) ∨ (65 ≤ c ∧ c ≤ 90) ∨ (48 ≤ c ∧ c ≤ 57) ∨ c = 95:=by
 unfold runsB;simp [small_iff,great_iff,digit_iff]
theorem small_no (c:Int):smallB c = false ↔ ¬ (97 ≤ c ∧ c ≤ 122):=by rw [← small_iff];simp
theorem great_no (c:Int):greatB c = false ↔ ¬ (65 ≤ c ∧ c ≤ 90):=by rw [← great_iff];simp
theorem digit_no (c:Int):digitB c = false ↔ ¬ (48 ≤ c ∧ c ≤ 57):=by rw [← digit_iff];simp
def kindZ (c:Int):Int:=if smallB c then 1 else if greatB c then 2 else if digitB c then 3 else if c = 95 then 4 else 0
theorem kind_pos (c:Int):0 < kindZ c ↔ runsB c = true:=by
 unfold kindZ
 rw [runs_iff]
 simp only [small_iff,great_iff,digit_iff]
 repeat' split
 all_goals omega
theorem kind_digit (c:Int):kindZ c = 3 ↔ digitB c = true:=by
 unfold kindZ
 simp only [small_iff,great_iff,digit_iff]
 repeat' split
 all_goals omega
theorem kind_small (c:Int):kindZ c = 1 ↔ smallB c = true:=by
 unfold kindZ
 simp only [small_iff,great_iff,digit_iff]
 repeat' split
 all_goals omega
theorem kind_other (c:Int):(kindZ c = 0 ∨ kindZ c = 2) ↔ ¬ (smallB c = true ∨ digitB c = true ∨ c = 95):=by
 unfold kindZ
 simp only [small_iff,great_iff,digit_iff]
 repeat' split
 all_goals omega
def numsOf (s:ByteArray):List Int:=s.data.toList.map fun b=>(b.toNat:Int)
theorem nums_len (s:ByteArray):(numsOf s).length = s.size:=by unfold numsOf;rw [List.length_map,Array.length_toList];rfl
theorem nums_gb (s:ByteArray) (k:Nat) (h:k < s.size):(s[k].toNat:Int) = gb (numsOf s) k:=by
 have h':k < s.data.size:=h
 have e:(numsOf s)[k]? = some ((s.data[k].toNat:Nat):Int):=by
  unfold numsOf
  rw [List.getElem?_map,Array.getElem?_toList,Array.getElem?_eq_getElem h']
  rfl
 unfold gb
 rw [List.getD_eq_getElem?_getD,e]
 rfl
theorem nums_str {l:List Int} (h:Byt l):numsOf (strOfNums l) = l:=by
 unfold numsOf
 rw [strOfNums_data,List.map_map]
 conv=>rhs;rw [← List.map_id l]
 apply List.map_congr_left
 intro x hx
 have:=h x hx
 simp only [Function.comp,UInt8.toNat_ofNat',id]
 omega
def okAt (l:List Int) (i:Nat):Bool:=smallB (gb l i) || (decide (0 < i) && (digitB (gb l i) || gb l i == 95))
def wordlyB (l:List Int):Bool:=decide (0 < l.length) && (List.range l.length).all (okAt l)
theorem wordly_no {l:List Int} {k:Nat} (hk:k < l.length) (h:okAt l k = false):wordlyB l = false:=by
 unfold wordlyB
 have:(List.range l.length).all (okAt l) = false:=by
  rw [List.all_eq_false]
  exact ⟨k,List.mem_range.2 hk,by rw [h];decide⟩
 rw [this,Bool.and_false]
theorem wordly_end {l:List Int} (h:∀ i,i < l.length → okAt l i = true):wordlyB l = decide (0 < l.length):=by
 unfold wordlyB
 have:(List.range l.length).all (okAt l) = true:=by
  rw [List.all_eq_true]
  exact fun i hi=>h i (List.mem_range.1 hi)
 rw [this,Bool.and_true]
theorem ok_snoc {l:List Int} {k:Nat} (h:∀ i,i < k → okAt l i = true) (hk:okAt l k = true):∀ i,i < k + 1 → okAt l i = true:=fun i hi=>by
 by_cases e:i = k
 ·rw [e];exact hk
 ·exact h i (by omega)

def decV:List Int → Int → Int
 | [],n=>n
 | c :: l,n=>decV l (10 * n + (c - 48))
theorem decV_snoc (l:List Int) (c n:Int):decV (l ++ [c]) n = 10 * decV l n + (c - 48):=by
 induction l generalizing n with
 | nil=>rfl
 | cons d l ih=>simp only [List.cons_append,decV];exact ih _
def Digits (l:List Int):Prop:=∀ x ∈ l,48 ≤ x ∧ x ≤ 57
theorem decV_ge {l:List Int} (h:Digits l) {n:Int} (hn:0 ≤ n):n ≤ decV l n:=by
 induction l generalizing n with
 | nil=>exact Int.le_refl _
 | cons c l ih =>
  have hc:=h c (by simp)
  have:=ih (fun x hx=>h x (by simp [hx])) (n:=10 * n + (c - 48)) (by omega)
  simp only [decV];omega
theorem decV_take {l:List Int} (h:Digits l) (k:Nat):decV (l.take k) 0 ≤ decV l 0:=by
 have h1:∀ (a b:List Int) (n:Int),decV (a ++ b) n = decV b (decV a n):=by
  intro a
  induction a with
  | nil=>intro b n;rfl
  | cons c a ih=>intro b n;exact ih b _
 have h2:=decV_ge (fun x hx=>h x (List.mem_of_mem_take hx):Digits (l.take k)) (n:=0) (by omega)
 have h3:=decV_ge (fun x hx=>h x (List.mem_of_mem_drop hx):Digits (l.drop k)) (n:=decV (l.take k) 0) h2
 rw [← h1,List.take_append_drop] at h3
 exact h3
theorem decV_step {l:List Int} {k:Nat} (hk:k < l.length):decV (l.take (k + 1)) 0 = 10 * decV (l.take k) 0 + (gb l k - 48):=by rw [take_gb hk,decV_snoc]
def ten:Nat → Int
 | 0=>1
 | n + 1=>10 * ten n
theorem ten_pos (n:Nat):0 < ten n:=by induction n <;> simp [ten];omega
theorem decV_val (l:List Int) (n:Int):decV l n = n * ten l.length + decV l 0:=by
 induction l generalizing n with
 | nil=>simp [decV,ten]
 | cons c l ih =>
  simp only [decV,List.length_cons,ten]
  rw [ih (10 * n + (c - 48)),ih (10 * 0 + (c - 48))]
  grind
theorem decV_lt {l:List Int} (h:Digits l):0 ≤ decV l 0 ∧ decV l 0 < ten l.length:=by
 induction l with
 | nil=>simp [decV,ten]
 | cons c l ih =>
  have hc:=h c (by simp)
  have hi:=ih fun x hx=>h x (by simp [hx])
  simp only [decV,List.length_cons,ten]
  rw [decV_val]
  have hp:=ten_pos l.length
  have h1:(10 * 0 + (c - 48)) * ten l.length ≤ 9 * ten l.length:=Int.mul_le_mul_of_nonneg_right (by omega) (Int.le_of_lt hp)
  have h2:0 ≤ (10 * 0 + (c - 48)) * ten l.length:=Int.mul_nonneg (by omega) (Int.le_of_lt hp)
  omega
def lessZ:List Int → List Int → Bool
 | a :: l,b :: m=>if a = b then lessZ l m else decide (a < b)
 | [],_ :: _=>true
 | _,[]=>false
theorem less_val {a b:List Int} (ha:Digits a) (hb:Digits b) (h:a.length = b.length):lessZ a b = true ↔ decV a 0 < decV b 0:=by
 induction a generalizing b with
 | nil =>
  cases b with
  | nil=>simp [lessZ]
  | cons _ _=>simp at h
 | cons x a ih =>
  cases b with
  | nil=>simp at h
  | cons y b =>
   have hx:=ha x (by simp)
   have hy:=hb y (by simp)
   have ha':Digits a:=fun z hz=>ha z (by simp [hz])
   have hb':Digits b:=fun z hz=>hb z (by simp [hz])
   have hl:a.length = b.length:=by simpa using h
   have i:=ih ha' hb' hl
   have la:=decV_lt ha'
   have lb:=decV_lt hb'
   simp only [lessZ,decV]
   rw [decV_val a,decV_val b,← hl]
   rw [← hl] at lb
   have hp:=ten_pos a.length
   by_cases e:x = y
   ·rw [if_pos e,i,e];omega
   ·rw [if_neg e,decide_eq_true_eq]
    constructor
    ·intro hlt
     have:(10 * 0 + (x - 48) + 1) * ten a.length ≤ (10 * 0 + (y - 48)) * ten a.length:=Int.mul_le_mul_of_nonneg_right (by omega) (Int.le_of_lt hp)
     rw [Int.add_mul] at this
     omega
    ·intro hlt
     apply Decidable.byContradiction
     intro hn
     have:(10 * 0 + (y - 48) + 1) * ten a.length ≤ (10 * 0 + (x - 48)) * ten a.length:=Int.mul_le_mul_of_nonneg_right (by omega) (Int.le_of_lt hp)
     rw [Int.add_mul] at this
     omega
section
def ownWs:List ByteArray:=[⟨#[102,117,110]⟩,⟨#[114,101,99]⟩,⟨#[108,101,116]⟩,⟨#[105,110]⟩,⟨#[105,102]⟩,⟨#[116,104,101,110]⟩,⟨#[101,108,115,101]⟩,⟨#[99,97,115,101]⟩,⟨#[111,102]⟩,⟨#[101,110,100]⟩,⟨#[116,114,117,101]⟩,⟨#[102,97,108,115,101]⟩,⟨#[100,101,102]⟩,⟨#[73,110,116]⟩,⟨#[66,111,111,108]⟩]
def signWs:List ByteArray:=[⟨#[61,61]⟩,⟨#[61,62]⟩,⟨#[58,61]⟩,⟨#[45,62]⟩,⟨#[40]⟩,⟨#[41]⟩,⟨#[123]⟩,⟨#[125]⟩,⟨#[60]⟩,⟨#[62]⟩,⟨#[61]⟩,⟨#[44]⟩,⟨#[58]⟩,⟨#[59]⟩,⟨#[124]⟩,⟨#[46]⟩,⟨#[92]⟩,⟨#[64]⟩,⟨#[94]⟩,⟨#[63]⟩,⟨#[43]⟩,⟨#[45]⟩,⟨#[42]⟩,⟨#[47]⟩,⟨#[37]⟩]
def signNs:List (List Int):=[[61,61],[61,62],[58,61],[45,62],[40],[41],[123],[125],[60],[62],[61],[44],[58],[59],[124],[46],[92],[64],[94],[63],[43],[45],[42],[47],[37]]
def sgls:List Int:=[40,41,123,125,60,62,61,44,58,59,124,46,92,64,94,63,43,45,42,47,37]
def inB (ws:List ByteArray) (s:ByteArray):Bool:=ws.any fun w=>w.toList == s.toList
def ownB (s:ByteArray):Bool:=inB ownWs s
def dblB (a b:Int):Bool:=(a == 61 && b == 61) || ((a == 61 && b == 62) || ((a == 58 && b == 61) || (a == 45 && b == 62)))
def signS (l:List Int):Nat:=if 2 ≤ l.length ∧ dblB (gb l 0) (gb l 1) = true then 2 else if gb l 0 ∈ sgls then 1 else 0
theorem sign_bd (l:List Int) (h:1 ≤ l.length):signS l ≤ 2 ∧ signS l ≤ l.length:=by unfold signS;split;omega;split <;> omega
structure Tok where
 kind:Int
 text:ByteArray
 n:Int
 at_:Int
def Tok.cells (t:Tok):List Value:=[.int .u8 t.kind,.string t.text,.int .i64 t.n,.int .i64 t.at_]
def numS (l:List Int):Int × Int :=
 if (gb l 0 = 48 ∧ 1 < l.length) ∨ ¬ (l.all digitB = true) then (0,4) else if 9223372036854775807 < decV l 0 then (0,7) else (decV l 0,0)
def runS (s:ByteArray) (at_:Int):Tok × Int :=
 if digitB (gb (numsOf s) 0) = true then (⟨2,⟨#[]⟩,(numS (numsOf s)).1,at_⟩,(numS (numsOf s)).2) else
 if ownB s = true then (⟨3,s,0,at_⟩,0) else if wordlyB (numsOf s) = false then (⟨1,s,0,at_⟩,4) else
 if 32 < (numsOf s).length then (⟨1,s,0,at_⟩,7) else (⟨1,s,0,at_⟩,0)
def blankB (c:Int):Bool:=c == 32 || (c == 9 || (c == 13 || c == 10))
def runAt (l:List Int) (a:Nat):List Int:=(l.drop a).takeWhile runsB
def body (rec_:Nat → Bool → List Tok → List Tok × Int × Int) (l:List Int) (a:Nat) (rem:Bool) (out:List Tok):List Tok × Int × Int :=
 if a < l.length then
  if nx l a = 0 then ([],a,3)
  else if rem = true then rec_ (a + nx l a) (gb l a != 10) out
  else if blankB (gb l a) = true then rec_ (a + 1) false out
  else if gb l a = 35 then rec_ (a + 1) true out
  else if runsB (gb l a) = true then
   if (runS (strOfNums (runAt l a)) a).2 = 0 then rec_ (a + (runAt l a).length) false (out ++ [(runS (strOfNums (runAt l a)) a).1]) else ([],a,(runS (strOfNums (runAt l a)) a).2)
  else if signS (l.drop a) = 0 then ([],a,4)
  else rec_ (a + signS (l.drop a)) false (out ++ [⟨3,strOfNums ((l.drop a).take (signS (l.drop a))),0,a⟩])
 else (out ++ [⟨4,⟨#[]⟩,0,l.length⟩],0,0)
def scanF (l:List Int):Nat → Nat → Bool → List Tok → List Tok × Int × Int
 | 0=>fun _ _ _=>([],0,0)
 | f + 1=>fun a rem out=>body (scanF l f) l a rem out
theorem run_pos {l:List Int} {a:Nat} (h:a < l.length) (hr:runsB (gb l a) = true):0 < (runAt l a).length:=by
 unfold runAt
 rw [List.drop_eq_getElem_cons h]
 have:l[a] = gb l a:=by unfold gb;simp [h]
 rw [List.takeWhile_cons,this,hr]
 simp
theorem body_congr {r1 r2:Nat → Bool → List Tok → List Tok × Int × Int} {l:List Int} {a:Nat} (h:∀ a',a < l.length → a < a' → r1 a' = r2 a') (rem:Bool) (out:List Tok):body r1 l a rem out = body r2 l a rem out:=by
 unfold body
 by_cases ha:a < l.length
 ·rw [if_pos ha,if_pos ha]
  by_cases h0:nx l a = 0
  ·rw [if_pos h0,if_pos h0]
  rw [if_neg h0,if_neg h0]
  rw [h (a + nx l a) ha (by omega),h (a + 1) ha (by omega)]
  by_cases hr:runsB (gb l a) = true
  ·rw [h _ ha (by have:=run_pos ha hr;omega:a < a + (runAt l a).length)]
   simp only [hr,if_true]
  ·have hr':runsB (gb l a) = false:=by simpa using hr
   simp only [hr',Bool.false_eq_true,if_false]
   by_cases hs:signS (l.drop a) = 0
   ·simp only [hs,if_true]
   ·rw [h _ ha (by omega:a < a + signS (l.drop a))]
 ·rw [if_neg ha,if_neg ha]
theorem scan_fuel (l:List Int):∀ (n f g a:Nat),l.length - a ≤ n → l.length - a < f → l.length - a < g → scanF l f a = scanF l g a:=by
 intro n
 induction n with
 | zero =>
  intro f g a hn hf hg
  obtain ⟨f,rfl⟩:∃ k,f = k + 1:=⟨f - 1,by omega⟩
  obtain ⟨g,rfl⟩:∃ k,g = k + 1:=⟨g - 1,by omega⟩
  funext rem out
  exact body_congr (fun a' h _=>by omega) rem out
 | succ n ih =>
  intro f g a hn hf hg
  obtain ⟨f,rfl⟩:∃ k,f = k + 1:=⟨f - 1,by omega⟩
  obtain ⟨g,rfl⟩:∃ k,g = k + 1:=⟨g - 1,by omega⟩
  funext rem out
  exact body_congr (fun a' h h'=>ih f g a' (by omega) (by omega) (by omega)) rem out
def scanS (l:List Int) (a:Nat) (rem:Bool) (out:List Tok):List Tok × Int × Int:=scanF l (l.length - a + 1) a rem out
theorem scan_eq (l:List Int) (a:Nat) (rem:Bool) (out:List Tok):scanS l a rem out = body (scanS l) l a rem out:=by
 show body (scanF l (l.length - a)) l a rem out = _
 refine body_congr (fun a' h h'=>?_) rem out
 funext rem out
 show scanF l (l.length - a) a' rem out = scanF l (l.length - a' + 1) a' rem out
 rw [scan_fuel l (l.length - a') (l.length - a) (l.length - a' + 1) a' (by omega) (by omega) (by omega)]
section
variable {l:List Int} {a:Nat} {rem:Bool} {out:List Tok}
theorem scan_end (h:l.length ≤ a):scanS l a rem out = (out ++ [⟨4,⟨#[]⟩,0,l.length⟩],0,0):=by rw [scan_eq];unfold body;rw [if_neg (by omega)]
theorem scan_utf (h:a < l.length) (h0:nx l a = 0):scanS l a rem out = ([],(a:Int),3):=by rw [scan_eq];unfold body;rw [if_pos h,if_pos h0]
theorem scan_rem (h:a < l.length) (h0:nx l a ≠ 0):scanS l a true out = scanS l (a + nx l a) (gb l a != 10) out:=by rw [scan_eq];unfold body;rw [if_pos h,if_neg h0,if_pos rfl]
theorem scan_blank (h:a < l.length) (h0:nx l a ≠ 0) (hb:blankB (gb l a) = true):scanS l a false out = scanS l (a + 1) false out:=by rw [scan_eq];unfold body;rw [if_pos h,if_neg h0,if_neg (by decide),if_pos hb]
theorem scan_hash (h:a < l.length) (h0:nx l a ≠ 0) (hb:gb l a = 35):scanS l a false out = scanS l (a + 1) true out:=by rw [scan_eq];unfold body;rw [if_pos h,if_neg h0,if_neg (by decide),if_neg (by rw [hb];decide),if_pos hb]
theorem scan_run (h:a < l.length) (h0:nx l a ≠ 0) (hb:blankB (gb l a) = false) (hh:gb l a ≠ 35) (hr:runsB (gb l a) = true) :
  scanS l a false out = if (runS (strOfNums (runAt l a)) a).2 = 0 then scanS l (a + (runAt l a).length) false (out ++ [(runS (strOfNums (runAt l a)) a).1]) else ([],(a:Int),(runS (strOfNums (runAt l a)) a).2):=by
 rw [scan_eq];unfold body;rw [if_pos h,if_neg h0,if_neg (by decide),if_neg (by rw [hb];decide),if_neg hh,if_pos hr]
theorem scan_nosign (h:a < l.length) (h0:nx l a ≠ 0) (hb:blankB (gb l a) = false) (hh:gb l a ≠ 35) (hr:runsB (gb l a) = false) (hs:signS (l.drop a) = 0):scanS l a false out = ([],(a:Int),4):=by
 rw [scan_eq];unfold body;rw [if_pos h,if_neg h0,if_neg (by decide),if_neg (by rw [hb];decide),if_neg hh,if_neg (by rw [hr];decide),if_pos hs]
theorem scan_sign (h:a < l.length) (h0:nx l a ≠ 0) (hb:blankB (gb l a) = false) (hh:gb l a ≠ 35) (hr:runsB (gb l a) = false) (hs:signS (l.drop a) ≠ 0) :
  scanS l a false out = scanS l (a + signS (l.drop a)) false (out ++ [⟨3,strOfNums ((l.drop a).take (signS (l.drop a))),0,a⟩]):=by
 rw [scan_eq];unfold body;rw [if_pos h,if_neg h0,if_neg (by decide),if_neg (by rw [hb];decide),if_neg hh,if_neg (by rw [hr];decide),if_neg hs]
end
theorem nx_ascii {l:List Int} {a:Nat} (hb:Byt l) (h:a < l.length) (hc:gb l a < 128):nx l a = 1:=by
 have h1:=next_is (byt_drop hb a) 1 (by rw [List.length_drop];omega) (by simp only [V];rw [gb_drop];exact hc)
 unfold nx;rw [h1];rfl
theorem blank_iff (c:Int):blankB c = true ↔ c = 32 ∨ c = 9 ∨ c = 13 ∨ c = 10:=by unfold blankB;simp
theorem blank_no (c:Int):blankB c = false ↔ ¬ (c = 32 ∨ c = 9 ∨ c = 13 ∨ c = 10):=by rw [← blank_iff];simp
theorem sgl_ascii {c:Int} (h:c ∈ sgls):37 ≤ c ∧ c ≤ 125:=by simp [sgls] at h;omega
end
inductive Ty where
 | mk (op:Int) (name:ByteArray) (n:Int) (kids:List Ty)
def Ty.op:Ty → Int | .mk op _ _ _=>op
def Ty.name:Ty → ByteArray | .mk _ nm _ _=>nm
def Ty.n:Ty → Int | .mk _ _ n _=>n
def Ty.kids:Ty → List Ty | .mk _ _ _ ks=>ks
theorem Ty.eta:∀ t:Ty,t = .mk t.op t.name t.n t.kids | .mk _ _ _ _=>rfl
def zeroTy:Ty:=.mk 0 ⟨#[]⟩ 0 []
theorem Ty.sizeOf_kid {t x:Ty} (h:x ∈ t.kids):SizeOf.sizeOf x < SizeOf.sizeOf t:=by
 obtain ⟨op,nm,n,ks⟩:=t
 have:=List.sizeOf_lt_of_mem h
 simp only [Ty.kids] at this
 simp only [Ty.mk.sizeOf_spec]
 omega
theorem Ty.ind {P:Ty → Prop} (h:∀ t,(∀ x ∈ t.kids,P x) → P t) (t:Ty):P t:=h t fun x _hx=>Ty.ind h x
termination_by SizeOf.sizeOf t
decreasing_by exact Ty.sizeOf_kid _hx
mutual
def Ty.parts:Ty → List Ty
 | .mk op nm n ks=>.mk op nm n ks :: partsL ks
def partsL:List Ty → List Ty
 | []=>[]
 | t :: ts=>t.parts ++ partsL ts
end
theorem parts_eq (t:Ty):t.parts = t :: partsL t.kids:=by
 obtain ⟨op,nm,n,ks⟩:=t
 rw [Ty.parts]
 rfl
theorem partsL_flat:∀ ts:List Ty,partsL ts = ts.flatMap Ty.parts
 | []=>by rw [partsL];rfl
 | t :: ts=>by rw [partsL,partsL_flat ts];rfl
theorem parts_kids (t:Ty):t.parts = t :: t.kids.flatMap Ty.parts:=by rw [parts_eq,partsL_flat]
theorem parts_pos (t:Ty):1 ≤ t.parts.length:=by rw [parts_eq];simp
theorem flat_parts_le:∀ (ts:List Ty),ts.length ≤ (ts.flatMap Ty.parts).length ∧ ∀ x ∈ ts,x.parts.length ≤ (ts.flatMap Ty.parts).length
 | []=>by simp
 | u :: us=>by
  have ih:=flat_parts_le us
  have:=parts_pos u
  simp only [List.flatMap_cons,List.length_append,List.length_cons]
  refine ⟨by omega,fun x hx=>?_⟩
  rcases List.mem_cons.1 hx with rfl | hx
  ·omega
  ·have:=ih.2 x hx;omega
theorem kids_le (t:Ty):t.kids.length < t.parts.length ∧ ∀ x ∈ t.kids,x.parts.length < t.parts.length:=by
 rw [parts_kids,List.length_cons]
 have:=flat_parts_le t.kids
 exact ⟨by omega,fun x hx=>by have:=this.2 x hx;omega⟩
def kidsS (op:Int):Option (List Int) :=
 if op = 1 ∨ op = 2 ∨ op = 3 ∨ op = 7 ∨ op = 8 ∨ op = 9 ∨ op = 10 then some [] else if op = 4 then some [116,116] else if op = 5 ∨ op = 6 then some [114] else if op = 11 then some [116,114] else none
def headB (isWord:ByteArray → Bool) (t:Ty) (s:Int):Bool :=
 match kidsS t.op with
 | none=>false
 | some k=>(decide (8 ≤ t.op) == (s == 114)) && (decide (t.kids.length = k.length) && ((if t.op = 11 then isWord t.name else decide (t.name.toList = [])) && (decide (0 ≤ t.n) && (decide (t.op = 7 ∨ t.op = 10) || decide (t.n = 0)))))
mutual
def shapeB (isWord:ByteArray → Bool):Ty → Int → Bool
 | .mk op nm n ks,s=>headB isWord (.mk op nm n ks) s && shapesB isWord ks ((kidsS op).getD [])
def shapesB (isWord:ByteArray → Bool):List Ty → List Int → Bool
 | [],_=>true
 | t :: ts,k :: ks=>shapeB isWord t k && shapesB isWord ts ks
 | _ :: _,[]=>false
end
theorem shape_eq (iw:ByteArray → Bool) (t:Ty) (s:Int):shapeB iw t s = (headB iw t s && shapesB iw t.kids ((kidsS t.op).getD [])):=by
 obtain ⟨op,nm,n,ks⟩:=t
 rw [shapeB]
 rfl
mutual
def alikeB:Ty → Ty → Bool
 | .mk o m n ks,.mk o' m' n' ks'=>(o == o') && ((m.toList == m'.toList) && ((n == n') && alikesB ks ks'))
def alikesB:List Ty → List Ty → Bool
 | [],[]=>true
 | t :: ts,u :: us=>alikeB t u && alikesB ts us
 | _,_=>false
end
def clashB (x y:Ty):Bool:=(x.op == 7) && ((y.op == 10) && (x.n == y.n))
def onceB (t:Ty):Bool:=t.parts.all fun x=>t.parts.all fun y=>!clashB x y
end Go.Proofs.YtahpnackkmbmgaaGreatDoor
end
section
namespace Go.Proofs.YtahpnackkmbmgaaGreatDoor.Vm
open Go.RowKit
theorem once_yes {t:Ty} (h:∀ x ∈ t.parts,∀ y ∈ t.parts,clashB x y = false):onceB t = true:=by
 unfold onceB
 rw [List.all_eq_true]
 intro x hx
 rw [List.all_eq_true]
 intro y hy
 rw [h x hx y hy];rfl
def vbl (t:Ty):Option (Int × Bool):=if t.op = 7 then some (t.n,false) else if t.op = 10 then some (t.n,true) else none
def updS {α:Type} (s:Int → Option α) (n:Int) (r:α):Int → Option α:=fun x=>if x = n then some r else s x
def meetL:List Ty → (Int → Option Bool) → Option (Int → Option Bool)
 | [],s=>some s
 | t :: ts,s=>match vbl t with
  | none=>meetL ts s
  | some p=>if s p.1 = some (!p.2) then none else meetL ts (updS s p.1 p.2)
theorem meet_append:∀ (a b:List Ty) (s:Int → Option Bool),meetL (a ++ b) s = (meetL a s).bind (meetL b)
 | [],b,s=>rfl
 | t :: ts,b,s=>by
  rw [List.cons_append,meetL,meetL]
  cases vbl t with
  | none=>exact meet_append ts b s
  | some p =>
   simp only
   split
   ·rfl
   ·exact meet_append ts b _
theorem meet_ok:∀ (ts:List Ty) (s:Int → Option Bool),(meetL ts s).isSome = true ↔ (∀ x ∈ ts,∀ p,vbl x = some p → s p.1 ≠ some (!p.2)) ∧ ∀ x ∈ ts,∀ y ∈ ts,∀ p q,vbl x = some p → vbl y = some q → p.1 = q.1 → p.2 = q.2
 | [],s=>by simp [meetL]
 | t :: ts,s=>by
  rw [meetL]
  cases hv:vbl t with
  | none =>
   simp only
   rw [meet_ok ts s]
   constructor
   ·rintro ⟨h1,h2⟩
    refine ⟨fun x hx p hp=>?_,fun x hx y hy p q hp hq e=>?_⟩
    ·rcases List.mem_cons.1 hx with rfl | hx
     ·rw [hv] at hp;cases hp
     ·exact h1 x hx p hp
    ·rcases List.mem_cons.1 hx with rfl | hx
     ·rw [hv] at hp;cases hp
     ·rcases List.mem_cons.1 hy with rfl | hy
      ·rw [hv] at hq;cases hq
      ·exact h2 x hx y hy p q hp hq e
   ·rintro ⟨h1,h2⟩
    exact ⟨fun x hx=>h1 x (List.mem_cons_of_mem _ hx),fun x hx y hy=>h2 x (List.mem_cons_of_mem _ hx) y (List.mem_cons_of_mem _ hy)⟩
  | some p =>
   obtain ⟨n,r⟩:=p
   simp only
   by_cases hs:s n = some (!r)
   ·rw [if_pos hs]
    constructor
    ·intro h;cases h
    ·rintro ⟨h1,_⟩
     exact absurd hs (h1 t (List.mem_cons_self ..) _ hv)
   ·rw [if_neg hs,meet_ok ts]
    constructor
    ·rintro ⟨h1,h2⟩
     have h3:∀ x ∈ ts,∀ p,vbl x = some p → p.1 = n → p.2 = r:=fun x hx p hp e=>by
      have:=h1 x hx p hp
      unfold updS at this
      rw [if_pos e] at this
      cases r <;> cases hp2:p.2 <;> simp_all
     refine ⟨fun x hx p hp=>?_,fun x hx y hy p q hp hq e=>?_⟩
     ·rcases List.mem_cons.1 hx with rfl | hx
      ·rw [hv] at hp
       cases hp
       exact hs
      ·by_cases e:p.1 = n
       ·rw [h3 x hx p hp e,e];exact hs
       ·have:=h1 x hx p hp
        unfold updS at this
        rw [if_neg e] at this
        exact this
     ·rcases List.mem_cons.1 hx with rfl | hx
      ·rw [hv] at hp
       cases hp
       rcases List.mem_cons.1 hy with rfl | hy
       ·rw [hv] at hq
        cases hq
        rfl
       ·exact (h3 y hy q hq e.symm).symm
      ·rcases List.mem_cons.1 hy with rfl | hy
       ·rw [hv] at hq
        cases hq
        exact h3 x (by assumption) p hp e
       ·exact h2 x (by assumption) y hy p q hp hq e
    ·rintro ⟨h1,h2⟩
     refine ⟨fun x hx p hp=>?_,fun x hx y hy=>h2 x (List.mem_cons_of_mem _ hx) y (List.mem_cons_of_mem _ hy)⟩
     unfold updS
     by_cases e:p.1 = n
     ·rw [if_pos e,← h2 t (List.mem_cons_self ..) x (List.mem_cons_of_mem _ hx) (n,r) p hv hp e.symm]
      cases r <;> simp
     ·rw [if_neg e]
      exact h1 x (List.mem_cons_of_mem _ hx) p hp
theorem once_meet (t:Ty):(meetL t.parts fun _=>none).isSome = onceB t:=by
 rw [Bool.eq_iff_iff,meet_ok]
 constructor
 ·rintro ⟨_,h⟩
  refine once_yes fun x hx y hy=>?_
  cases hc:clashB x y with
  | false=>rfl
  | true =>
   unfold clashB at hc
   simp only [Bool.and_eq_true,beq_iff_eq] at hc
   have:=h x hx y hy (x.n,false) (y.n,true) (by unfold vbl;rw [if_pos hc.1]) (by unfold vbl;rw [if_neg (by rw [hc.2.1];decide),if_pos hc.2.1]) hc.2.2
   cases this
 ·intro h
  refine ⟨by simp,fun x hx y hy p q hp hq e=>?_⟩
  unfold onceB at h
  rw [List.all_eq_true] at h
  have hxy:=h x hx
  have hyx:=h y hy
  rw [List.all_eq_true] at hxy hyx
  have h1:=hxy y hy
  have h2:=hyx x hx
  unfold clashB at h1 h2
  unfold vbl at hp hq
  split at hp
  ·rename_i ex
   cases hp
   split at hq
   ·cases hq;rfl
   ·split at hq
    ·rename_i ey
     cases hq
     simp only at e
     simp [ex,ey,e] at h1
    ·cases hq
  ·split at hp
   ·rename_i ex
    cases hp
    split at hq
    ·rename_i ey
     cases hq
     simp only at e
     simp [ex,ey,e] at h2
    ·split at hq
     ·cases hq;rfl
     ·cases hq
   ·cases hp
end Go.Proofs.YtahpnackkmbmgaaGreatDoor.Vm
end
section
namespace Go.Proofs.YtahpnackkmbmgaaGreatDoor.Vm
inductive TK where
 | int (k:IntKind)
 | bool
 | str
 | slice
 | struct
 | array
 | map
 | ptr
 | other
structure TI where
 kind:TK:=.other
 agg:Bool:=false
 sz:Nat:=1
 zero:List Value:=[]
 flds:List (Nat × Nat):=[]
 fty:List Nat:=[]
 elem:Option Nat:=none
 key:Option Nat:=none
 val:Option Nat:=none
 alen:Nat:=0
def aggOf:Option TypeDesc → Option Bool
 | some (.struct _)=>some true
 | some (.array _ _)=>some true
 | some _=>some false
 | none=>none
def fldsOf (P:Program):Option TypeDesc → Option (List (Nat × Option Nat) × List Nat)
 | some (.struct fs)=>some (fs.toList.map (fun f=>(f.offset,(P.info? f.type).map (·.size))),fs.toList.map (·.type))
 | _=>none
def kindOk (P:Program) (t:Nat) (i:TI):Prop:=match i.kind with
 | .int k=>P.underlying t = some (.int k)
 | .bool=>P.underlying t = some .bool
 | .str=>P.underlying t = some .string
 | .slice=>P.underlying t = i.elem.map .slice ∧ i.elem.isSome = true
 | .ptr=>P.underlying t = i.val.map .pointer ∧ i.val.isSome = true
 | .array=>P.underlying t = i.val.map (.array i.alen) ∧ i.val.isSome = true
 | .map=>P.underlying t = (i.key.bind fun k=>i.val.map fun e=>.map k e) ∧ i.key.isSome = true ∧ i.val.isSome = true
 | .struct=>fldsOf P (P.underlying t) = some (i.flds.map (fun x=>(x.1,some x.2)),i.fty)
 | _=>True
def isAggV:Value → Bool
 | .agg _=>true
 | _=>false
structure TyOk (P:Program) (t:Nat) (i:TI):Prop where
 info:(P.info? t).map (fun x=>(x.size,x.zero.map Value.cells)) = some (i.sz,some i.zero.toArray)
 len:i.zero.length = i.sz
 zag:((P.info? t).bind (·.zero)).map isAggV = some i.agg
 bytes:((P.info? t).map fun x=>decide (x.bytes ≤ 1024)) = some true
 agg:aggOf (P.underlying t) = some i.agg
 under:kindOk P t i
 elem:(match i.kind with | .slice=>true | _=>i.elem.isNone) = true
 flds:(match i.kind with | .struct=>true | _=>i.flds.isEmpty) = true
def ty (n:Nat):TI:=match Nat.blt n 88 with|true=>(match Nat.blt n 44 with|true=>(match Nat.blt n 22 with|true=>(match Nat.blt n 11 with|true=>(match Nat.blt n 5 with|true=>(match Nat.blt n 2 with|true=>(match Nat.blt n 1 with|true=>{ kind:=.other }|false=>{ sz:=1,zero:=[.nilFunc] })|false=>(match Nat.blt n 3 with|true=>{ kind:=.int .i64,sz:=1,zero:=[.int .i64 0] }|false=>(match Nat.blt n 4 with|true=>{ kind:=.int .i64,sz:=1,zero:=[.int .i64 0] }|false=>{ kind:=.bool,sz:=1,zero:=[.bool false] })))|false=>(match Nat.blt n 8 with|true=>(match Nat.blt n 6 with|true=>{ kind:=.int .u8,sz:=1,zero:=[.int .u8 0] }|false=>(match Nat.blt n 7 with|true=>{ kind:=.int .u8,sz:=1,zero:=[.int .u8 0] }|false=>{ kind:=.struct,agg:=true,sz:=4,zero:=[.int .i64 0,.int .i64 0,.bool false,.int .u8 0],flds:=[(0,1),(1,1),(2,1),(3,1)],fty:=[2,3,4,6] }))|false=>(match Nat.blt n 9 with|true=>{ kind:=.struct,agg:=true,sz:=4,zero:=[.int .i64 0,.int .i64 0,.bool false,.int .u8 0],flds:=[(0,1),(1,1),(2,1),(3,1)],fty:=[2,3,4,6] }|false=>(match Nat.blt n 10 with|true=>{ kind:=.str,sz:=1,zero:=[.string ⟨#[]⟩] }|false=>{ kind:=.str,sz:=1,zero:=[.string ⟨#[]⟩] }))))|false=>(match Nat.blt n 16 with|true=>(match Nat.blt n 13 with|true=>(match Nat.blt n 12 with|true=>{ kind:=.str,sz:=1,zero:=[.string ⟨#[]⟩] }|false=>{ kind:=.int .u64,sz:=1,zero:=[.int .u64 0] })|false=>(match Nat.blt n 14 with|true=>{ kind:=.struct,agg:=true,sz:=2,zero:=[.string ⟨#[]⟩,.int .u64 0],flds:=[(0,1),(1,1)],fty:=[9,12] }|false=>(match Nat.blt n 15 with|true=>{ kind:=.struct,agg:=true,sz:=2,zero:=[.string ⟨#[]⟩,.int .u64 0],flds:=[(0,1),(1,1)],fty:=[9,12] }|false=>{ kind:=.ptr,sz:=1,zero:=[.pointer none],val:=some 164 })))|false=>(match Nat.blt n 19 with|true=>(match Nat.blt n 17 with|true=>{ kind:=.ptr,sz:=1,zero:=[.pointer none],val:=some 167 }|false=>(match Nat.blt n 18 with|true=>{ kind:=.ptr,sz:=1,zero:=[.pointer none],val:=some 175 }|false=>{ kind:=.struct,agg:=true,sz:=1,zero:=[.pointer none],flds:=[(0,1)],fty:=[17] }))|false=>(match Nat.blt n 20 with|true=>{ kind:=.struct,agg:=true,sz:=1,zero:=[.pointer none],flds:=[(0,1)],fty:=[17] }|false=>(match Nat.blt n 21 with|true=>{ sz:=1,zero:=[.nilIface] }|false=>{ kind:=.int .i32,sz:=1,zero:=[.int .i32 0] })))))|false=>(match Nat.blt n 33 with|true=>(match Nat.blt n 27 with|true=>(match Nat.blt n 24 with|true=>(match Nat.blt n 23 with|true=>{ kind:=.int .u8,sz:=1,zero:=[.int .u8 0] }|false=>{ kind:=.slice,sz:=1,zero:=[.slice none 0 0],elem:=some 25 })|false=>(match Nat.blt n 25 with|true=>{ kind:=.struct,agg:=true,sz:=4,zero:=[.int .u8 0,.string ⟨#[]⟩,.int .i64 0,.slice none 0 0],flds:=[(0,1),(1,1),(2,1),(3,1)],fty:=[22,9,3,23] }|false=>(match Nat.blt n 26 with|true=>{ kind:=.struct,agg:=true,sz:=4,zero:=[.int .u8 0,.string ⟨#[]⟩,.int .i64 0,.slice none 0 0],flds:=[(0,1),(1,1),(2,1),(3,1)],fty:=[22,9,3,23] }|false=>{ sz:=1,zero:=[.nilFunc] })))|false=>(match Nat.blt n 30 with|true=>(match Nat.blt n 28 with|true=>{ sz:=1,zero:=[.nilFunc] }|false=>(match Nat.blt n 29 with|true=>{ kind:=.int .u8,sz:=1,zero:=[.int .u8 0] }|false=>{ kind:=.other }))|false=>(match Nat.blt n 31 with|true=>{ sz:=1,zero:=[.nilFunc] }|false=>(match Nat.blt n 32 with|true=>{ sz:=1,zero:=[.nilFunc] }|false=>{ kind:=.slice,sz:=1,zero:=[.slice none 0 0],elem:=some 5 }))))|false=>(match Nat.blt n 38 with|true=>(match Nat.blt n 35 with|true=>(match Nat.blt n 34 with|true=>{ kind:=.other }|false=>{ sz:=1,zero:=[.nilFunc] })|false=>(match Nat.blt n 36 with|true=>{ kind:=.other }|false=>(match Nat.blt n 37 with|true=>{ sz:=1,zero:=[.nilFunc] }|false=>{ sz:=1,zero:=[.nilFunc] })))|false=>(match Nat.blt n 41 with|true=>(match Nat.blt n 39 with|true=>{ sz:=1,zero:=[.nilFunc] }|false=>(match Nat.blt n 40 with|true=>{ kind:=.slice,sz:=1,zero:=[.slice none 0 0],elem:=some 47 }|false=>{ kind:=.other }))|false=>(match Nat.blt n 42 with|true=>{ sz:=1,zero:=[.nilFunc] }|false=>(match Nat.blt n 43 with|true=>{ kind:=.ptr,sz:=1,zero:=[.pointer none],val:=some 75 }|false=>{ sz:=1,zero:=[.nilFunc] }))))))|false=>(match Nat.blt n 66 with|true=>(match Nat.blt n 55 with|true=>(match Nat.blt n 49 with|true=>(match Nat.blt n 46 with|true=>(match Nat.blt n 45 with|true=>{ sz:=1,zero:=[.nilFunc] }|false=>{ sz:=1,zero:=[.nilFunc] })|false=>(match Nat.blt n 47 with|true=>{ kind:=.struct,agg:=true,sz:=4,zero:=[.int .u8 0,.string ⟨#[]⟩,.int .i64 0,.int .i64 0],flds:=[(0,1),(1,1),(2,1),(3,1)],fty:=[5,9,2,3] }|false=>(match Nat.blt n 48 with|true=>{ kind:=.struct,agg:=true,sz:=4,zero:=[.int .u8 0,.string ⟨#[]⟩,.int .i64 0,.int .i64 0],flds:=[(0,1),(1,1),(2,1),(3,1)],fty:=[5,9,2,3] }|false=>{ sz:=1,zero:=[.nilFunc] })))|false=>(match Nat.blt n 52 with|true=>(match Nat.blt n 50 with|true=>{ sz:=1,zero:=[.nilFunc] }|false=>(match Nat.blt n 51 with|true=>{ sz:=1,zero:=[.nilFunc] }|false=>{ kind:=.slice,sz:=1,zero:=[.slice none 0 0],elem:=some 3 }))|false=>(match Nat.blt n 53 with|true=>{ sz:=1,zero:=[.nilFunc] }|false=>(match Nat.blt n 54 with|true=>{ sz:=1,zero:=[.nilFunc] }|false=>{ kind:=.ptr,sz:=1,zero:=[.pointer none],val:=some 56 }))))|false=>(match Nat.blt n 60 with|true=>(match Nat.blt n 57 with|true=>(match Nat.blt n 56 with|true=>{ kind:=.struct,agg:=true,sz:=2,zero:=[.pointer none,.slice none 0 0],flds:=[(0,1),(1,1)],fty:=[54,32] }|false=>{ kind:=.struct,agg:=true,sz:=2,zero:=[.pointer none,.slice none 0 0],flds:=[(0,1),(1,1)],fty:=[54,32] })|false=>(match Nat.blt n 58 with|true=>{ kind:=.struct,agg:=true,sz:=2,zero:=[.pointer none,.slice none 0 0],flds:=[(0,2)],fty:=[56] }|false=>(match Nat.blt n 59 with|true=>{ kind:=.struct,agg:=true,sz:=2,zero:=[.pointer none,.slice none 0 0],flds:=[(0,2)],fty:=[56] }|false=>{ sz:=1,zero:=[.nilFunc] })))|false=>(match Nat.blt n 63 with|true=>(match Nat.blt n 61 with|true=>{ sz:=1,zero:=[.nilFunc] }|false=>(match Nat.blt n 62 with|true=>{ sz:=1,zero:=[.nilFunc] }|false=>{ sz:=1,zero:=[.nilFunc] }))|false=>(match Nat.blt n 64 with|true=>{ kind:=.other }|false=>(match Nat.blt n 65 with|true=>{ sz:=1,zero:=[.nilFunc] }|false=>{ kind:=.slice,sz:=1,zero:=[.slice none 0 0],elem:=some 9 })))))|false=>(match Nat.blt n 77 with|true=>(match Nat.blt n 71 with|true=>(match Nat.blt n 68 with|true=>(match Nat.blt n 67 with|true=>{ kind:=.other }|false=>{ sz:=1,zero:=[.nilFunc] })|false=>(match Nat.blt n 69 with|true=>{ kind:=.other }|false=>(match Nat.blt n 70 with|true=>{ sz:=1,zero:=[.nilFunc] }|false=>{ sz:=1,zero:=[.nilFunc] })))|false=>(match Nat.blt n 74 with|true=>(match Nat.blt n 72 with|true=>{ kind:=.other }|false=>(match Nat.blt n 73 with|true=>{ sz:=1,zero:=[.nilFunc] }|false=>{ sz:=1,zero:=[.nilFunc] }))|false=>(match Nat.blt n 75 with|true=>{ kind:=.struct,agg:=true,sz:=2,zero:=[.slice none 0 0,.int .i64 0],flds:=[(0,1),(1,1)],fty:=[39,3] }|false=>(match Nat.blt n 76 with|true=>{ kind:=.struct,agg:=true,sz:=2,zero:=[.slice none 0 0,.int .i64 0],flds:=[(0,1),(1,1)],fty:=[39,3] }|false=>{ kind:=.ptr,sz:=1,zero:=[.pointer none],val:=some 78 }))))|false=>(match Nat.blt n 82 with|true=>(match Nat.blt n 79 with|true=>(match Nat.blt n 78 with|true=>{ kind:=.struct,agg:=true,sz:=3,zero:=[.pointer none,.int .u8 0,.int .i64 0],flds:=[(0,1),(1,1),(2,1)],fty:=[42,28,3] }|false=>{ kind:=.struct,agg:=true,sz:=3,zero:=[.pointer none,.int .u8 0,.int .i64 0],flds:=[(0,1),(1,1),(2,1)],fty:=[42,28,3] })|false=>(match Nat.blt n 80 with|true=>{ sz:=1,zero:=[.nilFunc] }|false=>(match Nat.blt n 81 with|true=>{ sz:=1,zero:=[.nilFunc] }|false=>{ kind:=.slice,sz:=1,zero:=[.slice none 0 0],elem:=some 85 })))|false=>(match Nat.blt n 85 with|true=>(match Nat.blt n 83 with|true=>{ kind:=.other }|false=>(match Nat.blt n 84 with|true=>{ sz:=1,zero:=[.nilFunc] }|false=>{ kind:=.struct,agg:=true,sz:=5,zero:=[.string ⟨#[]⟩,.int .u8 0,.string ⟨#[]⟩,.int .i64 0,.slice none 0 0],flds:=[(0,1),(1,4)],fty:=[9,25] }))|false=>(match Nat.blt n 86 with|true=>{ kind:=.struct,agg:=true,sz:=5,zero:=[.string ⟨#[]⟩,.int .u8 0,.string ⟨#[]⟩,.int .i64 0,.slice none 0 0],flds:=[(0,1),(1,4)],fty:=[9,25] }|false=>(match Nat.blt n 87 with|true=>{ sz:=1,zero:=[.nilFunc] }|false=>{ sz:=1,zero:=[.nilFunc] })))))))|false=>(match Nat.blt n 132 with|true=>(match Nat.blt n 110 with|true=>(match Nat.blt n 99 with|true=>(match Nat.blt n 93 with|true=>(match Nat.blt n 90 with|true=>(match Nat.blt n 89 with|true=>{ kind:=.map,sz:=1,zero:=[.map none],key:=some 3,val:=some 4 }|false=>{ kind:=.map,sz:=1,zero:=[.map none],key:=some 3,val:=some 4 })|false=>(match Nat.blt n 91 with|true=>{ sz:=1,zero:=[.nilFunc] }|false=>(match Nat.blt n 92 with|true=>{ kind:=.ptr,sz:=1,zero:=[.pointer none],val:=some 58 }|false=>{ sz:=1,zero:=[.nilIface] })))|false=>(match Nat.blt n 96 with|true=>(match Nat.blt n 94 with|true=>{ sz:=1,zero:=[.nilIface] }|false=>(match Nat.blt n 95 with|true=>{ kind:=.other }|false=>{ sz:=1,zero:=[.nilFunc] }))|false=>(match Nat.blt n 97 with|true=>{ sz:=1,zero:=[.nilFunc] }|false=>(match Nat.blt n 98 with|true=>{ kind:=.ptr,sz:=1,zero:=[.pointer none],val:=some 5 }|false=>{ kind:=.other }))))|false=>(match Nat.blt n 104 with|true=>(match Nat.blt n 101 with|true=>(match Nat.blt n 100 with|true=>{ sz:=1,zero:=[.nilFunc] }|false=>{ sz:=1,zero:=[.nilFunc] })|false=>(match Nat.blt n 102 with|true=>{ kind:=.struct,agg:=true,sz:=2,zero:=[.slice none 0 0,.int .i64 0],flds:=[(0,1),(1,1)],fty:=[32,3] }|false=>(match Nat.blt n 103 with|true=>{ kind:=.struct,agg:=true,sz:=2,zero:=[.slice none 0 0,.int .i64 0],flds:=[(0,1),(1,1)],fty:=[32,3] }|false=>{ kind:=.other })))|false=>(match Nat.blt n 107 with|true=>(match Nat.blt n 105 with|true=>{ sz:=1,zero:=[.nilFunc] }|false=>(match Nat.blt n 106 with|true=>{ sz:=1,zero:=[.nilFunc] }|false=>{ sz:=1,zero:=[.nilFunc] }))|false=>(match Nat.blt n 108 with|true=>{ sz:=1,zero:=[.nilFunc] }|false=>(match Nat.blt n 109 with|true=>{ kind:=.other }|false=>{ sz:=1,zero:=[.nilFunc] })))))|false=>(match Nat.blt n 121 with|true=>(match Nat.blt n 115 with|true=>(match Nat.blt n 112 with|true=>(match Nat.blt n 111 with|true=>{ sz:=1,zero:=[.nilFunc] }|false=>{ sz:=1,zero:=[.nilFunc] })|false=>(match Nat.blt n 113 with|true=>{ sz:=1,zero:=[.nilFunc] }|false=>(match Nat.blt n 114 with|true=>{ kind:=.other }|false=>{ sz:=1,zero:=[.nilFunc] })))|false=>(match Nat.blt n 118 with|true=>(match Nat.blt n 116 with|true=>{ sz:=1,zero:=[.nilFunc] }|false=>(match Nat.blt n 117 with|true=>{ sz:=1,zero:=[.nilFunc] }|false=>{ sz:=1,zero:=[.nilFunc] }))|false=>(match Nat.blt n 119 with|true=>{ kind:=.ptr,sz:=1,zero:=[.pointer none],val:=some 102 }|false=>(match Nat.blt n 120 with|true=>{ sz:=1,zero:=[.nilFunc] }|false=>{ sz:=1,zero:=[.nilFunc] }))))|false=>(match Nat.blt n 126 with|true=>(match Nat.blt n 123 with|true=>(match Nat.blt n 122 with|true=>{ sz:=1,zero:=[.nilFunc] }|false=>{ kind:=.other })|false=>(match Nat.blt n 124 with|true=>{ sz:=1,zero:=[.nilFunc] }|false=>(match Nat.blt n 125 with|true=>{ sz:=1,zero:=[.nilFunc] }|false=>{ sz:=1,zero:=[.nilFunc] })))|false=>(match Nat.blt n 129 with|true=>(match Nat.blt n 127 with|true=>{ kind:=.other }|false=>(match Nat.blt n 128 with|true=>{ sz:=1,zero:=[.pointer none] }|false=>{ sz:=1,zero:=[.nilFunc] }))|false=>(match Nat.blt n 130 with|true=>{ sz:=1,zero:=[.nilFunc] }|false=>(match Nat.blt n 131 with|true=>{ sz:=1,zero:=[.nilFunc] }|false=>{ sz:=1,zero:=[.nilFunc] }))))))|false=>(match Nat.blt n 154 with|true=>(match Nat.blt n 143 with|true=>(match Nat.blt n 137 with|true=>(match Nat.blt n 134 with|true=>(match Nat.blt n 133 with|true=>{ sz:=1,zero:=[.nilFunc] }|false=>{ sz:=1,zero:=[.nilFunc] })|false=>(match Nat.blt n 135 with|true=>{ sz:=1,zero:=[.nilFunc] }|false=>(match Nat.blt n 136 with|true=>{ sz:=1,zero:=[.nilFunc] }|false=>{ kind:=.other })))|false=>(match Nat.blt n 140 with|true=>(match Nat.blt n 138 with|true=>{ sz:=1,zero:=[.nilFunc] }|false=>(match Nat.blt n 139 with|true=>{ kind:=.other }|false=>{ sz:=1,zero:=[.nilFunc] }))|false=>(match Nat.blt n 141 with|true=>{ sz:=1,zero:=[.nilFunc] }|false=>(match Nat.blt n 142 with|true=>{ kind:=.array,agg:=true,sz:=24,zero:=[.int .u8 0,.int .u8 0,.int .u8 0,.int .u8 0,.int .u8 0,.int .u8 0,.int .u8 0,.int .u8 0,.int .u8 0,.int .u8 0,.int .u8 0,.int .u8 0,.int .u8 0,.int .u8 0,.int .u8 0,.int .u8 0,.int .u8 0,.int .u8 0,.int .u8 0,.int .u8 0,.int .u8 0,.int .u8 0,.int .u8 0,.int .u8 0],val:=some 5,alen:=24 }|false=>{ kind:=.int .u64,sz:=1,zero:=[.int .u64 0] }))))|false=>(match Nat.blt n 148 with|true=>(match Nat.blt n 145 with|true=>(match Nat.blt n 144 with|true=>{ sz:=1,zero:=[.nilFunc] }|false=>{ sz:=1,zero:=[.nilFunc] })|false=>(match Nat.blt n 146 with|true=>{ kind:=.other }|false=>(match Nat.blt n 147 with|true=>{ sz:=1,zero:=[.nilFunc] }|false=>{ sz:=1,zero:=[.nilFunc] })))|false=>(match Nat.blt n 151 with|true=>(match Nat.blt n 149 with|true=>{ sz:=1,zero:=[.nilFunc] }|false=>(match Nat.blt n 150 with|true=>{ kind:=.int .u64,sz:=1,zero:=[.int .u64 0] }|false=>{ sz:=1,zero:=[.nilFunc] }))|false=>(match Nat.blt n 152 with|true=>{ sz:=1,zero:=[.nilFunc] }|false=>(match Nat.blt n 153 with|true=>{ sz:=1,zero:=[.nilFunc] }|false=>{ sz:=1,zero:=[.nilFunc] })))))|false=>(match Nat.blt n 165 with|true=>(match Nat.blt n 159 with|true=>(match Nat.blt n 156 with|true=>(match Nat.blt n 155 with|true=>{ kind:=.array,agg:=true,sz:=20,zero:=[.int .u64 0,.int .u64 0,.int .u64 0,.int .u64 0,.int .u64 0,.int .u64 0,.int .u64 0,.int .u64 0,.int .u64 0,.int .u64 0,.int .u64 0,.int .u64 0,.int .u64 0,.int .u64 0,.int .u64 0,.int .u64 0,.int .u64 0,.int .u64 0,.int .u64 0,.int .u64 0],val:=some 142,alen:=20 }|false=>{ kind:=.int .u32,sz:=1,zero:=[.int .u32 0] })|false=>(match Nat.blt n 157 with|true=>{ kind:=.other }|false=>(match Nat.blt n 158 with|true=>{ sz:=1,zero:=[.nilFunc] }|false=>{ sz:=1,zero:=[.nilFunc] })))|false=>(match Nat.blt n 162 with|true=>(match Nat.blt n 160 with|true=>{ sz:=1,zero:=[.nilFunc] }|false=>(match Nat.blt n 161 with|true=>{ sz:=1,zero:=[.nilFunc] }|false=>{ kind:=.array,agg:=true,sz:=32,zero:=[.int .u8 0,.int .u8 0,.int .u8 0,.int .u8 0,.int .u8 0,.int .u8 0,.int .u8 0,.int .u8 0,.int .u8 0,.int .u8 0,.int .u8 0,.int .u8 0,.int .u8 0,.int .u8 0,.int .u8 0,.int .u8 0,.int .u8 0,.int .u8 0,.int .u8 0,.int .u8 0,.int .u8 0,.int .u8 0,.int .u8 0,.int .u8 0,.int .u8 0,.int .u8 0,.int .u8 0,.int .u8 0,.int .u8 0,.int .u8 0,.int .u8 0,.int .u8 0],val:=some 5,alen:=32 }))|false=>(match Nat.blt n 163 with|true=>{ kind:=.other }|false=>(match Nat.blt n 164 with|true=>{ kind:=.struct,agg:=true,sz:=4,zero:=[.pointer none,.pointer none,.pointer none,.string ⟨#[]⟩],flds:=[(0,1),(1,1),(2,1),(3,1)],fty:=[17,17,17,9] }|false=>{ kind:=.struct,agg:=true,sz:=4,zero:=[.pointer none,.pointer none,.pointer none,.string ⟨#[]⟩],flds:=[(0,1),(1,1),(2,1),(3,1)],fty:=[17,17,17,9] }))))|false=>(match Nat.blt n 170 with|true=>(match Nat.blt n 167 with|true=>(match Nat.blt n 166 with|true=>{ kind:=.array,agg:=true,sz:=0,zero:=[],val:=some 16,alen:=0 }|false=>{ kind:=.struct,agg:=true,sz:=0,zero:=[],flds:=[(0,0)],fty:=[165] })|false=>(match Nat.blt n 168 with|true=>{ kind:=.struct,agg:=true,sz:=0,zero:=[],flds:=[(0,0)],fty:=[165] }|false=>(match Nat.blt n 169 with|true=>{ sz:=1,zero:=[.nilFunc] }|false=>{ kind:=.int .u8,sz:=1,zero:=[.int .u8 0] })))|false=>(match Nat.blt n 173 with|true=>(match Nat.blt n 171 with|true=>{ kind:=.int .u8,sz:=1,zero:=[.int .u8 0] }|false=>(match Nat.blt n 172 with|true=>{ sz:=1,zero:=[.nilFunc] }|false=>{ kind:=.int .i32,sz:=1,zero:=[.int .i32 0] }))|false=>(match Nat.blt n 174 with|true=>{ kind:=.int .i32,sz:=1,zero:=[.int .i32 0] }|false=>(match Nat.blt n 175 with|true=>{ kind:=.struct,agg:=true,sz:=11,zero:=[.int .u64 0,.int .u64 0,.int .u32 0,.int .u8 0,.int .u8 0,.int .u8 0,.int .u8 0,.nilFunc,.pointer none,.int .i32 0,.int .i32 0],flds:=[(0,1),(1,1),(2,1),(3,1),(4,1),(5,1),(6,1),(7,1),(8,1),(9,1),(10,1)],fty:=[12,12,155,169,5,5,170,171,97,172,173] }|false=>{ kind:=.struct,agg:=true,sz:=11,zero:=[.int .u64 0,.int .u64 0,.int .u32 0,.int .u8 0,.int .u8 0,.int .u8 0,.int .u8 0,.nilFunc,.pointer none,.int .i32 0,.int .i32 0],flds:=[(0,1),(1,1),(2,1),(3,1),(4,1),(5,1),(6,1),(7,1),(8,1),(9,1),(10,1)],fty:=[12,12,155,169,5,5,170,171,97,172,173] })))))))
def skeys:List Nat:=[47]
def skeyOk (P:Program) (t:Nat):Bool:=(!P.stoodInHeld t && !P.eqGuardType P.depth t) && (match P.underlying t with | some (.struct fs)=>fs.toList.all (fun f=>f.name != "_") | _=>false)
theorem skeysOk:∀ t ∈ skeys,skeyOk Tryz.prog t = true:=List.forall_mem_cons.2 ⟨by kernel_rfl,(fun _ h=>by cases h)⟩
def known:List Nat:=[1,2,3,4,5,6,7,8,9,10,11,12,13,14,15,16,17,18,19,20,21,22,23,24,25,26,27,28,30,31,32,34,36,37,38,39,41,42,43,44,45,46,47,48,49,50,51,52,53,54,55,56,57,58,59,60,61,62,64,65,67,69,70,72,73,74,75,76,77,78,79,80,81,83,84,85,86,87,88,89,90,91,92,93,95,96,97,99,100,101,102,104,105,106,107,109,110,111,112,114,115,116,117,118,119,120,121,123,124,125,127,128,129,130,131,132,133,134,135,137,139,140,141,142,143,144,146,147,148,149,150,151,152,153,154,155,157,158,159,160,161,163,164,165,166,167,168,169,170,171,172,173,174,175]
def tyKnown (t:Nat):Bool:=known.contains t
def tabsOf:List (String × IntKind × List Int):=[("internal/strconv.uint64pow10",.u64,[1,10,100,1000,10000,100000,1000000,10000000,100000000,1000000000,10000000000,100000000000,1000000000000,10000000000000,100000000000000,1000000000000000,10000000000000000,100000000000000000,1000000000000000000,10000000000000000000]),("math/bits.deBruijn32tab",.u8,[0,1,28,2,29,14,24,3,30,22,20,15,25,17,4,8,31,27,13,23,21,19,16,7,26,12,18,6,11,5,10,9]),("math/bits.deBruijn64tab",.u8,[0,1,56,2,57,49,28,3,61,58,42,50,38,29,17,4,62,47,59,36,45,43,51,22,53,39,33,30,24,18,12,5,63,55,48,27,60,41,37,16,46,35,44,21,52,32,23,11,54,26,40,15,34,20,31,10,25,14,19,9,13,8,7,6])]
def tyL (P:Program) (t:Nat) (i:TI):Option TypeDesc × Option (List (Nat × Option Nat) × List Nat) × Bool:=match i.kind with
 | .slice=>(P.underlying t,none,i.elem.isSome)
 | .ptr | .array=>(P.underlying t,none,i.val.isSome)
 | .map=>(P.underlying t,none,i.key.isSome && i.val.isSome)
 | .struct=>(none,fldsOf P (P.underlying t),true)
 | .other=>(none,none,true)
 | _=>(P.underlying t,none,true)
def tyR (i:TI):Option TypeDesc × Option (List (Nat × Option Nat) × List Nat) × Bool:=match i.kind with
 | .int k=>(some (.int k),none,true)
 | .bool=>(some .bool,none,true)
 | .str=>(some .string,none,true)
 | .slice=>(i.elem.map .slice,none,true)
 | .ptr=>(i.val.map .pointer,none,true)
 | .array=>(i.val.map (.array i.alen),none,true)
 | .map=>(i.key.bind fun k=>i.val.map fun e=>.map k e,none,true)
 | .struct=>(none,some (i.flds.map (fun x=>(x.1,some x.2)),i.fty),true)
 | .other=>(none,none,true)
def tyKey (P:Program) (t:Nat) (i:TI):=((P.info? t).map (fun x=>(x.size,x.zero.map Value.cells)),i.zero.length,((P.info? t).bind (·.zero)).map isAggV,(P.info? t).map (fun x=>decide (x.bytes ≤ 1024)),aggOf (P.underlying t),tyL P t i,(match i.kind with | .slice=>true | _=>i.elem.isNone),(match i.kind with | .struct=>true | _=>i.flds.isEmpty))
def tyVal (i:TI):Option (Nat × Option (Array Value)) × Nat × Option Bool × Option Bool × Option Bool × (Option TypeDesc × Option (List (Nat × Option Nat) × List Nat) × Bool) × Bool × Bool:=(some (i.sz,some i.zero.toArray),i.sz,some i.agg,some true,some i.agg,tyR i,true,true)
theorem TyOk.of {P:Program} {t:Nat} {i:TI} (h:tyKey P t i = tyVal i):TyOk P t i:=by
 unfold tyKey tyVal at h
 simp only [Prod.mk.injEq] at h
 obtain ⟨h1,h2,h3,h4,h5,h6,h7,h8⟩:=h
 refine ⟨h1,h2,h3,h4,h5,?_,h7,h8⟩
 unfold tyL tyR at h6
 unfold kindOk
 cases hk:i.kind <;> simp only [hk,Prod.mk.injEq,Bool.and_eq_true,and_true,true_and] at h6 ⊢ <;> first | exact h6 | trivial
theorem tyEqs:known.map (fun t=>tyKey Tryz.prog t (ty t)) = known.map (fun t=>tyVal (ty t)):=by kernel_rfl
theorem map_eqs {α β:Type} {f g:α → β}:∀ {l:List α},l.map f = l.map g → ∀ x ∈ l,f x = g x
 | a :: l,h,x,hx=>by
  rw [List.map_cons,List.map_cons] at h
  injection h with h1 h2
  cases hx with
  | head=>exact h1
  | tail _ hx=>exact map_eqs h2 x hx
theorem tyOk (t:Nat) (h:tyKnown t = true):TyOk Tryz.prog t (ty t):=TyOk.of (map_eqs tyEqs t (by unfold tyKnown at h;simpa using h))
inductive D where
 | sc (v:Value)
 | sl (sz:Nat) (rows:List (List D))
inductive R where
 | one (x:D)
 | ag (xs:List D)
inductive V where
 | d (x:D)
 | ag (cs:List V)
 | tu (vs:List V)
 | em
 | own (k:Nat)
 | ptr (k off:Nat)
 | cl (f:Nat) (ks:List Nat)
 | el (k:Nat) (i:Int) (sz off:Nat)
 | ro (cs:List D) (off:Nat)
 | mp (k:Nat)
 | bs (k n:Nat)
 | jk
inductive O where
 | box (cs:List V)
 | row (z:Bool) (e:Nat) (rows:List (List D))
 | mp (kt:Nat) (es:List (R × R))
 | kl (ks:List Nat)
 | it (P:World → Value → List Nat → Prop)
 | ob (T:Nat) (vs:List Value)
 | dead
structure S where
 t:List V
 o:List O
inductive X where
 | normal
 | exit (id:Nat)
 | ret
def roundX (N:S → Prop) (K:X → S → Prop):X → S → Prop
 | .normal,s=>N s
 | .exit i,s=>K (.exit i) s
 | .ret,s=>K .ret s
structure Ar where
 wrap:IntKind → Int → Int
 add:Int → Int → Int
 sub:Int → Int → Int
 mul:Int → Int → Int
 quo:Int → Int → Int
 rem:Int → Int → Int
 bits:BinOp → IntKind → Int → IntKind → Int → Option Int
 lt:Int → Int → Bool
 le:Int → Int → Bool
 eq:Int → Int → Bool
 nz:Int → Prop → Prop
 seq:List UInt8 → List UInt8 → Bool
 slt:List UInt8 → List UInt8 → Bool
 bytes:ByteArray → List UInt8
 cat:ByteArray → ByteArray → ByteArray
 fits:ByteArray → ByteArray → Prop → Prop
 slen:ByteArray → Int
 sget:ByteArray → Int → Option Int
 ssub:ByteArray → Int → Int → Option ByteArray
 txt:List (List D) → Option ByteArray
 byt:ByteArray → List (List D)
 nat:Int → Nat → Option Nat
 len:List (List D) → Int
 get:List (List D) → Int → Option (List D)
 sub2:List (List D) → Int → Int → Option (List (List D))
 app:List (List D) → List (List D) → List (List D)
 set:List (List D) → Int → List D → List (List D)
 room:List (List D) → List (List D) → Prop → Prop
 mlook:List (R × R) → R → Option R
 mput:List (R × R) → R → R → List (R × R)
 deq:List D → List D → Bool
 rep:Int → List D → (List (List D) → Prop) → Prop
 call:Nat → List R → (List R → Prop) → Prop
 calld:Nat → List V → List O → (V → Prop) → Prop
 callo:Nat → List V → S → (V → S → Prop) → Prop
 callx:Nat → List V → List Nat → S → (V → S → Prop) → Prop
 new:Nat → (Bool → Prop) → Prop
 lit:Nat → (Bool → Prop) → Prop
 keep:Nat → (List V → List O → Prop) → List V → S → Prop
 next:(S → Prop) → S → Prop
 ext:Op → Option Nat → S → (S → Prop) → Prop
 reg:Array Oper → S → (S → Prop) → Prop
 loop:Code → (S → (X → S → Prop) → Prop) → S → (X → S → Prop) → Prop
def getN:List V → Nat → V
 | [],_=>.jk
 | x :: _,0=>x
 | _ :: l,n + 1=>getN l n
def setN:List V → Nat → V → List V
 | [],_,_=>[]
 | _ :: l,0,v=>v :: l
 | x :: l,n + 1,v=>x :: setN l n v
def getO:List O → Nat → O
 | [],_=>.dead
 | x :: _,0=>x
 | _ :: l,n + 1=>getO l n
def setO:List O → Nat → O → List O
 | [],_,_=>[]
 | _ :: l,0,v=>v :: l
 | x :: l,n + 1,v=>x :: setO l n v
def snocO:List O → O → List O
 | [],v=>[v]
 | x :: l,v=>x :: snocO l v
def lenO:List O → Nat
 | []=>0
 | _ :: l=>lenO l + 1
def dropN {α:Type}:Nat → List α → List α
 | 0,l=>l
 | _ + 1,[]=>[]
 | n + 1,_ :: l=>dropN n l
def takeN {α:Type}:Nat → List α → Option (List α)
 | 0,_=>some []
 | _ + 1,[]=>none
 | n + 1,x :: l=>match takeN n l with | some t=>some (x :: t) | none=>none
def lenL {α:Type}:List α → Nat
 | []=>0
 | _ :: l=>lenL l + 1
def eqN:Nat → Nat → Bool
 | 0,0=>true
 | n + 1,m + 1=>eqN n m
 | _,_=>false
def splice {α:Type}:List α → Nat → List α → Option (List α)
 | l,0,[]=>some l
 | _ :: l,0,y :: ys=>match splice l 0 ys with | some t=>some (y :: t) | none=>none
 | x :: l,n + 1,ys=>match splice l n ys with | some t=>some (x :: t) | none=>none
 | [],_ + 1,_=>none
 | [],0,_ :: _=>none
def one1:V → Bool
 | .d _=>true
 | .em=>true
 | .own _=>true
 | .ptr _ _=>true
 | .cl _ _=>true
 | .el _ _ _ _=>true
 | .ro _ _=>true
 | .mp _=>true
 | .bs _ _=>true
 | _=>false
def ones:List V → Bool
 | []=>true
 | x :: l=>match one1 x with | true=>ones l | false=>false
def cellsV:V → Option (List V)
 | .ag l=>match ones l with | true=>some l | false=>none
 | .jk=>none
 | .tu _=>none
 | x=>some [x]
def ofD:List D → List V
 | []=>[]
 | x :: l=>.d x :: ofD l
def resR:R → V
 | .one x=>.d x
 | .ag xs=>.ag (ofD xs)
def resRs:List R → List V
 | []=>[]
 | x :: l=>resR x :: resRs l
def resV:List R → V
 | [r]=>resR r
 | rs=>.tu (resRs rs)
def toD (os:List O):V → Option D
 | .d x=>some x
 | .cl f []=>some (.sc (.func (.func f) #[] #[]))
 | .em=>some (.sl 0 [])
 | .own k=>match getO os k with | .row true e rows=>some (.sl (ty e).sz rows) | _=>none
 | _=>none
def toDs (os:List O):List V → Option (List D)
 | []=>some []
 | x :: l=>match toD os x with
  | some y=>match toDs os l with | some ys=>some (y :: ys) | none=>none
  | none=>none
def toR (os:List O):V → Option R
 | .ag l=>match toDs os l with | some ys=>some (.ag ys) | none=>none
 | x=>match toD os x with | some y=>some (.one y) | none=>none
def toRs (os:List O):List V → Option (List R)
 | []=>some []
 | x :: l=>match toR os x with
  | some y=>match toRs os l with | some ys=>some (y :: ys) | none=>none
  | none=>none
def kill1 (k:Nat):V → V
 | .own j=>match eqN j k with | true=>.jk | false=>.own j
 | .el j i sz off=>match eqN j k with | true=>.jk | false=>.el j i sz off
 | .ag _=>.jk
 | .tu _=>.jk
 | x=>x
def killL (k:Nat):List V → List V
 | []=>[]
 | x :: l=>kill1 k x :: killL k l
def kill2 (k:Nat):V → V
 | .ag cs=>.ag (killL k cs)
 | .tu []=>.tu []
 | .tu _=>.jk
 | x=>kill1 k x
def killT (k:Nat):List V → List V
 | []=>[]
 | x :: l=>kill2 k x :: killT k l
def killO (k:Nat):List O → List O
 | []=>[]
 | .box cs :: l=>.box (killL k cs) :: killO k l
 | .kl ks :: l=>.kl (k :: ks) :: killO k l
 | x :: l=>x :: killO k l
def constV:Value → V
 | .slice none 0 0=>.em
 | .agg _=>.jk
 | .tuple _=>.jk
 | v=>.d (.sc v)
def constL:List Value → List V
 | []=>[]
 | x :: l=>constV x :: constL l
def S.get (s:S):Operand → V
 | .tmp i=>getN s.t i
 | .const v=>constV v
 | .func f=>.cl f []
 | .global _=>.jk
def S.put (s:S) (d:Option Nat) (v:V):S:=match d with
 | some i=>⟨setN s.t i v,s.o⟩
 | none=>s
def S.obj (s:S) (o:O):S:=⟨s.t,snocO s.o o⟩
def S.fresh (m:Bool) (s:S) (o:O):S:=match m with
 | true=>s.obj o
 | false=>⟨killT (lenO s.o) s.t,snocO (killO (lenO s.o) s.o) o⟩
def vb (b:Bool):V:=.d (.sc (.bool b))
def vi (k:IntKind) (n:Int):V:=.d (.sc (.int k n))
def vs (s:ByteArray):V:=.d (.sc (.string s))
def keq:IntKind → IntKind → Bool
 | .i8,.i8=>true
 | .i16,.i16=>true
 | .i32,.i32=>true
 | .i64,.i64=>true
 | .u8,.u8=>true
 | .u16,.u16=>true
 | .u32,.u32=>true
 | .u64,.u64=>true
 | _,_=>false
def notB:Bool → Bool
 | true=>false
 | false=>true
def bEq:Bool → Bool → Bool
 | true,true=>true
 | false,false=>true
 | _,_=>false
def orB:Bool → Bool → Bool
 | true,_=>true
 | false,b=>b
def binInt (a:Ar) (k:IntKind) (x y:Int) (K:V → Prop):BinOp → Prop
 | .add=>K (vi k (a.wrap k (a.add x y)))
 | .sub=>K (vi k (a.wrap k (a.sub x y)))
 | .mul=>K (vi k (a.wrap k (a.mul x y)))
 | .quo=>a.nz y (K (vi k (a.wrap k (a.quo x y))))
 | .rem=>a.nz y (K (vi k (a.rem x y)))
 | .eql=>K (vb (a.eq x y))
 | .neq=>K (vb (notB (a.eq x y)))
 | .lss=>K (vb (a.lt x y))
 | .leq=>K (vb (a.le x y))
 | .gtr=>K (vb (a.lt y x))
 | .geq=>K (vb (a.le y x))
 | _=>False
def binStr (a:Ar) (x y:ByteArray) (K:V → Prop):BinOp → Prop
 | .add=>a.fits x y (K (vs (a.cat x y)))
 | .eql=>K (vb (a.seq (a.bytes x) (a.bytes y)))
 | .neq=>K (vb (notB (a.seq (a.bytes x) (a.bytes y))))
 | .lss=>K (vb (a.slt (a.bytes x) (a.bytes y)))
 | .gtr=>K (vb (notB (orB (a.slt (a.bytes x) (a.bytes y)) (a.seq (a.bytes x) (a.bytes y)))))
 | .leq=>K (vb (orB (a.slt (a.bytes x) (a.bytes y)) (a.seq (a.bytes x) (a.bytes y))))
 | .geq=>K (vb (notB (a.slt (a.bytes x) (a.bytes y))))
 | _=>False
def isBit:BinOp → Bool
 | .and=>true
 | .or=>true
 | .xor=>true
 | .andNot=>true
 | .shl=>true
 | .shr=>true
 | _=>false
def optI (k:IntKind) (K:V → Prop):Option Int → Prop
 | some n=>K (vi k n)
 | none=>False
def bitsI (op:BinOp) (k:IntKind) (x:Int) (k':IntKind) (y:Int):Option Int:=match op with
 | .shl=>match y with | .ofNat n=>some (k.wrap (x * 2 ^ (min n k.bits))) | .negSucc _=>none
 | .shr=>match y with | .ofNat n=>some (x.fdiv (2 ^ (min n k.bits))) | .negSucc _=>none
 | .and=>match keq k k' with | true=>some (k.wrap (BitVec.ofInt k.bits x &&& BitVec.ofInt k.bits y).toNat) | false=>none
 | .or=>match keq k k' with | true=>some (k.wrap (BitVec.ofInt k.bits x ||| BitVec.ofInt k.bits y).toNat) | false=>none
 | .xor=>match keq k k' with | true=>some (k.wrap (BitVec.ofInt k.bits x ^^^ BitVec.ofInt k.bits y).toNat) | false=>none
 | .andNot=>match keq k k' with | true=>some (k.wrap (BitVec.ofInt k.bits x &&& ~~~BitVec.ofInt k.bits y).toNat) | false=>none
 | _=>none
def binVal (a:Ar) (op:BinOp):Value → Value → (V → Prop) → Prop
 | .int k x,.int k' y,K=>match isBit op with
  | true=>optI k K (a.bits op k x k' y)
  | false=>match keq k k' with | true=>binInt a k x y K op | false=>False
 | .string x,.string y,K=>binStr a x y K op
 | _,_,_=>False
def nilEq (b:Bool) (K:V → Prop):BinOp → Prop
 | .eql=>K (vb b)
 | .neq=>K (vb (notB b))
 | _=>False
def isNilP:V → Bool
 | .d (.sc (.pointer none))=>true
 | _=>false
def isSlK:TK → Bool
 | .slice=>true
 | _=>false
def scalarB:TK → D → Bool
 | .int k,.sc (.int k' _)=>keq k k'
 | .str,.sc (.string _)=>true
 | .bool,.sc (.bool _)=>true
 | _,_=>false
def scalarsB:List Nat → List (Nat × Nat) → Nat → List D → Bool
 | [],[],_,[]=>true
 | u :: us,(off,1) :: fs,n,d :: ds=>match eqN off n with
  | true=>match scalarB (ty u).kind d with | true=>scalarsB us fs (n + 1) ds | false=>false
  | false=>false
 | _,_,_,_=>false
def natEq:Nat → Nat → Bool:=Nat.beq
def intEq:Int → Int → Bool
 | .ofNat m,.ofNat n=>natEq m n
 | .negSucc m,.negSucc n=>natEq m n
 | _,_=>false
def bytesEq:List UInt8 → List UInt8 → Bool
 | [],[]=>true
 | x :: l,y :: m=>match natEq x.toNat y.toNat with | true=>bytesEq l m | false=>false
 | _,_=>false
def dEq:D → D → Bool
 | .sc (.int _ m),.sc (.int _ n)=>intEq m n
 | .sc (.string x),.sc (.string y)=>bytesEq x.data.toList y.data.toList
 | .sc (.bool x),.sc (.bool y)=>bEq x y
 | _,_=>false
def dsEq:List D → List D → Bool
 | [],[]=>true
 | x :: l,y :: m=>match dEq x y with | true=>dsEq l m | false=>false
 | _,_=>false
def skeyB (t:Nat):List Nat → Bool
 | []=>false
 | u :: l=>match eqN u t with | true=>true | false=>skeyB t l
def keyB (t:Nat):R → Bool
 | .one d=>scalarB (ty t).kind d
 | .ag ds=>match (ty t).kind with | .struct=>(match skeyB t skeys with | true=>scalarsB (ty t).fty (ty t).flds 0 ds | false=>false) | _=>false
def plainDs:List V → Option (List D)
 | []=>some []
 | .d x :: l=>match plainDs l with | some ys=>some (x :: ys) | none=>none
 | _=>none
def binV (a:Ar) (op:BinOp) (t:Nat):V → V → (V → Prop) → Prop
 | .d (.sc x),.d (.sc y),K=>match (ty t).kind with
  | .ptr=>match x,y with
   | .pointer none,.pointer none=>nilEq true K op
   | _,_=>False
  | .bool=>match x,y with
   | .bool b,.bool c=>nilEq (bEq b c) K op
   | _,_=>False
  | _=>binVal a op x y K
 | .ptr _ _,y,K=>match (ty t).kind with
  | .ptr=>match isNilP y with | true=>nilEq false K op | false=>False
  | _=>False
 | x,.ptr _ _,K=>match (ty t).kind with
  | .ptr=>match isNilP x with | true=>nilEq false K op | false=>False
  | _=>False
 | .d (.sl _ rows),.em,K=>match isSlK (ty t).kind with | true=>a.nz (a.len rows) (nilEq false K op) | false=>False
 | .em,.em,K=>match isSlK (ty t).kind with | true=>nilEq true K op | false=>False
 | .ag xs,.ag ys,K=>match plainDs xs,plainDs ys with
  | some ds,some es=>match keyB t (.ag ds) with
   | true=>match keyB t (.ag es) with | true=>nilEq (a.deq ds es) K op | false=>False
   | false=>False
  | _,_=>False
 | _,_,_=>False
def unV (a:Ar):UnOp → V → (V → Prop) → Prop
 | .not,.d (.sc (.bool b)),K=>K (vb (notB b))
 | .neg,.d (.sc (.int k n)),K=>K (vi k (a.wrap k (a.sub 0 n)))
 | _,_,_=>False
def byteV:Value → Option UInt8
 | .int k n=>match keq k .u8 with | true=>some (UInt8.ofNat n.toNat) | false=>none
 | _=>none
def byteR:List D → Option UInt8
 | [.sc v]=>byteV v
 | _=>none
def bytesB:List (List D) → Option (List UInt8)
 | []=>some []
 | r :: l=>match byteR r with
  | some c=>match bytesB l with | some t=>some (c :: t) | none=>none
  | none=>none
def bytesOf (rows:List (List D)):Option ByteArray:=match bytesB rows with | some l=>some ⟨⟨l⟩⟩ | none=>none
def rowsB (s:ByteArray):List (List D):=s.data.toList.map fun c=>[.sc (.int .u8 (c.toNat:Int))]
def convI (a:Ar) (K:V → Prop) (k:IntKind):V → Prop
 | .d (.sc (.int _ n))=>K (vi k (a.wrap k n))
 | _=>False
def optT (K:V → Prop):Option ByteArray → Prop
 | some s=>K (vs s)
 | none=>False
def isStK:TK → Bool
 | .str=>true
 | _=>false
def convT (a:Ar) (K:V → Prop) (b:Bool):V → Prop
 | .d (.sc (.string s))=>K (vs s)
 | .d (.sl _ rows)=>match b with | true=>optT K (a.txt rows) | false=>False
 | .em=>match b with | true=>K (vs ⟨⟨[]⟩⟩) | false=>False
 | _=>False
def convB (a:Ar) (K:V → Prop) (b:Bool):V → Prop
 | .d (.sc (.string s))=>match b with | true=>K (.d (.sl 1 (a.byt s))) | false=>False
 | _=>False
def convV (a:Ar) (K:V → Prop) (k0 k:TK) (x:V):Prop:=match k with
 | .int j=>convI a K j x
 | .str=>convT a K (isSlK k0) x
 | .slice=>convB a K (isStK k0) x
 | _=>False
def pack:Bool → List V → Option V
 | true,l=>some (.ag l)
 | false,[x]=>some x
 | false,_=>none
def fillV (g:Operand → V) (place:List (Nat × Nat)):List (Nat × Operand) → List V → Option (List V)
 | [],l=>some l
 | (i,x) :: ps,l=>match takeN 1 (dropN i place) with
  | some [(off,sz)]=>match cellsV (g x) with
   | some cs=>match eqN (lenL cs) sz with
    | true=>match splice l off cs with
     | some l'=>fillV g place ps l'
     | none=>none
    | false=>none
   | none=>none
  | _=>none
def places (sz:Nat):Nat → Nat → List (Nat × Nat)
 | 0,_=>[]
 | n + 1,off=>(off,sz) :: places sz n (off + sz)
def zeros (z:List V):Nat → List V → List V
 | 0,acc=>acc
 | n + 1,acc=>zeros z n (z ++ acc)
def chunks (sz:Nat):Nat → List D → Option (List (List D))
 | 0,[]=>some []
 | 0,_ :: _=>none
 | n + 1,l=>match takeN sz l with
  | some r=>match chunks sz n (dropN sz l) with
   | some rs=>some (r :: rs)
   | none=>none
  | none=>none
def lenS (a:Ar) (os:List O) (K:V → Prop):V → Prop
 | .d (.sl _ rows)=>K (vi .i64 (a.len rows))
 | .em=>K (vi .i64 0)
 | .own k=>match getO os k with | .row _ _ rows=>K (vi .i64 (a.len rows)) | _=>False
 | .bs _ n=>K (vi .i64 (.ofNat n))
 | _=>False
def lenT (a:Ar) (K:V → Prop):V → Prop
 | .d (.sc (.string x))=>K (vi .i64 (a.slen x))
 | _=>False
def lenV (a:Ar) (os:List O) (K:V → Prop) (k:TK) (x:V):Prop:=match k with
 | .slice=>lenS a os K x
 | .str=>lenT a K x
 | _=>False
def rowsV (os:List O):V → Option (Option Nat × List (List D))
 | .d (.sl sz rows)=>some (some sz,rows)
 | .em=>some (none,[])
 | .own k=>match getO os k with | .row true e rows=>some (some (ty e).sz,rows) | _=>none
 | _=>none
def szOk (sz:Nat):Option Nat → Bool
 | none=>true
 | some n=>eqN n sz
def rawV (os:List O):V → Option (Nat × Nat × List (List D))
 | .own k=>match getO os k with | .row false e rows=>some (k,e,rows) | _=>none
 | _=>none
def arrAddrV (K:V → Prop) (o:Nat):V → Prop
 | .ptr k off=>K (.ptr k (off + o))
 | .el k i sz off=>K (.el k i sz (off + o))
 | .ro cs off=>K (.ro cs (off + o))
 | _=>False
def bsV:V → Option (Nat × Nat)
 | .bs k n=>some (k,n)
 | _=>none
def indexAddrV (a:Ar) (os:List O) (K:V → Prop) (t:Nat) (x i:V):Prop:=match i with
  | .d (.sc (.int _ n))=>match (ty t).kind with
   | .array=>match (ty t).val with
    | some e=>match a.nat n (ty t).alen with
      | some j=>arrAddrV K (j * (ty e).sz) x
      | none=>False
    | none=>False
   | _=>match (ty t).elem with
    | some e=>match bsV x with
     | some (k,m)=>match a.nat n m with | some j=>K (.ptr k (j * (ty e).sz)) | none=>False
     | none=>match rawV os x with
       | some (k,e',rows)=>match eqN e' e with
        | true=>match a.get rows n with | some _=>K (.el k n (ty e).sz 0) | none=>False
        | false=>False
       | none=>match rowsV os x with
        | some (some sz,rows)=>match eqN sz (ty e).sz with
          | true=>match a.get rows n with | some row=>K (.ro row 0) | none=>False
          | false=>False
        | _=>False
    | none=>False
  | _=>False
def loadV (a:Ar) (os:List O) (K:V → Prop) (t:Nat):V → Prop
 | .ptr k off=>match getO os k with
  | .box cs=>match takeN (ty t).sz (dropN off cs) with
   | some l=>match pack (ty t).agg l with | some x=>K x | none=>False
   | none=>False
  | _=>False
 | .ro cs off=>match takeN (ty t).sz (dropN off cs) with
  | some l=>match pack (ty t).agg (ofD l) with | some x=>K x | none=>False
  | none=>False
 | .el k i sz off=>match getO os k with
  | .row _ e rows=>match eqN (ty e).sz sz with
   | true=>match a.get rows i with
    | some row=>match takeN (ty t).sz (dropN off row) with
     | some l=>match pack (ty t).agg (ofD l) with | some x=>K x | none=>False
     | none=>False
    | none=>False
   | false=>False
  | _=>False
 | _=>False
def fieldV (K:V → Prop) (t i:Nat) (x:V):Prop:=match takeN 1 (dropN i (ty t).flds) with
 | some [(off,_ + 1)]=>match x with
  | .ptr k o=>K (.ptr k (o + off))
  | .ro cs o=>K (.ro cs (o + off))
  | .el k i sz o=>K (.el k i sz (o + off))
  | _=>False
 | _=>False
def partV (K:V → Prop) (t i:Nat) (x:V):Prop:=match takeN 1 (dropN i (ty t).fty),takeN 1 (dropN i (ty t).flds),x with
 | some [u],some [(off,_)],.ag cs=>match takeN (ty u).sz (dropN off cs) with
  | some l=>match pack (ty u).agg l with | some x=>K x | none=>False
  | none=>False
 | _,_,_=>False
def getVs (g:Operand → V):List Operand → List V
 | []=>[]
 | x :: l=>g x :: getVs g l
def callV (a:Ar) (os:List O) (K:V → Prop) (f:Nat) (vs:List V):Prop:=match toRs os vs with
 | some rs=>a.call f rs (fun q=>K (resV q))
 | none=>a.calld f vs os K
def getOpt (g:Operand → V):Option Operand → Option V
 | none=>none
 | some x=>some (g x)
def bound (n:Int):Option V → Option Int
 | none=>some n
 | some (.d (.sc (.int _ n)))=>some n
 | _=>none
def sliceV (a:Ar) (os:List O) (K:V → Prop) (t:Nat) (x:V) (lo hi:Option V):Prop:=match bound 0 lo with
 | some l=>match (ty t).kind with
  | .str=>match x with
   | .d (.sc (.string b))=>match bound (a.slen b) hi with
    | some h=>match a.ssub b l h with | some c=>K (vs c) | none=>False
    | none=>False
   | _=>False
  | .slice=>match (ty t).elem with
   | some e=>match rowsV os x with
    | some (sz,rows)=>match szOk (ty e).sz sz with
     | true=>match bound (a.len rows) hi with
      | some h=>match a.sub2 rows l h with | some rs=>K (.d (.sl (ty e).sz rs)) | none=>False
      | none=>False
     | false=>False
    | none=>False
   | none=>False
  | _=>False
 | none=>False
def indexV (a:Ar) (K:V → Prop) (t:Nat):V → V → Prop
 | .ag cs,.d (.sc (.int _ n))=>match (ty t).kind with
  | .array=>match (ty t).val with
   | some e=>match a.nat n (ty t).alen with
    | some j=>match takeN (ty e).sz (dropN (j * (ty e).sz) cs) with
     | some l=>match pack (ty e).agg l with | some x=>K x | none=>False
     | none=>False
    | none=>False
   | none=>False
  | _=>False
 | .d (.sc (.string b)),.d (.sc (.int _ n))=>match (ty t).kind with
  | .str=>match a.sget b n with | some c=>K (vi .u8 c) | none=>False
  | _=>False
 | _,_=>False
def buildV (g:Operand → V) (K:V → Prop) (t:Nat) (ps:List (Nat × Operand)):Prop:=match (ty t).kind with
 | .struct=>match fillV g (ty t).flds ps (constL (ty t).zero) with
  | some l=>K (.ag l)
  | none=>False
 | .array=>match (ty t).val with
  | some e=>match fillV g (places (ty e).sz (ty t).alen 0) ps (constL (ty t).zero) with
   | some l=>K (.ag l)
   | none=>False
  | none=>False
 | _=>False
def buildSliceV (g:Operand → V) (os:List O) (K:V → Prop) (t n:Nat) (ps:List (Nat × Operand)):Prop:=match (ty t).elem with
 | some e=>match n with
  | 0=>False
  | n + 1=>match fillV g (places (ty e).sz (n + 1) 0) ps (zeros (constL (ty e).zero) (n + 1) []) with
   | some l=>match toDs os l with
    | some ds=>match chunks (ty e).sz (n + 1) ds with
     | some rows=>K (.d (.sl (ty e).sz rows))
     | none=>False
    | none=>False
   | none=>False
 | none=>False
def extractV (K:V → Prop) (i:Nat):V → Prop
 | .tu vs=>match takeN 1 (dropN i vs) with | some [v]=>K v | _=>False
 | _=>False
def pickV (K:V → Prop) (x y:V):V → Prop
 | .d (.sc (.bool b))=>K (match b with | true=>x | false=>y)
 | _=>False
def ptrsV:List V → Option (List Nat)
 | []=>some []
 | .ptr k 0 :: l=>match ptrsV l with | some ks=>some (k :: ks) | none=>none
 | _=>none
def rEq:R → R → Bool
 | .one x,.one y=>dEq x y
 | .ag xs,.ag ys=>dsEq xs ys
 | _,_=>false
def mget:List (R × R) → R → Option R
 | [],_=>none
 | (k,v) :: l,r=>match rEq k r with | true=>some v | false=>mget l r
def mset:List (R × R) → R → R → List (R × R)
 | [],r,q=>[(r,q)]
 | (k,v) :: l,r,q=>match rEq k r with | true=>(k,q) :: l | false=>(k,v) :: mset l r q
def keyV (os:List O) (t:Nat) (x:V):Option R:=match toR os x with
 | some r=>match keyB t r with | true=>some r | false=>none
 | none=>none
def commaV (K:V → Prop) (ok b:Bool) (x:V):Prop:=match ok with | true=>K (.tu [x,vb b]) | false=>K x
def zeroK (K:V → Prop) (ok:Bool) (e:Nat):Prop:=match pack (ty e).agg (constL (ty e).zero) with
 | some z=>commaV K ok false z
 | none=>False
def lookV (a:Ar) (os:List O) (K:V → Prop) (t:Nat) (ok:Bool) (x i:V):Prop:=match (ty t).kind with
 | .map=>match (ty t).key,(ty t).val with
  | some kt,some e=>match keyV os kt i with
   | some r=>match x with
    | .mp k=>match getO os k with
     | .mp kt' es=>match eqN kt' kt with
      | true=>match a.mlook es r with
       | some q=>commaV K ok true (resR q)
       | none=>zeroK K ok e
      | false=>False
     | _=>False
    | .d (.sc (.map none))=>zeroK K ok e
    | _=>False
   | none=>False
  | _,_=>False
 | _=>False
def minV (a:Ar) (K:V → Prop) (mx:Bool):List V → Prop
 | [.d (.sc (.int k x)),.d (.sc (.int k' y))]=>match keq k k' with
  | true=>match mx with
   | true=>K (vi k (match a.lt x y with | true=>y | false=>x))
   | false=>K (vi k (match a.lt y x with | true=>y | false=>x))
  | false=>False
 | _=>False
def nnV (K:V → Prop):V → Prop
 | .ptr k off=>K (.ptr k off)
 | .cl f ks=>K (.cl f ks)
 | .el k i sz off=>K (.el k i sz off)
 | .ro cs off=>K (.ro cs off)
 | _=>False
def fnV:V → Option (Nat × List Nat)
 | .cl f ks=>some (f,ks)
 | .d (.sc (.func (.func f) ⟨[]⟩ ⟨[]⟩))=>some (f,[])
 | _=>none
def caps:List Nat → List V
 | []=>[]
 | k :: l=>.ptr k 0 :: caps l
def appV:List V → List V → List V
 | [],m=>m
 | x :: l,m=>x :: appV l m
def callTV (a:Ar) (os:List O) (K:V → Prop) (x:V) (vs:List V):Prop:=match fnV x with
 | some (f,ks)=>callV a os K f (appV vs (caps ks))
 | none=>False
def stepC (a:Ar) (g:Operand → V) (os:List O) (K:V → Prop):Op → Prop
 | .move x=>K (g x)
 | .assign x=>K (g x)
 | .pick c x y=>pickV K (g x) (g y) (g c)
 | .load t x=>loadV a os K t (g x)
 | .fieldAddr t x i=>fieldV K t i (g x)
 | .field t x i=>partV K t i (g x)
 | .indexAddr t x i=>indexAddrV a os K t (g x) (g i)
 | .index t x i=>indexV a K t (g x) (g i)
 | .binOp op t x y _=>binV a op t (g x) (g y) K
 | .unOp op _ x=>unV a op (g x) K
 | .convert t0 t x=>convV a K (ty t0).kind (ty t).kind (g x)
 | .build t ps=>buildV g K t ps.toList
 | .buildSlice t n ps=>buildSliceV g os K t n ps.toList
 | .extract x i=>extractV K i (g x)
 | .slice t x lo hi none=>sliceV a os K t (g x) (getOpt g lo) (getOpt g hi)
 | .call ⟨.builtin .len,⟨[x]⟩,⟨[t]⟩⟩=>lenV a os K (ty t).kind (g x)
 | .call ⟨.value (.func f),args,_⟩=>callV a os K f (getVs g args.toList)
 | .lookup t x i ok=>lookV a os K t ok (g x) (g i)
 | .call ⟨.builtin .min,args,_⟩=>minV a K false (getVs g args.toList)
 | .call ⟨.builtin .max,args,_⟩=>minV a K true (getVs g args.toList)
 | .nilCheck x=>nnV K (g x)
 | .makeFunc (.func f) ⟨[]⟩ cs=>match ptrsV (getVs g cs.toList) with | some ks=>K (.cl f ks) | none=>False
 | .call ⟨.value (.tmp i),args,_⟩=>callTV a os K (g (.tmp i)) (getVs g args.toList)
 | _=>False
def storeV (a:Ar) (s:S) (K:S → Prop) (t:Nat) (y:V):V → Prop
 | .ptr k off=>match getO s.o k with
  | .box cs=>match cellsV y with
   | some l=>match eqN (lenL l) (ty t).sz with
    | true=>match splice cs off l with
     | some cs'=>K ⟨s.t,setO s.o k (.box cs')⟩
     | none=>False
    | false=>False
   | none=>False
  | _=>False
 | .el k i sz off=>match getO s.o k with
  | .row false e rows=>match eqN (ty e).sz sz with
   | true=>match a.get rows i with
    | some row=>match cellsV y with
     | some l=>match toDs s.o l with
      | some ds=>match eqN (lenL ds) (ty t).sz with
       | true=>match splice row off ds with
        | some row'=>K ⟨s.t,setO s.o k (.row false e (a.set rows i row'))⟩
        | none=>False
       | false=>False
      | none=>False
     | none=>False
    | none=>False
   | false=>False
  | _=>False
 | _=>False
def appendV (a:Ar) (m:Bool) (s:S) (dst:Option Nat) (K:S → Prop) (t:Nat) (x y:V):Prop:=match (ty t).elem with
 | some e=>match rowsV s.o y with
  | some (sz,ys)=>match szOk (ty e).sz sz with
   | true=>match x with
    | .em=>a.room [] ys (a.new e fun z=>K ((s.fresh m (.row z e ys)).put dst (.own (lenO s.o))))
    | .own k=>match getO s.o k with
     | .row z e' xs=>match eqN e' e with
      | true=>a.room xs ys (K (S.put ⟨killT k s.t,setO (killO k s.o) k (.row z e (a.app xs ys))⟩ dst (.own k)))
      | false=>False
     | _=>False
    | _=>False
   | false=>False
  | none=>False
 | none=>False
def litV (a:Ar) (s:S) (dst:Option Nat) (K:S → Prop) (t n:Nat) (ps:List (Nat × Operand)):Prop:=match (ty t).elem with
 | some e=>buildSliceV s.get s.o (fun v=>match v with
  | .d (.sl _ rows)=>a.new e fun z=>K ((s.obj (.row z e rows)).put dst (.own (lenO s.o)))
  | _=>False) t n ps
 | none=>False
def putV (a:Ar) (s:S) (K:S → Prop) (t:Nat) (x i v:V):Prop:=match (ty t).kind with
 | .map=>match (ty t).key,x with
  | some kt,.mp k=>match keyV s.o kt i,toR s.o v,getO s.o k with
   | some r,some q,.mp kt' es=>match eqN kt' kt with
    | true=>K ⟨s.t,setO s.o k (.mp kt (a.mput es r q))⟩
    | false=>False
   | _,_,_=>False
  | _,_=>False
 | _=>False
def mkSliceV (a:Ar) (s:S) (dst:Option Nat) (K:S → Prop) (t:Nat):V → V → Prop
 | .d (.sc (.int _ n)),.d (.sc (.int _ m))=>match a.eq n m with
  | true=>match (ty t).elem with
   | some e=>match toDs [] (constL (ty e).zero) with
    | some z=>a.rep n z fun rows=>a.new e fun b=>K ((s.obj (.row b e rows)).put dst (.own (lenO s.o)))
    | none=>False
   | none=>False
  | false=>False
 | _,_=>False
def penZ:List Value → Bool
 | .pointer none :: .slice none 0 0 :: _=>true
 | _=>false
def newO (e:Nat):O:=match penZ (ty e).zero with | true=>.ob e (ty e).zero | false=>.box (constL (ty e).zero)
def step (a:Ar) (m:Bool) (s:S) (dst:Option Nat) (K:S → Prop):Op → Prop
 | .alloc e=>match ones (constL (ty e).zero) with
  | true=>K ((s.obj (newO e)).put dst (.ptr (lenO s.o) 0))
  | false=>False
 | .box _ x=>match cellsV (s.get x) with
  | some cs=>K ((s.obj (.box cs)).put dst (.ptr (lenO s.o) 0))
  | none=>False
 | .store t x y=>match dst with
  | none=>storeV a s K t (s.get y) (s.get x)
  | some _=>False
 | .makeSlice t x y=>mkSliceV a s dst K t (s.get x) (s.get y)
 | .makeMap t none=>match (ty t).kind with
  | .map=>match (ty t).key with
   | some kt=>K ((s.obj (.mp kt [])).put dst (.mp (lenO s.o)))
   | none=>False
  | _=>False
 | .mapUpdate t x i v=>match dst with
  | none=>putV a s K t (s.get x) (s.get i) (s.get v)
  | some _=>False
 | .buildSlice t 0 ⟨[]⟩=>match (ty t).elem with
  | some e=>a.new e fun z=>K ((s.fresh m (.row z e [])).put dst (.own (lenO s.o)))
  | none=>False
 | .call ⟨.builtin .append,⟨[x,y]⟩,⟨[t,_]⟩⟩=>appendV a m s dst K t (s.get x) (s.get y)
 | .buildSlice t (n + 1) ps=>match m with
  | true=>a.lit t fun c=>match c with
   | true=>stepC a s.get s.o (fun v=>K (s.put dst v)) (.buildSlice t (n + 1) ps)
   | false=>litV a s dst K t (n + 1) ps.toList
  | false=>stepC a s.get s.o (fun v=>K (s.put dst v)) (.buildSlice t (n + 1) ps)
 | .call ⟨.value (.func f),args,ts⟩=>match m with
  | true=>a.callo f (getVs s.get args.toList) s (fun v s'=>K (s'.put dst v))
  | false=>stepC a s.get s.o (fun v=>K (s.put dst v)) (.call ⟨.value (.func f),args,ts⟩)
 | .call ⟨.value (.tmp i),args,ts⟩=>match m with
  | true=>match fnV (getN s.t i) with
   | some (f,ks)=>a.callo f (appV (getVs s.get args.toList) (caps ks)) s (fun v s'=>K (s'.put dst v))
   | none=>False
  | false=>stepC a s.get s.o (fun v=>K (s.put dst v)) (.call ⟨.value (.tmp i),args,ts⟩)
 | op=>stepC a s.get s.o (fun v=>K (s.put dst v)) op
def getD:List (Option Nat) → Nat → Option Nat
 | [],_=>none
 | x :: _,0=>x
 | _ :: l,n + 1=>getD l n
def vun:V:=.tu []
def guard (s:S) (dsts:List (Option Nat)) (j:Nat) (K:Option Bool → Prop):Prop:=match getD dsts j with
 | some d=>match getN s.t d with
  | .d (.sc (.bool c))=>K (some c)
  | .tu []=>K none
  | _=>False
 | none=>False
def dstsOf:List Oper → List (Option Nat)
 | []=>[]
 | o :: l=>o.dst :: dstsOf l
def run (a:Ar) (m:Bool) (dsts:List (Option Nat)):List Oper → S → (S → Prop) → Prop
 | [],s,K=>K s
 | ⟨dst,op,_,_,_,none⟩ :: l,s,K=>step a m s dst (fun s=>run a m dsts l s K) op
 | ⟨dst,op,_,_,_,some (j,b)⟩ :: l,s,K=>guard s dsts j fun
  | some c=>match bEq c b with
   | true=>step a m s dst (fun s=>run a m dsts l s K) op
   | false=>run a m dsts l (s.put dst vun) K
  | none=>run a m dsts l (s.put dst vun) K
def hasIt:List O → Bool
 | []=>false
 | .it _ :: _=>true
 | _ :: l=>hasIt l
def isBs:V → Bool
 | .bs _ _=>true
 | _=>false
def isIt (os:List O):V → Bool
 | .own k=>match getO os k with | .it _=>true | _=>false
 | _=>false
def anyIt (os:List O):List V → Bool
 | []=>false
 | x :: l=>match isIt os x with | true=>true | false=>anyIt os l
def partIt (s:S):List (Nat × Operand) → Bool
 | []=>false
 | (_,x) :: l=>match (match s.get x with | .ag cs=>anyIt s.o cs | v=>isIt s.o v) with | true=>true | false=>partIt s l
def extB (s:S):Op → Bool
 | .call ⟨.builtin .append,⟨[_,y]⟩,_⟩=>isBs (s.get y)
 | .buildSlice _ (_ + 1) ps=>partIt s ps.toList
 | .convert t0 t _=>match isSlK (ty t0).kind with | true=>isSlK (ty t).kind | false=>false
 | _=>false
def step1 (a:Ar) (s:S) (dst:Option Nat) (K:S → Prop) (op:Op):Prop:=match extB s op with
 | true=>a.ext op dst s K
 | false=>step a true s dst K op
def runE (a:Ar) (dsts:List (Option Nat)):List Oper → S → (S → Prop) → Prop
 | [],s,K=>K s
 | ⟨dst,op,_,_,_,none⟩ :: l,s,K=>step1 a s dst (fun s=>runE a dsts l s K) op
 | ⟨dst,op,_,_,_,some (j,b)⟩ :: l,s,K=>guard s dsts j fun
  | some c=>match bEq c b with
   | true=>step1 a s dst (fun s=>runE a dsts l s K) op
   | false=>runE a dsts l (s.put dst vun) K
  | none=>runE a dsts l (s.put dst vun) K
def thenX (N:S → Prop) (K:X → S → Prop):X → S → Prop
 | .normal,s=>N s
 | .exit i,s=>K (.exit i) s
 | .ret,s=>K .ret s
def blockX (id:Nat) (K:X → S → Prop):X → S → Prop
 | .normal,s=>K .normal s
 | .exit i,s=>match eqN i id with | true=>K .normal s | false=>K (.exit i) s
 | .ret,s=>K .ret s
def upN:List Nat → Nat → Nat → Nat
 | k :: _,_,0=>k
 | _ :: l,n,j + 1=>upN l n j
 | [],n,j=>n + j
def upK (ks:List Nat) (n:Nat):List Nat → List Nat
 | []=>[]
 | j :: l=>upN ks n j :: upK ks n l
def up1 (ks:List Nat) (n:Nat):V → V
 | .own j=>.own (upN ks n j)
 | .ptr j off=>.ptr (upN ks n j) off
 | .cl f l=>.cl f (upK ks n l)
 | .el j i sz off=>.el (upN ks n j) i sz off
 | .mp j=>.mp (upN ks n j)
 | .bs j m=>.bs (upN ks n j) m
 | .ag _=>.jk
 | .tu _=>.jk
 | x=>x
def upL (ks:List Nat) (n:Nat):List V → List V
 | []=>[]
 | x :: l=>up1 ks n x :: upL ks n l
def up2 (ks:List Nat) (n:Nat):V → V
 | .ag cs=>.ag (upL ks n cs)
 | .tu []=>.tu []
 | x=>up1 ks n x
def upT (ks:List Nat) (n:Nat):List V → List V
 | []=>[]
 | x :: l=>up2 ks n x :: upT ks n l
def upO (ks:List Nat) (n:Nat):O → O
 | .box cs=>.box (upL ks n cs)
 | .kl _=>.dead
 | x=>x
def upOs (ks:List Nat) (n:Nat):List O → List O
 | []=>[]
 | x :: l=>upO ks n x :: upOs ks n l
def appO:List O → List O → List O
 | [],m=>m
 | x :: l,m=>x :: appO l m
def backO:List Nat → List O → List O → List O
 | k :: ks,x :: os,l=>backO ks os (setO l k x)
 | _,os,l=>appO l os
def killTs:List Nat → List V → List V
 | [],t=>t
 | k :: ks,t=>killTs ks (killT k t)
def killOs:List Nat → List O → List O
 | [],l=>l
 | k :: ks,l=>killOs ks (killO k l)
def back (ks:List Nat) (os:List O) (s:S):S:=⟨killTs ks s.t,backO ks (upOs ks (lenO s.o) os) (killOs ks s.o)⟩
def memN (k:Nat):List Nat → Bool
 | []=>false
 | j :: l=>match eqN j k with | true=>true | false=>memN k l
def nodupN:List Nat → Bool
 | []=>true
 | k :: l=>match memN k l with | true=>false | false=>nodupN l
def pick:List Nat → List O → List O
 | [],_=>[]
 | k :: ks,l=>getO l k :: pick ks l
def alive:List O → Bool
 | []=>true
 | .dead :: _=>false
 | .kl _ :: _=>false
 | _ :: l=>alive l
def frz1 (o:List O) (k:Nat):List O:=match getO o k with
 | .row _ e rows=>setO o k (.row true e rows)
 | _=>o
def frz:List Nat → List O → List O
 | [],o=>o
 | k :: ks,o=>frz ks (frz1 o k)
def headN:Nat → Nat → List Nat → Bool
 | _,0,_=>true
 | j,n + 1,k :: l=>match eqN j k with | true=>headN (j + 1) n l | false=>false
 | _,_ + 1,[]=>false
def pkgV:List V → V
 | [v]=>v
 | vs=>.tu vs
end Go.Proofs.YtahpnackkmbmgaaGreatDoor.Vm
end
section
namespace Go.Proofs.YtahpnackkmbmgaaGreatDoor
open Go.RowKit
section
def Blk (w:World) (g:Nat) (t:TypeId) (cs:Array Value):Prop:=w.heap[g]? = some (.cells cs t (0,0))
section
variable {w w':World} {g:Nat} {t:TypeId} {cs:Array Value}
theorem Blk.lt (h:Blk w g t cs):g < w.heap.size:=by
 rcases Nat.lt_or_ge g w.heap.size with hlt | hge
 ·exact hlt
 ·unfold Blk at h;rw [Array.getElem?_eq_none hge] at h;cases h
theorem Blk.cell (h:Blk w g t cs) (i:Nat):w.cell? ⟨g,i,none⟩ = cs[i]?:=cell_of_row w g i cs t (0,0) h
theorem Blk.frozen (h:Blk w g t cs) (i:Nat):w.frozen? ⟨g,i,none⟩ = false:=by
 unfold Blk at h
 simp [World.frozen?,h]
theorem Blk.new (w:World) (t:TypeId) (cs:Array Value):Blk (w.alloc (.cells cs t)) w.heap.size t cs:=heap_alloc_new w _
theorem Blk.drewN (h:Blk w g t cs) (n:Nat):Blk (w.drewN n) g t cs:=h
theorem Blk.alloc (h:Blk w g t cs) (o:Obj):Blk (w.alloc o) g t cs:=(Below.heap_alloc w o g h.lt).trans h
theorem Blk.set_ (h:Blk w g t cs) (i:Nat) (u:Value):Blk (w.setCell ⟨g,i,none⟩ u) g t (cs.setIfInBounds i u):=by
 unfold Blk at h ⊢
 simp [World.setCell,Array.getElem?_modify,h]
theorem Blk.far (h:Blk w g t cs) {p:Addr} (hp:g ≠ p.block) (u:Value):Blk (w.setCell p u) g t cs:=(Below.heap_setCell w p u g hp).trans h
theorem Blk.below {B:Nat} (h:Blk w g t cs) (hb:Below B w w') (hg:g < B):Blk w' g t cs:=(hb.block g hg).trans h
theorem Blk.grown {row:Option Nat} (h:Blk w g t cs) (hb:w.grownBy w' row) (hg:some g ≠ row):Blk w' g t cs:=(hb.block g h.lt hg).trans h
end
section
variable {w w':World} {g:Nat} {t:TypeId} {k:IntKind} {l:List Int}
end
end
section
section
variable {P:Program} (w:World)
end
section
variable {w w':World} {base:Nat} {t:TypeId} {k:IntKind} {v:Value} {ps:List Int}
end
end
section
section
variable {P:Program} (w:World)
def SrcAt (w:World) (A:Option Addr) (m size:Nat) (ys:List Value):Prop:=ys.length = m * size ∧ (A = none → m = 0) ∧ (∀ ad,A = some ad → ∀ j u,ys[j]? = some u → w.cell? (ad.add j) = some u) ∧ ∀ u ∈ ys,u.oneCell' = true
end
end
end Go.Proofs.YtahpnackkmbmgaaGreatDoor
end
section
namespace Go.Proofs.YtahpnackkmbmgaaGreatDoor.Vm
open Go.RowKit
def Up (I:Nat → Nat → Prop) (b n:Nat):Prop:=∃ h,n ≤ h ∧ I b h
theorem Up.mono {I I':Nat → Nat → Prop} (hI:∀ b h,I b h → I' b h) {b n:Nat} (h:Up I b n):Up I' b n:=by
 obtain ⟨k,h1,h2⟩:=h;exact ⟨k,h1,hI _ _ h2⟩
theorem Up.down {I:Nat → Nat → Prop} {b n m:Nat} (h:Up I b n) (hm:m ≤ n):Up I b m:=by
 obtain ⟨k,h1,h2⟩:=h;exact ⟨k,Nat.le_trans hm h1,h2⟩
inductive AtD (I:Nat → Nat → Prop) (w:World):Value → D → Prop
 | sc (v:Value) (h:v.oneCell' = true):AtD I w v (.sc v)
 | nil (A:Option Addr) (cap sz:Nat):AtD I w (.slice A 0 cap) (.sl sz [])
 | sl (b off cap sz:Nat) (rows:List (List D)) (us:List Value) (hcap:rows.length ≤ cap) (hI:Up I b (off + rows.length * sz)) (hr:∀ r ∈ rows,r.length = sz) (hl:us.length = rows.length * sz)
   (hc:∀ i u,us[i]? = some u → w.cell? ⟨b,off + i,none⟩ = some u) (hd:∀ (i:Nat) (u:Value) (d:D),us[i]? = some u → rows.flatten[i]? = some d → AtD I w u d) :
   AtD I w (.slice (some ⟨b,off,none⟩) rows.length cap) (.sl sz rows)
def Keeps (I:Nat → Nat → Prop) (w w':World):Prop:=∀ b h,I b h → ∀ i,i < h → w'.cell? ⟨b,i,none⟩ = w.cell? ⟨b,i,none⟩
theorem Keeps.trans {I:Nat → Nat → Prop} {w1 w2 w3:World} (h:Keeps I w1 w2) (h2:Keeps I w2 w3):Keeps I w1 w3:=fun b k hb i hi=>(h2 b k hb i hi).trans (h b k hb i hi)
theorem Keeps.refl (I:Nat → Nat → Prop) (w:World):Keeps I w w:=fun _ _ _ _ _=>rfl
theorem AtD.mono {I I':Nat → Nat → Prop} {w w':World} (hI:∀ b h,I b h → I' b h) (hk:Keeps I w w') {v:Value} {d:D} (h:AtD I w v d):AtD I' w' v d:=by
 induction h with
 | sc v h=>exact .sc v h
 | nil A cap sz=>exact .nil A cap sz
 | sl b off cap sz rows us hcap hi hr hl hc _ ih =>
  refine .sl b off cap sz rows us hcap (hi.mono hI) hr hl (fun i u hu=>?_) ih
  have hlt:i < rows.length * sz:=by rw [← hl];exact (List.getElem?_eq_some_iff.1 hu).1
  obtain ⟨k,hk1,hk2⟩:=hi
  exact (hk _ _ hk2 _ (by omega)).trans (hc i u hu)
theorem AtD.one {I:Nat → Nat → Prop} {w:World} {v:Value} {d:D} (h:AtD I w v d):v.oneCell' = true:=by
 cases h with
 | sc v h=>exact h
 | nil=>rfl
 | sl=>rfl
theorem flat_len {α:Type} {sz:Nat}:∀ {rows:List (List α)},(∀ r ∈ rows,r.length = sz) → rows.flatten.length = rows.length * sz
 | [],_=>by simp
 | r :: rows,h=>by
  rw [List.flatten_cons,List.length_append,h r (List.mem_cons_self ..),flat_len fun x hx=>h x (List.mem_cons_of_mem _ hx),List.length_cons,Nat.succ_mul]
  omega
theorem flat_get {α:Type} {sz:Nat}:∀ {rows:List (List α)},(∀ r ∈ rows,r.length = sz) → ∀ {i j:Nat} {r:List α},rows[i]? = some r → j < sz → rows.flatten[i * sz + j]? = r[j]?
 | [],_,i,j,r,hr,_=>by simp at hr
 | s :: rows,h,0,j,r,hr,hj=>by
  simp at hr
  subst hr
  rw [List.flatten_cons,List.getElem?_append_left (by rw [h s (List.mem_cons_self ..)];omega)]
  simp
 | s :: rows,h,i + 1,j,r,hr,hj=>by
  have hr':rows[i]? = some r:=by simpa using hr
  rw [List.flatten_cons,List.getElem?_append_right (by rw [h s (List.mem_cons_self ..),Nat.succ_mul];omega),← flat_get (fun x hx=>h x (List.mem_cons_of_mem _ hx)) hr' hj]
  congr 1
  rw [h s (List.mem_cons_self ..),Nat.succ_mul]
  omega
def AtDs (I:Nat → Nat → Prop) (w:World) (us:List Value) (ds:List D):Prop:=us.length = ds.length ∧ ∀ (i:Nat) (u:Value) (d:D),us[i]? = some u → ds[i]? = some d → AtD I w u d
theorem AtDs.mono {I I':Nat → Nat → Prop} {w w':World} (hI:∀ b h,I b h → I' b h) (hk:Keeps I w w') {us:List Value} {ds:List D} (h:AtDs I w us ds):AtDs I' w' us ds :=
 ⟨h.1,fun i u d hu hd=>(h.2 i u d hu hd).mono hI hk⟩
theorem AtDs.nil (I:Nat → Nat → Prop) (w:World):AtDs I w [] []:=⟨rfl,fun i u d h=>by simp at h⟩
theorem AtDs.cons {I:Nat → Nat → Prop} {w:World} {u:Value} {d:D} {us:List Value} {ds:List D} (h:AtD I w u d) (hs:AtDs I w us ds):AtDs I w (u :: us) (d :: ds) :=
 ⟨by simp [hs.1],fun i x y hx hy=>by
  cases i with
  | zero=>simp at hx hy;subst hx;subst hy;exact h
  | succ i=>exact hs.2 i x y (by simpa using hx) (by simpa using hy)⟩
theorem AtDs.uncons {I:Nat → Nat → Prop} {w:World} {us:List Value} {d:D} {ds:List D} (h:AtDs I w us (d :: ds)):∃ u us',us = u :: us' ∧ AtD I w u d ∧ AtDs I w us' ds:=by
 cases us with
 | nil=>have:=h.1;simp at this
 | cons u us=>exact ⟨u,us,rfl,h.2 0 u d rfl rfl,by have:=h.1;simpa using this,fun i x y hx hy=>h.2 (i + 1) x y (by simpa using hx) (by simpa using hy)⟩
theorem AtDs.one {I:Nat → Nat → Prop} {w:World} {us:List Value} {ds:List D} (h:AtDs I w us ds):∀ u ∈ us,u.oneCell' = true:=by
 intro u hu
 obtain ⟨i,hi⟩:=List.mem_iff_getElem?.1 hu
 have hlt:i < ds.length:=by rw [← h.1];exact (List.getElem?_eq_some_iff.1 hi).1
 exact (h.2 i u _ hi (List.getElem?_eq_getElem hlt)).one
theorem AtDs.drop {I:Nat → Nat → Prop} {w:World} {us:List Value} {ds:List D} (h:AtDs I w us ds) (n:Nat):AtDs I w (us.drop n) (ds.drop n) :=
 ⟨by simp [h.1],fun i u d hu hd=>h.2 (n + i) u d (by rw [← List.getElem?_drop];exact hu) (by rw [← List.getElem?_drop];exact hd)⟩
theorem AtDs.take {I:Nat → Nat → Prop} {w:World} {us:List Value} {ds:List D} (h:AtDs I w us ds) (n:Nat):AtDs I w (us.take n) (ds.take n) :=
 ⟨by simp [h.1],fun i u d hu hd=>by
  rw [List.getElem?_take] at hu hd
  split at hu
  ·rw [if_pos (by assumption)] at hd;exact h.2 i u d hu hd
  ·cases hu⟩
theorem AtDs.append {I:Nat → Nat → Prop} {w:World} {us us':List Value} {ds ds':List D} (h:AtDs I w us ds) (h':AtDs I w us' ds'):AtDs I w (us ++ us') (ds ++ ds') :=
 ⟨by simp [h.1,h'.1],fun i u d hu hd=>by
  by_cases hi:i < us.length
  ·rw [List.getElem?_append_left hi] at hu
   rw [List.getElem?_append_left (by rw [← h.1];exact hi)] at hd
   exact h.2 i u d hu hd
  ·rw [List.getElem?_append_right (by omega)] at hu
   rw [List.getElem?_append_right (by rw [← h.1];omega),← h.1] at hd
   exact h'.2 _ u d hu hd⟩
theorem AtD.slice {I:Nat → Nat → Prop} {w:World} {v:Value} {sz:Nat} {rows:List (List D)} (h:AtD I w v (.sl sz rows)):∃ A cap,v = .slice A rows.length cap ∧ rows.length ≤ cap ∧ (rows = [] ∨ ∃ b off us,A = some ⟨b,off,none⟩ ∧ Up I b (off + rows.length * sz) ∧ (∀ r ∈ rows,r.length = sz) ∧
  us.length = rows.length * sz ∧ (∀ i u,us[i]? = some u → w.cell? ⟨b,off + i,none⟩ = some u) ∧ AtDs I w us rows.flatten):=by
 cases h with
 | nil A cap sz=>exact ⟨A,cap,rfl,Nat.zero_le _,.inl rfl⟩
 | sl b off cap sz rows us hcap hI hr hl hc hd=>exact ⟨_,cap,rfl,hcap,.inr ⟨b,off,us,rfl,hI,hr,hl,hc,by rw [hl,flat_len hr],hd⟩⟩
def packG (v:Value) (F:List Nat):Value:=.tuple (v :: F.map fun b=>.pointer (some ⟨b,0,none⟩)).toArray
def gv:Value → Value
 | .tuple us=>us.getD 0 .nilFunc
 | v=>v
inductive AtV (I:Nat → Nat → Prop) (w:World) (g:Nat → Value):Value → V → Prop
 | d {v:Value} {x:D} (h:AtD I w v x):AtV I w g v (.d x)
 | ag (us:List Value) (cs:List V) (hl:us.length = cs.length) (h:∀ (i:Nat) (u:Value) (c:V),us[i]? = some u → cs[i]? = some c → AtV I w g u c):AtV I w g (.agg us.toArray) (.ag cs)
 | tu (us:List Value) (cs:List V) (hl:us.length = cs.length) (h:∀ (i:Nat) (u:Value) (c:V),us[i]? = some u → cs[i]? = some c → AtV I w g u c):AtV I w g (.tuple us.toArray) (.tu cs)
 | em:AtV I w g (.slice none 0 0) .em
 | own (k:Nat) (A:Option Addr) (n cap:Nat) (h:gv (g k) = .slice A n cap):AtV I w g (.slice A n cap) (.own k)
 | ptr (k off b:Nat) (h:g k = .pointer (some ⟨b,0,none⟩)):AtV I w g (.pointer (some ⟨b,off,none⟩)) (.ptr k off)
 | cl (f:Nat) (us:List Value) (ks:List Nat) (hl:us.length = ks.length) (h:∀ (i:Nat) (u:Value) (k:Nat),us[i]? = some u → ks[i]? = some k → u = g k ∧ ∃ b,g k = .pointer (some ⟨b,0,none⟩)):AtV I w g (.func (.func f) #[] us.toArray) (.cl f ks)
 | el (k:Nat) (i:Int) (sz off b n cap:Nat) (h:g k = .slice (some ⟨b,0,none⟩) n cap):AtV I w g (.pointer (some ⟨b,i.toNat * sz + off,none⟩)) (.el k i sz off)
 | ro (b o off:Nat) (us:List Value) (cs:List D) (hI:Up I b (o + cs.length)) (hc:∀ i u,us[i]? = some u → w.cell? ⟨b,o + i,none⟩ = some u) (hd:AtDs I w us cs):AtV I w g (.pointer (some ⟨b,o + off,none⟩)) (.ro cs off)
 | mp (k b:Nat) (h:g k = .map (some b)):AtV I w g (.map (some b)) (.mp k)
 | bs (k n b cap:Nat) (h:g k = .pointer (some ⟨b,0,none⟩)) (hn:n ≤ cap):AtV I w g (.slice (some ⟨b,0,none⟩) n cap) (.bs k n)
 | jk (v:Value):AtV I w g v .jk
theorem AtV.mono {I I':Nat → Nat → Prop} {w w':World} {g:Nat → Value} (hI:∀ b h,I b h → I' b h) (hk:Keeps I w w') {v:Value} {x:V} (h:AtV I w g v x):AtV I' w' g v x:=by
 induction h with
 | d h=>exact .d (h.mono hI hk)
 | ag us cs hl _ ih=>exact .ag us cs hl ih
 | tu us cs hl _ ih=>exact .tu us cs hl ih
 | em=>exact .em
 | own k A n cap h=>exact .own k A n cap h
 | ptr k off b h=>exact .ptr k off b h
 | cl f us ks hl h=>exact .cl f us ks hl h
 | el k i sz off b n cap h=>exact .el k i sz off b n cap h
 | ro b o off us cs hi hc hd =>
  refine .ro b o off us cs (hi.mono hI) (fun i u hu=>?_) (hd.mono hI hk)
  have hlt:i < cs.length:=by rw [← hd.1];exact (List.getElem?_eq_some_iff.1 hu).1
  obtain ⟨k,hk1,hk2⟩:=hi
  exact (hk _ _ hk2 _ (by omega)).trans (hc i u hu)
 | mp k b h=>exact .mp k b h
 | bs k n b cap h hn=>exact .bs k n b cap h hn
 | jk v=>exact .jk v
def AtVs (I:Nat → Nat → Prop) (w:World) (g:Nat → Value) (us:List Value) (cs:List V):Prop:=us.length = cs.length ∧ ∀ (i:Nat) (u:Value) (c:V),us[i]? = some u → cs[i]? = some c → AtV I w g u c
theorem AtVs.mono {I I':Nat → Nat → Prop} {w w':World} {g:Nat → Value} (hI:∀ b h,I b h → I' b h) (hk:Keeps I w w') {us:List Value} {cs:List V} (h:AtVs I w g us cs):AtVs I' w' g us cs :=
 ⟨h.1,fun i u d hu hd=>(h.2 i u d hu hd).mono hI hk⟩
theorem AtVs.nil (I:Nat → Nat → Prop) (w:World) (g:Nat → Value):AtVs I w g [] []:=⟨rfl,fun i u d h=>by simp at h⟩
theorem AtVs.cons {I:Nat → Nat → Prop} {w:World} {g:Nat → Value} {u:Value} {d:V} {us:List Value} {ds:List V} (h:AtV I w g u d) (hs:AtVs I w g us ds):AtVs I w g (u :: us) (d :: ds) :=
 ⟨by simp [hs.1],fun i x y hx hy=>by
  cases i with
  | zero=>simp at hx hy;subst hx;subst hy;exact h
  | succ i=>exact hs.2 i x y (by simpa using hx) (by simpa using hy)⟩
theorem AtVs.uncons {I:Nat → Nat → Prop} {w:World} {g:Nat → Value} {us:List Value} {d:V} {ds:List V} (h:AtVs I w g us (d :: ds)):∃ u us',us = u :: us' ∧ AtV I w g u d ∧ AtVs I w g us' ds:=by
 cases us with
 | nil=>have:=h.1;simp at this
 | cons u us=>exact ⟨u,us,rfl,h.2 0 u d rfl rfl,by have:=h.1;simpa using this,fun i x y hx hy=>h.2 (i + 1) x y (by simpa using hx) (by simpa using hy)⟩
theorem AtVs.unnil {I:Nat → Nat → Prop} {w:World} {g:Nat → Value} {us:List Value} (h:AtVs I w g us []):us = []:=List.eq_nil_of_length_eq_zero h.1
theorem AtVs.drop {I:Nat → Nat → Prop} {w:World} {g:Nat → Value} {us:List Value} {ds:List V} (h:AtVs I w g us ds) (n:Nat):AtVs I w g (us.drop n) (ds.drop n) :=
 ⟨by simp [h.1],fun i u d hu hd=>h.2 (n + i) u d (by rw [← List.getElem?_drop];exact hu) (by rw [← List.getElem?_drop];exact hd)⟩
theorem AtVs.take {I:Nat → Nat → Prop} {w:World} {g:Nat → Value} {us:List Value} {ds:List V} (h:AtVs I w g us ds) (n:Nat):AtVs I w g (us.take n) (ds.take n) :=
 ⟨by simp [h.1],fun i u d hu hd=>by
  rw [List.getElem?_take] at hu hd
  split at hu
  ·rw [if_pos (by assumption)] at hd;exact h.2 i u d hu hd
  ·cases hu⟩
theorem AtVs.append {I:Nat → Nat → Prop} {w:World} {g:Nat → Value} {us us':List Value} {ds ds':List V} (h:AtVs I w g us ds) (h':AtVs I w g us' ds'):AtVs I w g (us ++ us') (ds ++ ds') :=
 ⟨by simp [h.1,h'.1],fun i u d hu hd=>by
  by_cases hi:i < us.length
  ·rw [List.getElem?_append_left hi] at hu
   rw [List.getElem?_append_left (by rw [← h.1];exact hi)] at hd
   exact h.2 i u d hu hd
  ·rw [List.getElem?_append_right (by omega)] at hu
   rw [List.getElem?_append_right (by rw [← h.1];omega),← h.1] at hd
   exact h'.2 _ u d hu hd⟩
theorem AtVs.set {I:Nat → Nat → Prop} {w:World} {g:Nat → Value} {us:List Value} {ds:List V} (h:AtVs I w g us ds) {u:Value} {d:V} (hd:AtV I w g u d) (n:Nat):AtVs I w g (us.set n u) (ds.set n d) :=
 ⟨by simp [h.1],fun i x y hx hy=>by
  by_cases hi:n = i
  ·subst hi
   have hlt:n < us.length:=by
    have:=(List.getElem?_eq_some_iff.1 hx).1
    simpa using this
   rw [List.getElem?_set_self hlt] at hx
   rw [List.getElem?_set_self (by rw [← h.1];exact hlt)] at hy
   injection hx with hx
   injection hy with hy
   subst hx;subst hy
   exact hd
  ·rw [List.getElem?_set_ne hi] at hx hy
   exact h.2 i x y hx hy⟩
theorem atV_ag {I:Nat → Nat → Prop} {w:World} {g:Nat → Value} {us:List Value} {cs:List V} (h:AtVs I w g us cs):AtV I w g (.agg us.toArray) (.ag cs):=.ag us cs h.1 h.2
theorem atV_tu {I:Nat → Nat → Prop} {w:World} {g:Nat → Value} {us:List Value} {cs:List V} (h:AtVs I w g us cs):AtV I w g (.tuple us.toArray) (.tu cs):=.tu us cs h.1 h.2
theorem AtV.unag {I:Nat → Nat → Prop} {w:World} {g:Nat → Value} {v:Value} {cs:List V} (h:AtV I w g v (.ag cs)):∃ us,v = .agg us.toArray ∧ AtVs I w g us cs:=by
 cases h with
 | ag us cs hl h=>exact ⟨us,rfl,hl,h⟩
theorem AtV.untu {I:Nat → Nat → Prop} {w:World} {g:Nat → Value} {v:Value} {cs:List V} (h:AtV I w g v (.tu cs)):∃ us,v = .tuple us.toArray ∧ AtVs I w g us cs:=by
 cases h with
 | tu us cs hl h=>exact ⟨us,rfl,hl,h⟩
theorem AtV.unem {I:Nat → Nat → Prop} {w:World} {g:Nat → Value} {v:Value} (h:AtV I w g v .em):v = .slice none 0 0:=by cases h;rfl
theorem AtV.unown {I:Nat → Nat → Prop} {w:World} {g:Nat → Value} {v:Value} {k:Nat} (h:AtV I w g v (.own k)):v = gv (g k) ∧ ∃ A n cap,gv (g k) = .slice A n cap:=by
 cases h with
 | own k A n cap h=>exact ⟨h.symm,A,n,cap,h⟩
theorem AtV.unbs {I:Nat → Nat → Prop} {w:World} {g:Nat → Value} {v:Value} {k n:Nat} (h:AtV I w g v (.bs k n)):∃ b cap,g k = .pointer (some ⟨b,0,none⟩) ∧ v = .slice (some ⟨b,0,none⟩) n cap ∧ n ≤ cap:=by
 cases h with
 | bs k n b cap h hn=>exact ⟨b,cap,h,rfl,hn⟩
theorem AtV.unmp {I:Nat → Nat → Prop} {w:World} {g:Nat → Value} {v:Value} {k:Nat} (h:AtV I w g v (.mp k)):∃ b,g k = .map (some b) ∧ v = .map (some b):=by
 cases h with
 | mp k b h=>exact ⟨b,h,rfl⟩
theorem AtV.unptr {I:Nat → Nat → Prop} {w:World} {g:Nat → Value} {v:Value} {k off:Nat} (h:AtV I w g v (.ptr k off)):∃ b,g k = .pointer (some ⟨b,0,none⟩) ∧ v = .pointer (some ⟨b,off,none⟩):=by
 cases h with
 | ptr k off b h=>exact ⟨b,h,rfl⟩
theorem AtDs.toV {I:Nat → Nat → Prop} {w:World} (g:Nat → Value):∀ {ds:List D} {us:List Value},AtDs I w us ds → AtVs I w g us (ofD ds)
 | [],us,h=>by
  rw [List.eq_nil_of_length_eq_zero h.1]
  exact .nil I w g
 | d :: ds,us,h=>by
  obtain ⟨u,us',rfl,h1,h2⟩:=h.uncons
  exact .cons (.d h1) (AtDs.toV g h2)
section
structure Fr (X:Nat → Prop) (w w':World):Prop where
 os:w'.os = w.os
 tape:w'.tape = w.tape
 output:w'.output = w.output
 size:w.heap.size ≤ w'.heap.size
 block:∀ b,b < w.heap.size → ¬ X b → w'.heap[b]? = w.heap[b]?
theorem Fr.refl (X:Nat → Prop) (w:World):Fr X w w:=⟨rfl,rfl,rfl,Nat.le_refl _,fun _ _ _=>rfl⟩
def Tabs (X:Nat → Prop) (w:World):Prop:=∀ t ∈ tabsOf,w.var? Tryz.prog t.1 = some (t.2.2.map fun z=>Value.int t.2.1 z).toArray ∧ ∀ g,Tryz.prog.globalNamed t.1 = some g → ¬ X g
theorem var_at {w:World} {name:String} {a:Array Value} (h:w.var? Tryz.prog name = some a):∃ g t c,Tryz.prog.globalNamed name = some g ∧ w.heap[g]? = some (.cells a t c) ∧ g < w.heap.size:=by
 unfold World.var? at h
 cases hg:Tryz.prog.globalNamed name with
 | none=>rw [hg] at h;cases h
 | some g =>
  rw [hg] at h
  simp only [Option.bind_some] at h
  cases ho:w.heap[g]? with
  | none=>rw [ho] at h;cases h
  | some o =>
   rw [ho] at h
   cases o with
   | cells a' t c=>injection h with h;subst h;exact ⟨g,t,c,rfl,ho,(Array.getElem?_eq_some_iff.1 ho).1⟩
   | _=>cases h
theorem at_var {w:World} {name:String} {a:Array Value} {g:Nat} {t:TypeId} {c:Nat × Nat} (hg:Tryz.prog.globalNamed name = some g) (h:w.heap[g]? = some (.cells a t c)):w.var? Tryz.prog name = some a:=by
 unfold World.var?
 rw [hg]
 simp only [Option.bind_some,h]
theorem Tabs.fr {X X':Nat → Prop} {w w':World} (h:Tabs X w) (hf:Fr X w w') (hX:∀ b,b < w.heap.size → ¬ X b → ¬ X' b):Tabs X' w':=fun t ht=>by
 obtain ⟨h1,h2⟩:=h t ht
 obtain ⟨g,ty,c,e1,e2,e3⟩:=var_at h1
 exact ⟨at_var e1 ((hf.block g e3 (h2 g e1)).trans e2),fun g' hg'=>by rw [e1] at hg';injection hg' with hg';subst hg';exact hX _ e3 (h2 _ e1)⟩
def Wld (I:Nat → Nat → Prop) (w:World):Prop:=(∀ b h,I b h → b < w.heap.size) ∧ Tabs (fun _=>False) w
structure W0 where
 w:World
 g:Nat → Value
 n:Nat
 d:List Deferred
def gbl:Value → Nat → Prop
 | .pointer (some a),b=>a.block = b
 | .slice (some a) _ _,b=>a.block = b
 | .map (some c),b=>c = b
 | .tuple us,b=>.pointer (some ⟨b,0,none⟩) ∈ us.toList
 | _,_=>False
theorem gbl_pack {A:Option Addr} {n cap:Nat} {F:List Nat} {b:Nat}:gbl (packG (.slice A n cap) F) b ↔ b ∈ F:=by
 show Value.pointer (some ⟨b,0,none⟩) ∈ Value.slice A n cap :: F.map (fun b=>.pointer (some ⟨b,0,none⟩)) ↔ _
 simp
def isRef:Value → Bool
 | .pointer _=>true
 | .map _=>true
 | .agg _=>true
 | _=>false
def Mine (X:Nat → Prop) (w0:W0) (b:Nat):Prop:=w0.w.heap.size ≤ b ∨ X b
def AtR (I:Nat → Nat → Prop) (w:World) (v:Value):R → Prop
 | .one x=>AtD I w v x
 | .ag xs=>∃ us,v = .agg us.toArray ∧ AtDs I w us xs
theorem AtR.mono {I I':Nat → Nat → Prop} {w w':World} (hI:∀ b h,I b h → I' b h) (hk:Keeps I w w') {v:Value} {r:R} (h:AtR I w v r):AtR I' w' v r:=by
 cases r with
 | one x=>exact AtD.mono hI hk h
 | ag xs=>obtain ⟨us,h1,h2⟩:=h;exact ⟨us,h1,h2.mono hI hk⟩
def AtEs (I:Nat → Nat → Prop) (w:World) (kt:Nat) (l:List MapEntry) (es:List (R × R)):Prop:=l.length = es.length ∧ ∀ (i:Nat) (e:MapEntry) (p:R × R),l[i]? = some e → es[i]? = some p → AtR I w e.key p.1 ∧ AtR I w e.val p.2 ∧ keyB kt p.1 = true
theorem AtEs.mono {I I':Nat → Nat → Prop} {w w':World} (hI:∀ b h,I b h → I' b h) (hk:Keeps I w w') {kt:Nat} {l:List MapEntry} {es:List (R × R)} (h:AtEs I w kt l es):AtEs I' w' kt l es :=
 ⟨h.1,fun i e p he hp=>by obtain ⟨h1,h2,h3⟩:=h.2 i e p he hp;exact ⟨h1.mono hI hk,h2.mono hI hk,h3⟩⟩
def ObjAt (X:Nat → Prop) (w0:W0) (I:Nat → Nat → Prop) (w:World) (g:Nat → Value) (k:Nat):O → Prop
 | .dead=>True
 | .box cs=>∃ (b:Nat) (us:List Value) (t:TypeId × List Value),g k = .pointer (some ⟨b,0,none⟩) ∧ w.heap[b]? = some (.cells (us ++ t.2).toArray t.1 (0,0)) ∧ AtVs I w g us cs ∧ (∀ u ∈ us,u.oneCell' = true) ∧ (∀ h,¬ I b h) ∧ Mine X w0 b
 | .mp kt es=>∃ b l c,g k = .map (some b) ∧ w.heap[b]? = some (.map l c) ∧ AtEs I w kt l.toList es ∧ (∀ h,¬ I b h) ∧ Mine X w0 b
 | .kl ks=>∃ us,g k = .agg us ∧ us.size ≤ k ∧ ∀ (j:Nat) (u:Value),us[j]? = some u → u = .nilFunc ∨ g j = u ∨ j ∈ ks
 | .ob T vs=>∃ b:Nat,g k = .pointer (some ⟨b,0,none⟩) ∧ w.heap[b]? = some (.cells vs.toArray T (0,0)) ∧ (∀ h,¬ I b h) ∧ Mine X w0 b
 | .it P=>∃ A n cap F,g k = packG (.slice A n cap) F ∧ P w (.slice A n cap) F ∧ (∀ w':World,(∀ b ∈ F,w'.heap[b]? = w.heap[b]?) → P w' (.slice A n cap) F) ∧ ∀ b ∈ F,(∃ (c:Array Value) (t:TypeId),w.heap[b]? = some (.cells c t (0,0))) ∧ (∀ h,¬ I b h) ∧ Mine X w0 b
 | .row z e rows=>∃ us,w.ownsRow 0 e (ty e).sz (g k) rows.length us ∧ (∀ r ∈ rows,r.length = (ty e).sz) ∧ AtDs I w us rows.flatten ∧
   ∀ b,(g k).ownBlock = some b → (z = true → I b (rows.length * (ty e).sz)) ∧ (∀ h,I b h → z = true ∧ h ≤ rows.length * (ty e).sz) ∧ Mine X w0 b
def live (s:S) (k:Nat):Prop:=∃ o,s.o[k]? = some o ∧ o ≠ .dead
structure RelI (I0:Nat → Nat → Prop) (X:Nat → Prop) (w0:W0) (I:Nat → Nat → Prop) (g:Nat → Value) (s:S) (a:Act) (w:World):Prop where
 im:∀ b h,I0 b h → I b h
 lt:∀ b h,I b h → b < w.heap.size ∧ (b < w0.w.heap.size → I0 b h ∨ X b)
 fr:Fr X w0.w w
 kp:Keeps I0 w0.w w
 lo:w0.n ≤ s.o.length
 st:∀ k,k < w0.n → isRef (w0.g k) = true → g k = w0.g k
 obj:∀ k o,s.o[k]? = some o → ObjAt X w0 I w g k o
 dis:∀ j k b,live s j → live s k → gbl (g j) b → gbl (g k) b → j = k
 out:∀ k,s.o.length ≤ k → g k = .nilFunc
 tmp:AtVs I w g a.tmps.toList s.t
 dfr:a.defers = w0.d ∧ Tabs X w0.w
def Rel (I0:Nat → Nat → Prop) (X:Nat → Prop) (w0:W0) (s:S) (a:Act) (w:World):Prop:=∃ I g,RelI I0 X w0 I g s a w
theorem lenO_is:∀ l:List O,lenO l = l.length
 | []=>rfl
 | _ :: l=>by rw [lenO,lenO_is l];rfl
theorem lenL_is {α:Type}:∀ l:List α,lenL l = l.length
 | []=>rfl
 | _ :: l=>by rw [lenL,lenL_is l];rfl
theorem snocO_is (o:O):∀ l:List O,snocO l o = l ++ [o]
 | []=>rfl
 | x :: l=>by rw [snocO,snocO_is o l];rfl
theorem setO_is (o:O):∀ (l:List O) (k:Nat),setO l k o = l.set k o
 | [],_=>rfl
 | _ :: _,0=>rfl
 | x :: l,k + 1=>by rw [setO,setO_is o l k];rfl
theorem setN_is (v:V):∀ (l:List V) (k:Nat),setN l k v = l.set k v
 | [],_=>rfl
 | _ :: _,0=>rfl
 | x :: l,k + 1=>by rw [setN,setN_is v l k];rfl
theorem getO_some:∀ {l:List O} {k:Nat} {o:O},getO l k = o → o ≠ .dead → l[k]? = some o
 | [],_,_,h,hd=>absurd h.symm hd
 | x :: _,0,_,h,_=>by rw [getO] at h;rw [h];rfl
 | x :: l,k + 1,_,h,hd=>by rw [getO] at h;simpa using getO_some h hd
theorem getN_some:∀ {l:List V} {k:Nat} {v:V},getN l k = v → v ≠ .jk → l[k]? = some v
 | [],_,_,h,hd=>absurd h.symm hd
 | x :: _,0,_,h,_=>by rw [getN] at h;rw [h];rfl
 | x :: l,k + 1,_,h,hd=>by rw [getN] at h;simpa using getN_some h hd
theorem getN_get:∀ (l:List V) (k:Nat),l[k]? = some (getN l k) ∨ (l.length ≤ k ∧ getN l k = .jk)
 | [],_=>.inr ⟨by simp,rfl⟩
 | x :: _,0=>.inl rfl
 | x :: l,k + 1=>by
  rcases getN_get l k with h | ⟨h1,h2⟩
  ·exact .inl (by simpa [getN] using h)
  ·exact .inr ⟨by simp;exact h1,by rw [getN];exact h2⟩
theorem dropN_is {α:Type}:∀ (n:Nat) (l:List α),dropN n l = l.drop n
 | 0,_=>rfl
 | _ + 1,[]=>rfl
 | n + 1,_ :: l=>by rw [dropN,dropN_is n l];rfl
theorem takeN_is {α:Type}:∀ {n:Nat} {l m:List α},takeN n l = some m → m = l.take n ∧ m.length = n
 | 0,_,_,h=>by injection h with h;subst h;simp
 | _ + 1,[],_,h=>by cases h
 | n + 1,x :: l,m,h=>by
  rw [takeN] at h
  split at h
  ·rename_i t ht
   injection h with h
   subst h
   have:=takeN_is ht
   exact ⟨by simp [this.1],by simp [this.2]⟩
  ·cases h
theorem eqN_is:∀ {n m:Nat},eqN n m = true ↔ n = m
 | 0,0=>by simp [eqN]
 | 0,m + 1=>by simp [eqN]
 | n + 1,0=>by simp [eqN]
 | n + 1,m + 1=>by rw [eqN,eqN_is];omega
theorem eqN_no {n m:Nat}:eqN n m = false ↔ n ≠ m:=by
 rw [← Bool.not_eq_true,eqN_is]
theorem splice_is {α:Type}:∀ {l:List α} {n:Nat} {m r:List α},splice l n m = some r → r = l.take n ++ m ++ l.drop (n + m.length) ∧ n + m.length ≤ l.length
 | l,0,[],r,h=>by
  rw [splice] at h
  injection h with h
  subst h
  simp
 | x :: l,0,y :: ys,r,h=>by
  rw [splice] at h
  split at h
  ·rename_i t ht
   injection h with h
   subst h
   obtain ⟨e,hl⟩:=splice_is ht
   refine ⟨?_,by simp at hl ⊢;omega⟩
   rw [e]
   simp
  ·cases h
 | x :: l,n + 1,ys,r,h=>by
  rw [splice] at h
  split at h
  ·rename_i t ht
   injection h with h
   subst h
   obtain ⟨e,hl⟩:=splice_is ht
   refine ⟨?_,by simp at hl ⊢;omega⟩
   rw [e]
   simp [Nat.add_right_comm]
  ·cases h
 | [],n + 1,ys,r,h=>by rw [splice] at h;cases h
 | [],0,y :: ys,r,h=>by rw [splice] at h;cases h
theorem AtVs.splice {I:Nat → Nat → Prop} {w:World} {g:Nat → Value} {us vs:List Value} {cs ds r:List V} {n:Nat} (h:AtVs I w g us cs) (h':AtVs I w g vs ds) (hr:splice cs n ds = some r):AtVs I w g (us.take n ++ vs ++ us.drop (n + vs.length)) r:=by
 obtain ⟨e,_⟩:=splice_is hr
 subst e
 rw [h'.1]
 exact ((h.take n).append h').append (h.drop _)
section
variable {I0:Nat → Nat → Prop} {X:Nat → Prop} {w0:W0} {I:Nat → Nat → Prop} {g:Nat → Value} {s:S} {a:Act} {w:World}
theorem constV_at (v:Value):AtV I w g v (constV v):=by
 unfold constV
 split
 ·exact .em
 ·exact .jk _
 ·exact .jk _
 ·rename_i h1 h2 h3
  refine .d (.sc _ ?_)
  cases v <;> first | rfl | (exfalso;exact h2 _ rfl) | (exfalso;exact h3 _ rfl)
theorem constL_at:∀ l:List Value,AtVs I w g l (constL l)
 | []=>.nil I w g
 | x :: l=>.cons (constV_at x) (constL_at l)
theorem RelI.get (h:RelI I0 X w0 I g s a w) (x:Operand):AtV I w g (a.eval x) (s.get x):=by
 cases x with
 | tmp i =>
  show AtV I w g (a.tmps.getD i undef) (getN s.t i)
  rcases getN_get s.t i with h1 | ⟨_,h2⟩
  ·have hi:i < s.t.length:=(List.getElem?_eq_some_iff.1 h1).1
   have hi':i < a.tmps.size:=by have h2:=h.tmp.1;rw [Array.length_toList] at h2;rw [h2];exact hi
   have h3:=h.tmp.2 i a.tmps[i] _ (by simp [hi']) h1
   rw [Array.getD_eq_getD_getElem?,Array.getElem?_eq_getElem hi']
   exact h3
  ·rw [h2];exact .jk _
 | const v=>exact constV_at v
 | global k=>exact .jk _
 | func f=>exact .cl f [] [] rfl fun i u k hu _=>by simp at hu
theorem RelI.gets (h:RelI I0 X w0 I g s a w):∀ l:List Operand,AtVs I w g (l.map a.eval) (getVs s.get l)
 | []=>.nil I w g
 | x :: l=>.cons (h.get x) (h.gets l)
theorem RelI.put (h:RelI I0 X w0 I g s a w) {v:Value} {x:V} (hv:AtV I w g v x) (dst:Option Nat):RelI I0 X w0 I g (s.put dst x) (a.put dst v) w:=by
 cases dst with
 | none=>exact h
 | some d =>
  refine ⟨h.im,h.lt,h.fr,h.kp,h.lo,h.st,h.obj,h.dis,h.out,?_,h.dfr⟩
  show AtVs I w g (a.tmps.setIfInBounds d v).toList (setN s.t d x)
  rw [setN_is,Array.toList_setIfInBounds]
  exact h.tmp.set hv d
theorem Fr.drew {wz:World} (h:Fr X wz w):Fr X wz w.drew:=⟨h.os,h.tape,h.output,h.size,h.block⟩
theorem RelI.drew (h:RelI I0 X w0 I g s a w):RelI I0 X w0 I g s a w.drew:=by
 have hk:Keeps I w w.drew:=fun _ _ _ _ _=>rfl
 refine ⟨h.im,h.lt,h.fr.drew,h.kp,h.lo,h.st,fun k o ho=>?_,h.dis,h.out,h.tmp.mono (fun _ _ h=>h) hk,h.dfr⟩
 have:=h.obj k o ho
 cases o with
 | dead=>exact True.intro
 | box cs=>obtain ⟨b,us,t,h1,h2,h3,h4,h5,h6⟩:=this;exact ⟨b,us,t,h1,h2,h3.mono (fun _ _ h=>h) hk,h4,h5,h6⟩
 | row z e rows=>obtain ⟨us,h1,h2,h3,h4⟩:=this;exact ⟨us,h1,h2,h3.mono (fun _ _ h=>h) hk,h4⟩
 | mp kt es=>obtain ⟨b,l,c,h1,h2,h3,h4⟩:=this;exact ⟨b,l,c,h1,h2,h3.mono (fun _ _ h=>h) hk,h4⟩
 | it P=>obtain ⟨A,n,cap,F,h1,h2,h3,h4⟩:=this;exact ⟨A,n,cap,F,h1,h3 _ fun _ _=>rfl,h3,h4⟩
 | ob T vs=>obtain ⟨b,h1,h2,h3⟩:=this;exact ⟨b,h1,h2,h3⟩
 | kl ks=>exact this
theorem ObjAt.blk {k:Nat} {o:O} (h:ObjAt X w0 I w g k o) (hd:o ≠ .dead):∀ b,gbl (g k) b → b < w.heap.size ∧ Mine X w0 b:=by
 intro b hb
 cases o with
 | dead=>exact absurd rfl hd
 | box cs =>
  obtain ⟨b',us,t,h1,h2,h3,h4,h5,h6⟩:=h
  rw [h1] at hb
  obtain rfl:b' = b:=hb
  exact ⟨(Array.getElem?_eq_some_iff.1 h2).1,h6⟩
 | row z e rows =>
  obtain ⟨us,h1,h2,h3,h4⟩:=h
  rcases h1.2 with ⟨e0,_⟩ | ⟨g',cap,cur,e0,_,hh,_⟩
  ·rw [e0] at hb;exact hb.elim
  ·rw [e0] at hb
   obtain rfl:g' = b:=hb
   exact ⟨(Array.getElem?_eq_some_iff.1 hh).1,(h4 _ (by rw [e0];rfl)).2.2⟩
 | mp kt es =>
  obtain ⟨b',l,c,h1,h2,h3,h4,h5⟩:=h
  rw [h1] at hb
  obtain rfl:b' = b:=hb
  exact ⟨(Array.getElem?_eq_some_iff.1 h2).1,h5⟩
 | ob T vs =>
  obtain ⟨b',h1,h2,h4,h5⟩:=h
  rw [h1] at hb
  obtain rfl:b' = b:=hb
  exact ⟨(Array.getElem?_eq_some_iff.1 h2).1,h5⟩
 | it P =>
  obtain ⟨A,n,cap,F,h1,h2,h3,h4⟩:=h
  rw [h1,gbl_pack] at hb
  obtain ⟨⟨c,t,h5⟩,h6⟩:=h4 b hb
  exact ⟨(Array.getElem?_eq_some_iff.1 h5).1,h6.2⟩
 | kl ks =>
  obtain ⟨us,h1,_⟩:=h
  rw [h1] at hb
  exact hb.elim
theorem RelI.tabs (h:RelI I0 X w0 I g s a w) {X':Nat → Prop} (hX:∀ b,X' b → Mine X w0 b):Tabs X' w:=h.dfr.2.fr h.fr fun b hb hn hx=>(hX b hx).elim (fun h3=>absurd hb (Nat.not_lt.2 h3)) hn
theorem RelI.wld (h:RelI I0 X w0 I g s a w):Wld I w:=⟨fun b k hb=>(h.lt b k hb).1,h.tabs fun _ h=>h.elim⟩
theorem ObjAt.keep {k:Nat} {o:O} {w':World} {I':Nat → Nat → Prop} (h:ObjAt X w0 I w g k o) (hI:∀ b h,I b h → I' b h) (hk:Keeps I w w') (hb:∀ b,gbl (g k) b → w'.heap[b]? = w.heap[b]?) (hI':∀ b,gbl (g k) b → ∀ h,I' b h → I b h):ObjAt X w0 I' w' g k o:=by
 cases o with
 | dead=>exact True.intro
 | box cs =>
  obtain ⟨b,us,t,h1,h2,h3,h4,h5,h6⟩:=h
  have hg:gbl (g k) b:=by rw [h1];rfl
  exact ⟨b,us,t,h1,(hb b hg).trans h2,h3.mono hI hk,h4,fun h h'=>h5 h (hI' b hg h h'),h6⟩
 | row z e rows =>
  obtain ⟨us,h1,h2,h3,h4⟩:=h
  have hblk:∀ b,(g k).ownBlock = some b → gbl (g k) b:=fun b hb'=>by
   rcases h1.2 with ⟨e0,_⟩ | ⟨g',cap,cur,e0,_⟩ <;> rw [e0] at hb' ⊢
   ·cases hb'
   ·exact Option.some.inj hb'
  refine ⟨us,⟨h1.1,?_⟩,h2,h3.mono hI hk,fun b hb'=>⟨fun hz=>hI _ _ ((h4 b hb').1 hz),fun h h'=>(h4 b hb').2.1 h (hI' b (hblk b hb') h h'),(h4 b hb').2.2⟩⟩
  rcases h1.2 with h0 | ⟨g',cap,cur,e0,hb',hh,r⟩
  ·exact .inl h0
  ·exact .inr ⟨g',cap,cur,e0,hb',(hb g' (by rw [e0];rfl)).trans hh,r⟩
 | mp kt es =>
  obtain ⟨b,l,c,h1,h2,h3,h4,h5⟩:=h
  have hg:gbl (g k) b:=by rw [h1];rfl
  exact ⟨b,l,c,h1,(hb b hg).trans h2,h3.mono hI hk,fun h h'=>h4 h (hI' b hg h h'),h5⟩
 | ob T vs =>
  obtain ⟨b,h1,h2,h4,h5⟩:=h
  have hg:gbl (g k) b:=by rw [h1];rfl
  exact ⟨b,h1,(hb b hg).trans h2,fun h h'=>h4 h (hI' b hg h h'),h5⟩
 | it P =>
  obtain ⟨A,n,cap,F,h1,h2,h3,h4⟩:=h
  have hg:∀ b ∈ F,gbl (g k) b:=fun b hb=>by rw [h1,gbl_pack];exact hb
  have hF:∀ b ∈ F,w'.heap[b]? = w.heap[b]?:=fun b hm=>hb b (hg b hm)
  refine ⟨A,n,cap,F,h1,h3 w' hF,fun w2 h2=>h3 w2 fun b hb=>(h2 b hb).trans (hF b hb),fun b hm=>⟨?_,fun h h'=>(h4 b hm).2.1 h (hI' b (hg b hm) h h'),(h4 b hm).2.2⟩⟩
  obtain ⟨c,t,h5⟩:=(h4 b hm).1
  exact ⟨c,t,(hF b hm).trans h5⟩
 | kl ks=>exact h
theorem RelI.grow (h:RelI I0 X w0 I g s a w) {w':World} (hb:Below w.heap.size w w') {I':Nat → Nat → Prop} (hI:∀ b k,I b k → I' b k) (hI':∀ b k,I' b k → I b k ∨ (w.heap.size ≤ b ∧ b < w'.heap.size)):RelI I0 X w0 I' g s a w':=by
 have hk:Keeps I w w':=fun b k hbk i _=>hb.cell (p:=⟨b,i,none⟩) (h.lt b k hbk).1
 refine ⟨fun b k hb=>hI _ _ (h.im b k hb),fun b k hbk=>?_,?_,h.kp.trans fun b k hbk i hi=>hk b k (h.im b k hbk) i hi,h.lo,h.st,fun k o ho=>?_,h.dis,h.out,h.tmp.mono hI hk,h.dfr⟩
 ·rcases hI' b k hbk with h1 | ⟨h1,h2⟩
  ·exact ⟨Nat.lt_of_lt_of_le (h.lt b k h1).1 hb.size,(h.lt b k h1).2⟩
  ·exact ⟨h2,fun h3=>absurd (Nat.lt_of_lt_of_le h3 h.fr.size) (by omega)⟩
 ·exact ⟨hb.os.trans h.fr.os,hb.tape.trans h.fr.tape,hb.output.trans h.fr.output,Nat.le_trans h.fr.size hb.size,fun b hb1 hX=>(hb.block b (Nat.lt_of_lt_of_le hb1 h.fr.size)).trans (h.fr.block b hb1 hX)⟩
 ·cases hd:o with
  | dead=>exact True.intro
  | box cs =>
   have ho':=h.obj k o ho
   rw [hd] at ho'
   refine ho'.keep hI hk (fun b hb'=>hb.block b (ho'.blk (by simp) b hb').1) fun b hb' k' hk'=>?_
   rcases hI' b k' hk' with h1 | ⟨h1,_⟩
   ·exact h1
   ·have:=(ho'.blk (by simp) b hb').1;omega
  | row z e rows =>
   have ho':=h.obj k o ho
   rw [hd] at ho'
   refine ho'.keep hI hk (fun b hb'=>hb.block b (ho'.blk (by simp) b hb').1) fun b hb' k' hk'=>?_
   rcases hI' b k' hk' with h1 | ⟨h1,_⟩
   ·exact h1
   ·have:=(ho'.blk (by simp) b hb').1;omega
  | mp kt es =>
   have ho':=h.obj k o ho
   rw [hd] at ho'
   refine ho'.keep hI hk (fun b hb'=>hb.block b (ho'.blk (by simp) b hb').1) fun b hb' k' hk'=>?_
   rcases hI' b k' hk' with h1 | ⟨h1,_⟩
   ·exact h1
   ·have:=(ho'.blk (by simp) b hb').1;omega
  | ob T vs =>
   have ho':=h.obj k o ho
   rw [hd] at ho'
   refine ho'.keep hI hk (fun b hb'=>hb.block b (ho'.blk (by simp) b hb').1) fun b hb' k' hk'=>?_
   rcases hI' b k' hk' with h1 | ⟨h1,_⟩
   ·exact h1
   ·have:=(ho'.blk (by simp) b hb').1;omega
  | it P =>
   have ho':=h.obj k o ho
   rw [hd] at ho'
   refine ho'.keep hI hk (fun b hb'=>hb.block b (ho'.blk (by simp) b hb').1) fun b hb' k' hk'=>?_
   rcases hI' b k' hk' with h1 | ⟨h1,_⟩
   ·exact h1
   ·have:=(ho'.blk (by simp) b hb').1;omega
  | kl ks =>
   have ho':=h.obj k o ho
   rw [hd] at ho'
   refine ho'.keep hI hk (fun b hb'=>hb.block b (ho'.blk (by simp) b hb').1) fun b hb' k' hk'=>?_
   rcases hI' b k' hk' with h1 | ⟨h1,_⟩
   ·exact h1
   ·have:=(ho'.blk (by simp) b hb').1;omega
end
end
section
theorem AtV.more {I:Nat → Nat → Prop} {w:World} {g g':Nat → Value} (hg:∀ k,g k ≠ .nilFunc → g' k = g k) {v:Value} {x:V} (h:AtV I w g v x):AtV I w g' v x:=by
 induction h with
 | d h=>exact .d h
 | ag us cs hl _ ih=>exact .ag us cs hl ih
 | tu us cs hl _ ih=>exact .tu us cs hl ih
 | em=>exact .em
 | own k A n cap h=>exact .own k A n cap ((congrArg gv (hg k (by intro e;rw [e] at h;cases h))).trans h)
 | ptr k off b h=>exact .ptr k off b ((hg k (by rw [h];simp)).trans h)
 | cl f us ks hl h =>
  exact .cl f us ks hl fun i u k hu hk=>by
   obtain ⟨h1,b,h2⟩:=h i u k hu hk
   have h3:=hg k (by rw [h2];simp)
   exact ⟨h1.trans h3.symm,b,h3.trans h2⟩
 | el k i sz off b n cap h=>exact .el k i sz off b n cap ((hg k (by rw [h];simp)).trans h)
 | ro b o off us cs hi hc hd=>exact .ro b o off us cs hi hc hd
 | mp k b h=>exact .mp k b ((hg k (by rw [h];simp)).trans h)
 | bs k n b cap h hn=>exact .bs k n b cap ((hg k (by rw [h];simp)).trans h) hn
 | jk v=>exact .jk v
theorem AtVs.more {I:Nat → Nat → Prop} {w:World} {g g':Nat → Value} (hg:∀ k,g k ≠ .nilFunc → g' k = g k) {us:List Value} {cs:List V} (h:AtVs I w g us cs):AtVs I w g' us cs :=
 ⟨h.1,fun i u d hu hd=>(h.2 i u d hu hd).more hg⟩
theorem ObjAt.more {X:Nat → Prop} {w0:W0} {I:Nat → Nat → Prop} {w:World} {g g':Nat → Value} (hg:∀ k,g k ≠ .nilFunc → g' k = g k) {k:Nat} {o:O} (h:ObjAt X w0 I w g k o):ObjAt X w0 I w g' k o:=by
 cases o with
 | dead=>exact True.intro
 | box cs =>
  obtain ⟨b,us,t,h1,h2,h3,h4⟩:=h
  exact ⟨b,us,t,(hg k (by rw [h1];simp)).trans h1,h2,h3.more hg,h4⟩
 | row z e rows =>
  obtain ⟨us,h1,h2,h3,h4⟩:=h
  have:g' k = g k:=hg k (by rcases h1.2 with ⟨e0,_⟩ | ⟨g',cap,cur,e0,_⟩ <;> rw [e0] <;> simp)
  exact ⟨us,by rw [this];exact h1,h2,h3,by rw [this];exact h4⟩
 | mp kt es =>
  obtain ⟨b,l,c,h1,h2⟩:=h
  exact ⟨b,l,c,(hg k (by rw [h1];simp)).trans h1,h2⟩
 | ob T vs =>
  obtain ⟨b,h1,h2⟩:=h
  exact ⟨b,(hg k (by rw [h1];simp)).trans h1,h2⟩
 | it P =>
  obtain ⟨A,n,cap,F,h1,h2⟩:=h
  exact ⟨A,n,cap,F,(hg k (by rw [h1];simp [packG])).trans h1,h2⟩
 | kl ks =>
  obtain ⟨us,h1,h2,h3⟩:=h
  refine ⟨us,(hg k (by rw [h1];simp)).trans h1,h2,fun j u hu=>?_⟩
  rcases h3 j u hu with h4 | h4 | h4
  ·exact .inl h4
  ·by_cases e:u = .nilFunc
   ·exact .inl e
   ·exact .inr (.inl ((hg j (by rw [h4];exact e)).trans h4))
  ·exact .inr (.inr h4)
section
variable {I0:Nat → Nat → Prop} {X:Nat → Prop} {w0:W0} {I:Nat → Nat → Prop} {g:Nat → Value} {s:S} {a:Act} {w:World}
def upd (g:Nat → Value) (k:Nat) (v:Value):Nat → Value:=fun j=>if j = k then v else g j
theorem upd_same (g:Nat → Value) (k:Nat) (v:Value):upd g k v k = v:=if_pos rfl
theorem upd_ne {g:Nat → Value} {k:Nat} {v:Value} {j:Nat} (h:j ≠ k):upd g k v j = g j:=if_neg h
theorem RelI.fresh (h:RelI I0 X w0 I g s a w) (v:Value):∀ k,g k ≠ .nilFunc → upd g s.o.length v k = g k:=fun k hk=>upd_ne fun e=>hk (h.out k (by omega))
theorem RelI.newObj (h:RelI I0 X w0 I g s a w) (o:O) (v:Value) (ho:ObjAt X w0 I w (upd g s.o.length v) s.o.length o) (hdis:∀ j b,live s j → gbl (g j) b → ¬ gbl v b):RelI I0 X w0 I (upd g s.o.length v) (s.obj o) a w:=by
 have hg:=h.fresh v
 have hget:∀ k o',(s.o ++ [o])[k]? = some o' → (k < s.o.length ∧ s.o[k]? = some o') ∨ (k = s.o.length ∧ o' = o):=fun k o' hk=>by
  rcases Nat.lt_or_ge k s.o.length with hlt | hge
  ·rw [List.getElem?_append_left hlt] at hk;exact .inl ⟨hlt,hk⟩
  ·rw [List.getElem?_append_right hge] at hk
   have h0:k - s.o.length = 0:=by
    have:=(List.getElem?_eq_some_iff.1 hk).1;simp at this;omega
   rw [h0] at hk
   simp at hk
   exact .inr ⟨by omega,hk.symm⟩
 have ho2:(s.obj o).o = s.o ++ [o]:=snocO_is o s.o
 refine ⟨h.im,h.lt,h.fr,h.kp,by rw [ho2,List.length_append];exact Nat.le_trans h.lo (Nat.le_add_right _ _),fun k hk hr=>by rw [upd_ne (by have:=h.lo;omega)];exact h.st k hk hr,fun k o' hk=>?_,fun j k b hj hk hbj hbk=>?_,fun k hk=>?_,h.tmp.more hg,h.dfr⟩
 ·rw [ho2] at hk
  rcases hget k o' hk with ⟨hlt,hk'⟩ | ⟨rfl,rfl⟩
  ·exact (h.obj k o' hk').more hg
  ·exact ho
 ·obtain ⟨oj,hoj,hdj⟩:=hj
  obtain ⟨ok,hok,hdk⟩:=hk
  rw [ho2] at hoj hok
  rcases hget j oj hoj with ⟨hlj,hj'⟩ | ⟨rfl,rfl⟩ <;> rcases hget k ok hok with ⟨hlk,hk'⟩ | ⟨rfl,rfl⟩
  ·rw [upd_ne (by omega)] at hbj hbk
   exact h.dis j k b ⟨_,hj',hdj⟩ ⟨_,hk',hdk⟩ hbj hbk
  ·rw [upd_ne (by omega)] at hbj
   rw [upd_same] at hbk
   exact absurd hbk (hdis j b ⟨_,hj',hdj⟩ hbj)
  ·rw [upd_ne (by omega)] at hbk
   rw [upd_same] at hbj
   exact absurd hbj (hdis k b ⟨_,hk',hdk⟩ hbk)
  ·rfl
 ·rw [ho2,List.length_append,List.length_singleton] at hk
  rw [upd_ne (by omega)]
  exact h.out k (by omega)
theorem RelI.blk_lt (h:RelI I0 X w0 I g s a w) {j b:Nat} (hj:live s j) (hb:gbl (g j) b):b < w.heap.size:=by
 obtain ⟨o,ho,hd⟩:=hj
 exact ((h.obj j o ho).blk hd b hb).1
theorem RelI.box (h:RelI I0 X w0 I g s a w) {us:List Value} {cs:List V} (hus:AtVs I w g us cs) (h1:∀ u ∈ us,u.oneCell' = true) (t:TypeId) :
  ∃ g',g' s.o.length = .pointer (some ⟨w.heap.size,0,none⟩) ∧ RelI I0 X w0 I g' (s.obj (.box cs)) a (w.alloc (.cells us.toArray t)):=by
 have hb:Below w.heap.size w (w.alloc (.cells us.toArray t)):=(Below.refl _ _).alloc (Nat.le_refl _) _
 have h2:=h.grow hb (I':=I) (fun _ _ h=>h) (fun _ _ h=>.inl h)
 have hk:Keeps I w (w.alloc (.cells us.toArray t)):=fun b k hbk i _=>hb.cell (p:=⟨b,i,none⟩) (h.lt b k hbk).1
 refine ⟨upd g s.o.length (.pointer (some ⟨w.heap.size,0,none⟩)),upd_same ..,h2.newObj _ _ ⟨w.heap.size,us,(t,[]),upd_same ..,by rw [List.append_nil];exact heap_alloc_new w _,(hus.more (h.fresh _)).mono (fun _ _ h=>h) hk,h1,fun k hk'=>?_,.inl h.fr.size⟩ fun j b hj hbj e=>?_⟩
 ·exact absurd (h.lt _ _ hk').1 (by omega)
 ·have e:w.heap.size = b:=e
  have:=h.blk_lt hj hbj
  omega
theorem RelI.obNew (h:RelI I0 X w0 I g s a w) (us:List Value) (t:TypeId) :
  ∃ g',g' s.o.length = .pointer (some ⟨w.heap.size,0,none⟩) ∧ RelI I0 X w0 I g' (s.obj (.ob t us)) a (w.alloc (.cells us.toArray t)):=by
 have hb:Below w.heap.size w (w.alloc (.cells us.toArray t)):=(Below.refl _ _).alloc (Nat.le_refl _) _
 have h2:=h.grow hb (I':=I) (fun _ _ h=>h) (fun _ _ h=>.inl h)
 refine ⟨upd g s.o.length (.pointer (some ⟨w.heap.size,0,none⟩)),upd_same ..,h2.newObj _ _ ⟨w.heap.size,upd_same ..,heap_alloc_new w _,fun k hk'=>?_,.inl h.fr.size⟩ fun j b hj hbj e=>?_⟩
 ·exact absurd (h.lt _ _ hk').1 (by omega)
 ·have e:w.heap.size = b:=e
  have:=h.blk_lt hj hbj
  omega
theorem live_set {s:S} {k:Nat} {o o':O} (hk:s.o[k]? = some o) (hd:o ≠ .dead) {j:Nat} (h:live ⟨s.t,s.o.set k o'⟩ j):live s j:=by
 obtain ⟨oj,hoj,hdj⟩:=h
 by_cases e:k = j
 ·subst e;exact ⟨o,hk,hd⟩
 ·simp only [List.getElem?_set_ne e] at hoj
  exact ⟨oj,hoj,hdj⟩
theorem RelI.store (h:RelI I0 X w0 I g s a w) {k n:Nat} {cs ds r:List V} {vs:List Value} (hk:s.o[k]? = some (.box cs)) (hv:AtVs I w g vs ds) (h1:∀ u ∈ vs,u.oneCell' = true) (hr:splice cs n ds = some r) :
  ∃ (b:Nat) (us:List Value) (t:TypeId),g k = .pointer (some ⟨b,0,none⟩) ∧ w.heap[b]? = some (.cells us.toArray t (0,0)) ∧ n + vs.length ≤ us.length ∧ RelI I0 X w0 I g ⟨s.t,s.o.set k (.box r)⟩ a (w.setRow b (us.take n ++ vs ++ us.drop (n + vs.length)).toArray):=by
 obtain ⟨b,us,t,hg,hb,hus,h1s,hI,hM⟩:=h.obj k _ hk
 obtain ⟨er,hl⟩:=splice_is hr
 have hnl:n + vs.length ≤ us.length:=by rw [hv.1,hus.1];exact hl
 refine ⟨b,us ++ t.2,t.1,hg,hb,by rw [List.length_append];omega,?_⟩
 rw [List.take_append_of_le_length (by omega),List.drop_append_of_le_length hnl,← List.append_assoc]
 have hblk:gbl (g k) b:=by rw [hg];rfl
 have hlk:live s k:=⟨_,hk,by simp⟩
 have hkp:Keeps I w (w.setRow b (us.take n ++ vs ++ us.drop (n + vs.length) ++ t.2).toArray):=fun b' h' hi i _=>by
  refine cell_setRow_other _ _ _ _ fun e=>?_
  simp only at e
  subst e
  exact hI _ hi
 refine ⟨h.im,fun b' h' hi=>by rw [setRow_size];exact h.lt b' h' hi,?_,h.kp.trans fun b k hbk i hi=>hkp b k (h.im b k hbk) i hi,by simpa using h.lo,h.st,fun j o hj=>?_,fun i j b' hi hj=>h.dis i j b' (live_set hk (by simp) hi) (live_set hk (by simp) hj),fun j hj=>h.out j (by simpa using hj),h.tmp.mono (fun _ _ h=>h) hkp,h.dfr⟩
 ·refine ⟨h.fr.os,h.fr.tape,h.fr.output,by rw [setRow_size];exact h.fr.size,fun b' hb' hX=>?_⟩
  rw [setRow_other _ _ _ _ (fun e=>?_)]
  ·exact h.fr.block b' hb' hX
  ·subst e
   rcases hM with hM | hM
   ·omega
   ·exact hX hM
 ·by_cases e:k = j
  ·subst e
   have hlt:k < s.o.length:=(List.getElem?_eq_some_iff.1 hk).1
   simp only [List.getElem?_set_self hlt] at hj
   injection hj with hj
   subst hj
   refine ⟨b,_,t,hg,setRow_heap w b _ _ t.1 (0,0) hb,(hus.splice hv hr).mono (fun _ _ h=>h) hkp,fun u hu=>?_,hI,hM⟩
   rcases List.mem_append.1 hu with hu | hu
   ·rcases List.mem_append.1 hu with hu | hu
    ·exact h1s u (List.mem_of_mem_take hu)
    ·exact h1 u hu
   ·exact h1s u (List.mem_of_mem_drop hu)
  ·simp only [List.getElem?_set_ne e] at hj
   have ho:=h.obj j o hj
   by_cases hd:o = .dead
   ·subst hd;exact True.intro
   ·refine ho.keep (fun _ _ h=>h) hkp (fun b' hb'=>setRow_other _ _ _ _ fun e'=>?_) fun _ _ _ h=>h
    subst e'
    exact e (h.dis k j _ hlk ⟨o,hj,hd⟩ hblk hb')
theorem flat_set {α:Type} {sz off:Nat} {ds:List α}:∀ {rows:List (List α)} {i:Nat} {row row':List α},(∀ r ∈ rows,r.length = sz) → rows[i]? = some row → splice row off ds = some row' → (rows.set i row').flatten = rows.flatten.take (i * sz + off) ++ ds ++ rows.flatten.drop (i * sz + off + ds.length)
 | [],i,row,row',_,h,_=>by simp at h
 | r :: rows,0,row,row',hl,h,hs=>by
  simp at h
  subst h
  obtain ⟨e,hle⟩:=splice_is hs
  subst e
  have hr:=hl r (List.mem_cons_self ..)
  rw [List.set_cons_zero,List.flatten_cons,List.flatten_cons,Nat.zero_mul,Nat.zero_add,List.take_append_of_le_length (by omega),List.drop_append_of_le_length hle]
  simp
 | r :: rows,i + 1,row,row',hl,h,hs=>by
  have hr:=hl r (List.mem_cons_self ..)
  have ih:=flat_set (fun x hx=>hl x (List.mem_cons_of_mem _ hx)) (by simpa using h) hs
  have e1:(i + 1) * sz + off = r.length + (i * sz + off):=by rw [hr,Nat.succ_mul];omega
  rw [List.set_cons_succ,List.flatten_cons,List.flatten_cons,ih,e1,List.take_length_add_append,Nat.add_assoc r.length,List.drop_length_add_append]
  simp
theorem RelI.setEl (h:RelI I0 X w0 I g s a w) {k e i off:Nat} {rows:List (List D)} {row ds row':List D} {vs:List Value} (hk:s.o[k]? = some (.row false e rows)) (hr:rows[i]? = some row) (hv:AtDs I w vs ds) (hs:splice row off ds = some row') :
  ∃ (b n cap:Nat) (cur:Array Value),g k = .slice (some ⟨b,0,none⟩) n cap ∧ w.heap[b]? = some (.cells cur e (0,0)) ∧ i * (ty e).sz + off + vs.length ≤ cur.size ∧ RelI I0 X w0 I g ⟨s.t,s.o.set k (.row false e (rows.set i row'))⟩ a (w.setRow b (cur.toList.take (i * (ty e).sz + off) ++ vs ++ cur.toList.drop (i * (ty e).sz + off + vs.length)).toArray):=by
 obtain ⟨us,h1,h2,h3,h4⟩:=h.obj k _ hk
 have hlt:i < rows.length:=(List.getElem?_eq_some_iff.1 hr).1
 have hrl:=h2 _ (List.mem_of_getElem? hr)
 obtain ⟨es,hle⟩:=splice_is hs
 rcases h1.2 with ⟨_,e2⟩ | ⟨b,cap,cur,hg,_,hb,hnc,hcm,hcs,htk⟩
 ·omega
 have hblk:gbl (g k) b:=by rw [hg];rfl
 have hown:=h4 b (by rw [hg];rfl)
 have hI:∀ h',¬ I b h':=fun h' hi=>by have:=(hown.2.1 h' hi).1;cases this
 have hM:=hown.2.2
 have hlk:live s k:=⟨_,hk,by simp⟩
 have hsub:i * (ty e).sz + (ty e).sz ≤ rows.length * (ty e).sz:=by rw [← Nat.succ_mul];exact Nat.mul_le_mul_right _ hlt
 have hcap:rows.length * (ty e).sz ≤ cap * (ty e).sz:=Nat.mul_le_mul_right _ hnc
 have hfit:i * (ty e).sz + off + vs.length ≤ rows.length * (ty e).sz:=by rw [hv.1];omega
 refine ⟨b,rows.length,cap,cur,hg,hb,by omega,?_⟩
 generalize hp:i * (ty e).sz + off = p at *
 have hkp:Keeps I w (w.setRow b (cur.toList.take p ++ vs ++ cur.toList.drop (p + vs.length)).toArray):=fun b' h' hi i _=>by
  refine cell_setRow_other _ _ _ _ fun e=>?_
  simp only at e
  subst e
  exact hI _ hi
 refine ⟨h.im,fun b' h' hi=>by rw [setRow_size];exact h.lt b' h' hi,?_,h.kp.trans fun b k hbk i hi=>hkp b k (h.im b k hbk) i hi,by simpa using h.lo,h.st,fun j o hj=>?_,fun i j b' hi hj=>h.dis i j b' (live_set hk (by simp) hi) (live_set hk (by simp) hj),fun j hj=>h.out j (by simpa using hj),h.tmp.mono (fun _ _ h=>h) hkp,h.dfr⟩
 ·refine ⟨h.fr.os,h.fr.tape,h.fr.output,by rw [setRow_size];exact h.fr.size,fun b' hb' hX=>?_⟩
  rw [setRow_other _ _ _ _ (fun e=>?_)]
  ·exact h.fr.block b' hb' hX
  ·subst e
   rcases hM with hM | hM
   ·omega
   ·exact hX hM
 ·by_cases e':k = j
  ·subst e'
   have hlt:k < s.o.length:=(List.getElem?_eq_some_iff.1 hk).1
   simp only [List.getElem?_set_self hlt] at hj
   injection hj with hj
   subst hj
   have hcl:cur.toList.length = cap * (ty e).sz:=by simpa using hcs
   refine ⟨us.take p ++ vs ++ us.drop (p + vs.length),⟨?_,.inr ⟨b,cap,_,by rw [hg,List.length_set],Nat.zero_le _,setRow_heap w b _ _ e (0,0) hb,by rw [List.length_set];exact hnc,hcm,?_,?_⟩⟩,fun r hrm=>?_,?_,fun b' hb'=>?_⟩
   ·rw [List.length_set,List.length_append,List.length_append,List.length_take,List.length_drop,h1.1]
    omega
   ·simp only [List.size_toArray,List.length_append,List.length_take,List.length_drop,hcl]
    omega
   ·have hA:(cur.toList.take p ++ vs).length = p + vs.length:=by rw [List.length_append,List.length_take,hcl];omega
    rw [List.length_set,List.take_append,List.take_of_length_le (by rw [hA];omega),hA,← htk,List.take_take,Nat.min_eq_left (by omega),List.drop_take]
   ·rcases List.mem_or_eq_of_mem_set hrm with hrm | rfl
    ·exact h2 r hrm
    ·rw [es,List.length_append,List.length_append,List.length_take,List.length_drop]
     omega
   ·rw [flat_set h2 hr hs,hp]
    rw [← hv.1]
    exact (((h3.take p).append hv).append (h3.drop _)).mono (fun _ _ h=>h) hkp
   ·rw [hg] at hb'
    have hb':=Option.some.inj hb'
    subst hb'
    exact ⟨fun hz=>(by cases hz),fun h' hi=>absurd hi (hI h'),hM⟩
  ·simp only [List.getElem?_set_ne e'] at hj
   have ho:=h.obj j o hj
   by_cases hd:o = .dead
   ·subst hd;exact True.intro
   ·refine ho.keep (fun _ _ h=>h) hkp (fun b' hb'=>setRow_other _ _ _ _ fun e''=>?_) fun _ _ _ h=>h
    subst e''
    exact e' (h.dis k j _ hlk ⟨o,hj,hd⟩ hblk hb')
theorem kill1_at {g':Nat → Value} {k:Nat} (hg:∀ j,j ≠ k → g' j = g j) (hk:isRef (g k) = true → g' k = g k) {v:Value} {x:V} (h:AtV I w g v x):AtV I w g' v (kill1 k x):=by
 have hp:∀ j,isRef (g j) = true → g' j = g j:=fun j e=>by
  by_cases hj:j = k
  ·subst hj;exact hk e
  ·exact hg j hj
 cases h with
 | d h=>exact .d h
 | ag us cs hl h=>exact .jk _
 | tu us cs hl h=>exact .jk _
 | em=>exact .em
 | own j A n cap h =>
  show AtV I w g' _ (match eqN j k with | true=>.jk | false=>.own j)
  cases e:eqN j k
  ·exact .own j A n cap ((congrArg gv (hg j (eqN_no.1 e))).trans h)
  ·exact .jk _
 | ptr j off b h=>exact .ptr j off b ((hp j (by rw [h];rfl)).trans h)
 | mp j b h=>exact .mp j b ((hp j (by rw [h];rfl)).trans h)
 | cl f us ks hl h =>
  exact .cl f us ks hl fun i u j hu hj=>by
   obtain ⟨h1,b,h2⟩:=h i u j hu hj
   have h3:=hp j (by rw [h2];rfl)
   exact ⟨h1.trans h3.symm,b,h3.trans h2⟩
 | el j i sz off b n cap h =>
  show AtV I w g' _ (match eqN j k with | true=>.jk | false=>.el j i sz off)
  cases e:eqN j k
  ·exact .el j i sz off b n cap ((hg j (eqN_no.1 e)).trans h)
  ·exact .jk _
 | ro b o off us cs hi hc hd=>exact .ro b o off us cs hi hc hd
 | bs j n b cap h hn=>exact .bs j n b cap ((hp j (by rw [h];rfl)).trans h) hn
 | jk v=>exact .jk v
theorem killL_at {g':Nat → Value} {k:Nat} (hg:∀ j,j ≠ k → g' j = g j) (hk:isRef (g k) = true → g' k = g k):∀ {cs:List V} {us:List Value},AtVs I w g us cs → AtVs I w g' us (killL k cs)
 | [],us,h=>by rw [h.unnil];exact .nil I w g'
 | c :: cs,us,h=>by
  obtain ⟨u,us',rfl,h1,h2⟩:=h.uncons
  exact .cons (kill1_at hg hk h1) (killL_at hg hk h2)
theorem kill2_at {g':Nat → Value} {k:Nat} (hg:∀ j,j ≠ k → g' j = g j) (hk:isRef (g k) = true → g' k = g k) {v:Value} {x:V} (h:AtV I w g v x):AtV I w g' v (kill2 k x):=by
 cases x with
 | ag cs =>
  obtain ⟨us,rfl,h2⟩:=h.unag
  exact atV_ag (killL_at hg hk h2)
 | tu cs =>
  cases cs with
  | nil =>
   obtain ⟨us,rfl,h2⟩:=h.untu
   rw [h2.unnil]
   exact atV_tu (.nil I w g')
  | cons c cs=>exact .jk _
 | d x=>exact kill1_at hg hk h
 | em=>exact kill1_at hg hk h
 | own j=>exact kill1_at hg hk h
 | ptr j off=>exact kill1_at hg hk h
 | cl f ks=>exact kill1_at hg hk h
 | el j i sz off=>exact kill1_at hg hk h
 | ro cs off=>exact kill1_at hg hk h
 | mp k=>exact kill1_at hg hk h
 | bs k n=>exact kill1_at hg hk h
 | jk=>exact .jk _
theorem killT_at {g':Nat → Value} {k:Nat} (hg:∀ j,j ≠ k → g' j = g j) (hk:isRef (g k) = true → g' k = g k):∀ {cs:List V} {us:List Value},AtVs I w g us cs → AtVs I w g' us (killT k cs)
 | [],us,h=>by rw [h.unnil];exact .nil I w g'
 | c :: cs,us,h=>by
  obtain ⟨u,us',rfl,h1,h2⟩:=h.uncons
  exact .cons (kill2_at hg hk h1) (killT_at hg hk h2)
theorem killO_get (k:Nat):∀ (l:List O) (j:Nat) (o:O),(killO k l)[j]? = some o → ∃ o',l[j]? = some o' ∧ (o ≠ .dead → o' ≠ .dead) ∧ ((∃ cs,o' = .box cs ∧ o = .box (killL k cs)) ∨ (∃ ks,o' = .kl ks ∧ o = .kl (k :: ks)) ∨ (o = o' ∧ (∀ cs,o ≠ .box cs) ∧ ∀ ks,o ≠ .kl ks))
 | [],j,o,h=>by simp [killO] at h
 | x :: l,0,o,h=>by
  cases x with
  | box cs=>simp [killO] at h;exact ⟨_,rfl,fun _=>by simp,.inl ⟨cs,rfl,h.symm⟩⟩
  | kl ks=>simp [killO] at h;exact ⟨_,rfl,fun _=>by simp,.inr (.inl ⟨ks,rfl,h.symm⟩)⟩
  | row z e rows=>simp [killO] at h;subst h;exact ⟨_,rfl,fun h=>h,.inr (.inr ⟨rfl,by simp,by simp⟩)⟩
  | mp kt es=>simp [killO] at h;subst h;exact ⟨_,rfl,fun h=>h,.inr (.inr ⟨rfl,by simp,by simp⟩)⟩
  | it P=>simp [killO] at h;subst h;exact ⟨_,rfl,fun h=>h,.inr (.inr ⟨rfl,by simp,by simp⟩)⟩
  | ob T vs=>simp [killO] at h;subst h;exact ⟨_,rfl,fun h=>h,.inr (.inr ⟨rfl,by simp,by simp⟩)⟩
  | dead=>simp [killO] at h;subst h;exact ⟨_,rfl,fun h=>h,.inr (.inr ⟨rfl,by simp,by simp⟩)⟩
 | x :: l,j + 1,o,h=>by
  have h':(killO k l)[j]? = some o:=by cases x <;> simpa [killO] using h
  obtain ⟨o',h1,h2⟩:=killO_get k l j o h'
  exact ⟨o',by simpa using h1,h2⟩
theorem killO_len (k:Nat):∀ l:List O,(killO k l).length = l.length
 | []=>rfl
 | x :: l=>by cases x <;> simp [killO,killO_len k l]
theorem killO_snoc (k:Nat) (z:Bool) (e:Nat) (r:List (List D)):∀ l:List O,killO k (snocO l (.row z e r)) = snocO (killO k l) (.row z e r)
 | []=>rfl
 | x :: l=>by cases x <;> simp [snocO,killO,killO_snoc k z e r l]
theorem RelI.kill (h:RelI I0 X w0 I g s a w) (k:Nat):RelI I0 X w0 I g ⟨killT k s.t,killO k s.o⟩ a w:=by
 refine ⟨h.im,h.lt,h.fr,h.kp,by simpa [killO_len] using h.lo,h.st,fun j o hj=>?_,fun i j b hi hj=>?_,fun j hj=>?_,killT_at (fun _ _=>rfl) (fun _=>rfl) h.tmp,h.dfr⟩
 ·obtain ⟨o',ho',hdd,hsh⟩:=killO_get k s.o j o hj
  have hob:=h.obj j o' ho'
  rcases hsh with ⟨cs,rfl,rfl⟩ | ⟨ks,rfl,rfl⟩ | ⟨rfl,hnb,hnf⟩
  ·obtain ⟨b,us,t,h1,h2,h3,h4⟩:=hob
   exact ⟨b,us,t,h1,h2,killL_at (fun _ _=>rfl) (fun _=>rfl) h3,h4⟩
  ·obtain ⟨us,h1,h2,h3⟩:=hob
   exact ⟨us,h1,h2,fun i u hu=>(h3 i u hu).imp id (Or.imp id (List.mem_cons_of_mem _))⟩
  ·exact hob
 ·have live':∀ j,live ⟨killT k s.t,killO k s.o⟩ j → live s j:=fun j hj=>by
   obtain ⟨o,ho,hd⟩:=hj
   obtain ⟨o',ho',hdd,_⟩:=killO_get k s.o j o ho
   exact ⟨o',ho',hdd hd⟩
  exact h.dis i j b (live' i hi) (live' j hj)
 ·have hj:(killO k s.o).length ≤ j:=hj
  rw [killO_len] at hj
  exact h.out j hj
theorem RelI.freshly {m:Bool} {z:Bool} {e:Nat} {r:List (List D)} (h:RelI I0 X w0 I g (s.obj (.row z e r)) a w):RelI I0 X w0 I g (s.fresh m (.row z e r)) a w:=by
 cases m with
 | true=>exact h
 | false =>
  have h1:=h.kill (lenO s.o)
  have e1:killO (lenO s.o) (s.obj (.row z e r)).o = snocO (killO (lenO s.o) s.o) (.row z e r):=killO_snoc ..
  rw [e1] at h1
  exact h1
end
end
section
theorem run_append_split {P:Program} (w:World) (base:Nat) (t ty e:TypeId) (i:TypeInfo) (z:Value) (size bytes:Nat) (ht:P.underlying t = some (.slice e)) (hi:P.info? e = some i) (hz:i.zero = some z)
  (hsize:i.size = size) (hby:i.bytes = bytes) (hzs:z.cells.size = size) (hpos:0 < size) (v:Value) (n:Nat) (xs:List Value) (hown:w.ownsRow base e size v n xs)
  (A:Option Addr) (m c:Nat) (ys:List Value) (hs:SrcAt w A m size ys) (h63:n + m ≤ maxLen) (hbytes:(n + m) * bytes ≤ 140737488355328) (hbase:base ≤ w.heap.size) :
  ∃ v' w',(Builtin.append_ #[t,t] ty #[v,.slice A m c]).run P w = .ok v' w' ∧ w'.ownsRow base e size v' (n + m) (xs ++ ys) ∧
   ((∃ g,v.ownBlock = some g ∧ v'.ownBlock = some g ∧ w.grownBy w' (some g)) ∨ (Below w.heap.size w w' ∧ (v'.ownBlock = none ∨ v'.ownBlock = some w.heap.size))):=by
 obtain ⟨hl,hn,hc,h1⟩:=hs
 rcases A with _ | ad
 ·have hm:=hn rfl
  subst hm
  have hys:ys = []:=List.eq_nil_of_length_eq_zero (by rw [hl,Nat.zero_mul])
  subst hys
  refine ⟨v,w,?_,by simpa using hown,?_⟩
  ·rcases hown.2 with ⟨rfl,rfl⟩ | ⟨g,cap,cur,rfl,_,_,hnc,_⟩
   ·simp [Builtin.append_,run_underlying ht,sizeOf,typeInfo,hi,Builtin.lenOf,Builtin.firstCells]
   ·simp [Builtin.append_,run_underlying ht,sizeOf,typeInfo,hi,Builtin.lenOf,Builtin.firstCells,hnc,storeCells]
  ·cases hb:v.ownBlock with
   | none=>exact .inr ⟨Below.refl _ _,.inl rfl⟩
   | some g=>exact .inl ⟨g,rfl,rfl,World.grownBy.refl w _⟩
 ·obtain ⟨v',w',hrun,h2,h3,_,hat⟩:=run_append_own_at (P:=P) w base t ty e i z size bytes ht hi hz hsize hby hzs hpos v n xs hown ad m c ys hl (hc ad rfl) h1 h63 hbytes hbase
  refine ⟨v',w',hrun,h2,?_⟩
  subst hsize
  subst hby
  rcases hown.2 with ⟨rfl,rfl⟩ | ⟨g,cap,cur,rfl,hbg,hg,hnc,hcm,hcs,htake⟩
  ·exact .inr ⟨⟨h3.os,h3.tape,h3.output,h3.size,fun k hk=>h3.block k hk (by simp [Value.ownBlock])⟩,hat⟩
  ·by_cases hroom:n + m ≤ cap
   ·have hfit:n * i.size + ys.length ≤ cur.size:=by rw [hl,hcs,← Nat.add_mul];exact Nat.mul_le_mul_right _ hroom
    have hr:=run_append_room (P:=P) w t ty e i ht hi g n cap cur hg ad m c ys hl (hc ad rfl) h1 hroom hfit
    rw [hrun] at hr
    injection hr with e1 e2
    subst e1
    exact .inl ⟨g,rfl,rfl,h3⟩
   ·have holds:∀ j u,xs[j]? = some u → w.cell? ((⟨g,0,none⟩:Addr).add j) = some u:=hown.cells (g:=g) rfl
    have hr:=run_append_grow (P:=P) w t ty e i z ht hi hz ⟨g,0,none⟩ n cap xs hown.1 holds ad m c ys hl (hc ad rfl) (by omega) (by unfold maxLen at h63;omega) (growslice_fits (by omega) hbytes)
    rw [hrun] at hr
    injection hr with e1 e2
    subst e1
    subst e2
    exact .inr ⟨((Below.refl _ _).drew).alloc (Nat.le_refl _) _,.inr rfl⟩
theorem blk_cell {w w':World} {b:Nat} (h:w'.heap[b]? = w.heap[b]?) (o:Nat):w'.cell? ⟨b,o,none⟩ = w.cell? ⟨b,o,none⟩:=by simp only [World.cell?,h]
section
variable {I0:Nat → Nat → Prop} {X:Nat → Prop} {w0:W0} {I:Nat → Nat → Prop} {g:Nat → Value} {s:S} {a:Act} {w:World}
theorem own_cells {w w':World} {base e sz n m:Nat} {v v':Value} {us vs:List Value} (h:w.ownsRow base e sz v n us) (h':w'.ownsRow base e sz v' (n + m) (us ++ vs)) {b:Nat} (hb:v.ownBlock = some b) (hb':v'.ownBlock = some b) {i:Nat} (hi:i < n * sz) :
  w'.cell? ⟨b,i,none⟩ = w.cell? ⟨b,i,none⟩:=by
 have e1:∀ {w:World} {v:Value} {n:Nat} {us:List Value},w.ownsRow base e sz v n us → v.ownBlock = some b → ∀ i,i < n * sz → w.cell? ⟨b,i,none⟩ = us[i]?:=fun {w v n us} h hb i hi=>by
  rcases h.2 with ⟨rfl,_⟩ | ⟨g,cap,cur,rfl,_⟩
  ·cases hb
  ·injection hb with hb
   subst hb
   exact World.ownsRow.cellAt h i hi
 rw [e1 h hb i hi,e1 h' hb' i (by rw [Nat.add_mul];omega),List.getElem?_append_left (by rw [h.1];exact hi)]
theorem own_gblk {w:World} {base e sz n:Nat} {v:Value} {us:List Value} (h:w.ownsRow base e sz v n us) {b:Nat}:gbl v b ↔ v.ownBlock = some b:=by
 rcases h.2 with ⟨rfl,_⟩ | ⟨g,cap,cur,rfl,_⟩
 ·exact ⟨fun h=>h.elim,fun h=>by cases h⟩
 ·exact ⟨fun h=>congrArg some h,fun h=>Option.some.inj h⟩
theorem own_gv {w:World} {base e sz n:Nat} {v:Value} {us:List Value} (h:w.ownsRow base e sz v n us):gv v = v:=by
 rcases h.2 with ⟨rfl,_⟩ | ⟨g,cap,cur,rfl,_⟩ <;> rfl
theorem own_slice {w:World} {base e sz n:Nat} {v:Value} {us:List Value} (h:w.ownsRow base e sz v n us):∃ A cap,v = .slice A n cap:=by
 rcases h.2 with ⟨rfl,h0⟩ | ⟨g,cap,cur,rfl,_⟩
 ·subst h0;exact ⟨_,_,rfl⟩
 ·exact ⟨_,_,rfl⟩
theorem RelI.appended (h:RelI I0 X w0 I g s a w) {k e:Nat} {z:Bool} {xs ys:List (List D)} (hk:s.o[k]? = some (.row z e xs)) {us vs:List Value} (hown:w.ownsRow 0 e (ty e).sz (g k) xs.length us) (hys:∀ r ∈ ys,r.length = (ty e).sz) (hvs:AtDs I w vs ys.flatten)
  {v':Value} {w':World} (hown':w'.ownsRow 0 e (ty e).sz v' (xs.length + ys.length) (us ++ vs)) (hsp:(∃ b,(g k).ownBlock = some b ∧ v'.ownBlock = some b ∧ w.grownBy w' (some b)) ∨ (Below w.heap.size w w' ∧ (v'.ownBlock = none ∨ v'.ownBlock = some w.heap.size))) :
  ∃ I' g',g' k = v' ∧ RelI I0 X w0 I' g' ⟨killT k s.t,(killO k s.o).set k (.row z e (xs ++ ys))⟩ a w':=by
 have hok:=h.obj k _ hk
 obtain ⟨us2,ho2,hr2,hd2,hb2⟩:=hok
 have hus:us2 = us:=by
  have h1:=ho2.1
  have h2:=hown.1
  rcases ho2.2 with ⟨e1,e2⟩ | ⟨g1,cap,cur,e1,_,hh,_,_,_,ht⟩
  ·rw [e2,Nat.zero_mul] at h1 h2
   rw [List.eq_nil_of_length_eq_zero h1,List.eq_nil_of_length_eq_zero h2]
  ·rcases hown.2 with ⟨e3,e4⟩ | ⟨g2,cap2,cur2,e3,_,hh2,_,_,_,ht2⟩
   ·rw [e1] at e3;cases e3
   ·rw [e1] at e3
    injection e3 with e3 _ _
    injection e3 with e3
    injection e3 with e3
    subst e3
    rw [hh] at hh2
    injection hh2 with hh2
    injection hh2 with hh2
    subst hh2
    rw [← ht,← ht2]
 subst hus
 have hgk:∀ {b},gbl (g k) b ↔ (g k).ownBlock = some b:=own_gblk hown
 have hnp:isRef (g k) = true → upd g k v' k = g k:=fun e=>by obtain ⟨A,cap,e2⟩:=own_slice hown;rw [e2] at e;cases e
 have hlk:live s k:=⟨_,hk,by simp⟩
 have hlt:k < s.o.length:=(List.getElem?_eq_some_iff.1 hk).1
 have hI':∀ b k',I b k' → (fun b k'=>I b k' ∨ (z = true ∧ v'.ownBlock = some b ∧ k' ≤ (xs.length + ys.length) * (ty e).sz)) b k':=fun b k' h=>.inl h
 have hlen:xs.length * (ty e).sz ≤ (xs.length + ys.length) * (ty e).sz:=Nat.mul_le_mul_right _ (by omega)
 have hsz:w.heap.size ≤ w'.heap.size:=by
  rcases hsp with ⟨_,_,_,h3⟩ | ⟨h3,_⟩
  ·exact h3.size
  ·exact h3.size
 have hother:∀ b,b < w.heap.size → (g k).ownBlock ≠ some b → w'.heap[b]? = w.heap[b]?:=fun b hb hne=>by
  rcases hsp with ⟨c,h1,_,h3⟩ | ⟨h3,_⟩
  ·exact h3.block b hb (fun e=>hne (by rw [h1,← e]))
  ·exact h3.block b hb
 have hkp:Keeps I w w':=fun b k' hbk i hi=>by
  have hb:=(h.lt b k' hbk).1
  by_cases hne:(g k).ownBlock = some b
  ·rcases hsp with ⟨c,h1,h2,h3⟩ | ⟨h3,_⟩
   ·rw [h1] at hne
    injection hne with hne
    subst hne
    exact own_cells hown hown' h1 h2 (Nat.lt_of_lt_of_le hi ((hb2 c h1).2.1 _ hbk).2)
   ·exact blk_cell (h3.block b hb) i
  ·exact blk_cell (hother b hb hne) i
 have hnew:∀ b,v'.ownBlock = some b → (g k).ownBlock = some b ∨ b = w.heap.size:=fun b hb=>by
  rcases hsp with ⟨c,h1,h2,_⟩ | ⟨_,h2 | h2⟩
  ·rw [h2] at hb;injection hb with hb;subst hb;exact .inl h1
  ·rw [h2] at hb;cases hb
  ·rw [h2] at hb;injection hb with hb;exact .inr hb.symm
 have hlt':∀ b,v'.ownBlock = some b → b < w'.heap.size:=fun b hb=>(hown'.lt b hb).2
 have hmine:∀ b,v'.ownBlock = some b → Mine X w0 b:=fun b hb=>by
  rcases hnew b hb with h1 | rfl
  ·exact (hb2 b h1).2.2
  ·exact .inl h.fr.size
 have hg':∀ j,j ≠ k → upd g k v' j = g j:=fun j hj=>upd_ne hj
 refine ⟨fun b k'=>I b k' ∨ (z = true ∧ v'.ownBlock = some b ∧ k' ≤ (xs.length + ys.length) * (ty e).sz),upd g k v',upd_same ..,?_⟩
 refine ⟨fun b k' hb=>.inl (h.im b k' hb),fun b k' hb=>?_,?_,h.kp.trans fun b k hbk i hi=>hkp b k (h.im b k hbk) i hi,by simpa [killO_len] using h.lo,fun j hj hr=>?_,fun j o hj=>?_,fun i j b hi hj hbi hbj=>?_,fun j hj=>?_,?_,h.dfr⟩
 ·rcases hb with hb | ⟨_,hb,_⟩
  ·exact ⟨Nat.lt_of_lt_of_le (h.lt b k' hb).1 hsz,(h.lt b k' hb).2⟩
  ·refine ⟨hlt' b hb,fun hlt0=>?_⟩
   rcases hmine b hb with h1 | h1
   ·omega
   ·exact .inr h1
 ·have hf:=h.fr
  have hos:w'.os = w.os ∧ w'.tape = w.tape ∧ w'.output = w.output:=by
   rcases hsp with ⟨_,_,_,h3⟩ | ⟨h3,_⟩
   ·exact ⟨h3.os,h3.tape,h3.output⟩
   ·exact ⟨h3.os,h3.tape,h3.output⟩
  refine ⟨hos.1.trans hf.os,hos.2.1.trans hf.tape,hos.2.2.trans hf.output,Nat.le_trans hf.size hsz,fun b hb hX=>?_⟩
  rw [hother b (Nat.lt_of_lt_of_le hb hf.size) fun e=>?_]
  ·exact hf.block b hb hX
  ·rcases (hb2 b e).2.2 with h1 | h1
   ·omega
   ·exact hX h1
 ·have e:=h.st j hj hr
  refine (hg' j fun ej=>?_).trans e
  subst ej
  rw [← e] at hr
  rcases hown.2 with ⟨e1,_⟩ | ⟨_,_,_,e1,_⟩ <;> rw [e1] at hr <;> cases hr
 ·by_cases hjk:k = j
  ·subst hjk
   simp only [List.getElem?_set_self (show k < (killO k s.o).length by rw [killO_len];exact hlt)] at hj
   injection hj with hj
   subst hj
   refine ⟨us2 ++ vs,by rw [upd_same,List.length_append];exact hown',fun r hr=>?_,?_,fun b hb=>?_⟩
   ·rcases List.mem_append.1 hr with hr | hr
    ·exact hr2 r hr
    ·exact hys r hr
   ·rw [List.flatten_append]
    exact ((hd2.append hvs)).mono hI' hkp
   ·rw [upd_same] at hb
    rw [List.length_append]
    refine ⟨fun hz=>.inr ⟨hz,hb,Nat.le_refl _⟩,fun k' hk'=>?_,hmine b hb⟩
    rcases hk' with hk' | ⟨hz,_,hk'⟩
    ·rcases hnew b hb with h1 | rfl
     ·have h2:=(hb2 b h1).2.1 _ hk'
      exact ⟨h2.1,Nat.le_trans h2.2 hlen⟩
     ·exact absurd (h.lt _ _ hk').1 (by omega)
    ·exact ⟨hz,hk'⟩
  ·simp only [List.getElem?_set_ne hjk] at hj
   obtain ⟨o',ho',hdd,hsh⟩:=killO_get k s.o j o hj
   by_cases hd:o = .dead
   ·subst hd;exact True.intro
   have hob:=h.obj j o' ho'
   have hd':=hdd hd
   have hne:∀ b,gbl (g j) b → (g k).ownBlock ≠ some b:=fun b hb e=>hjk (h.dis k j b hlk ⟨o',ho',hd'⟩ (hgk.2 e) hb)
   have hkeep:ObjAt X w0 (fun b k'=>I b k' ∨ (z = true ∧ v'.ownBlock = some b ∧ k' ≤ (xs.length + ys.length) * (ty e).sz)) w' g j o':=by
    refine hob.keep hI' hkp (fun b hb=>hother b (hob.blk hd' b hb).1 (hne b hb)) fun b hb k' hk'=>?_
    rcases hk' with hk' | ⟨_,hk',_⟩
    ·exact hk'
    ·rcases hnew b hk' with h1 | rfl
     ·exact absurd h1 (hne b hb)
     ·exact absurd (hob.blk hd' _ hb).1 (by omega)
   rcases hsh with ⟨cs,rfl,rfl⟩ | ⟨ks,rfl,rfl⟩ | ⟨rfl,hnb,hnf⟩
   ·obtain ⟨b,us,t,h1,h2,h3,h4⟩:=hkeep
    exact ⟨b,us,t,by rw [upd_ne (Ne.symm hjk)];exact h1,h2,killL_at hg' hnp h3,h4⟩
   ·obtain ⟨us,h1,h2,h3⟩:=hkeep
    refine ⟨us,by rw [upd_ne (Ne.symm hjk)];exact h1,h2,fun i u hu=>?_⟩
    by_cases e:i = k
    ·exact .inr (.inr (by rw [e];exact List.mem_cons_self ..))
    ·rcases h3 i u hu with h4 | h4 | h4
     ·exact .inl h4
     ·exact .inr (.inl (by rw [upd_ne e];exact h4))
     ·exact .inr (.inr (List.mem_cons_of_mem _ h4))
   ·cases o with
    | dead=>exact True.intro
    | box cs=>exact absurd rfl (hnb cs)
    | kl ks=>exact absurd rfl (hnf ks)
    | mp kt es =>
     obtain ⟨b,l,c,h1,h2⟩:=hkeep
     exact ⟨b,l,c,by rw [upd_ne (Ne.symm hjk)];exact h1,h2⟩
    | ob T vs =>
     obtain ⟨b,h1,h2⟩:=hkeep
     exact ⟨b,by rw [upd_ne (Ne.symm hjk)];exact h1,h2⟩
    | it P =>
     obtain ⟨A,n,cap,F,h1,h2⟩:=hkeep
     exact ⟨A,n,cap,F,by rw [upd_ne (Ne.symm hjk)];exact h1,h2⟩
    | row z2 e2 rows =>
     obtain ⟨us,h1,h2,h3,h4⟩:=hkeep
     exact ⟨us,by rw [upd_ne (Ne.symm hjk)];exact h1,h2,h3,by rw [upd_ne (Ne.symm hjk)];exact h4⟩
 ·have live':∀ j,live ⟨killT k s.t,(killO k s.o).set k (.row z e (xs ++ ys))⟩ j → live s j:=fun j hj=>by
   obtain ⟨o,ho,hd⟩:=hj
   by_cases hjk:k = j
   ·subst hjk;exact hlk
   ·simp only [List.getElem?_set_ne hjk] at ho
    obtain ⟨o',ho',hdd,_⟩:=killO_get k s.o j o ho
    exact ⟨o',ho',hdd hd⟩
  have hi':=live' i hi
  have hj':=live' j hj
  have hv'b:∀ {b},gbl v' b ↔ v'.ownBlock = some b:=own_gblk hown'
  have cross:∀ j,j ≠ k → live s j → gbl (g j) b → ¬ gbl v' b:=fun j hjk hl hb e=>by
   have e:=hv'b.1 e
   rcases hnew b e with h1 | rfl
   ·exact hjk (h.dis j k b hl hlk hb (hgk.2 h1))
   ·have:=h.blk_lt hl hb;omega
  by_cases hik:i = k <;> by_cases hjk:j = k
  ·rw [hik,hjk]
  ·subst hik
   rw [upd_same] at hbi
   rw [upd_ne hjk] at hbj
   exact absurd hbi (cross j hjk hj' hbj)
  ·subst hjk
   rw [upd_same] at hbj
   rw [upd_ne hik] at hbi
   exact absurd hbj (cross i hik hi' hbi)
  ·rw [upd_ne hik] at hbi
   rw [upd_ne hjk] at hbj
   exact h.dis i j b hi' hj' hbi hbj
 ·simp only [List.length_set,killO_len] at hj
  rw [upd_ne (by omega)]
  exact h.out j hj
 ·exact (killT_at hg' hnp h.tmp).mono hI' hkp
end
end
section
theorem ty_info {t:Nat} (h:tyKnown t = true):∃ x z,Tryz.prog.info? t = some x ∧ x.size = (ty t).sz ∧ x.zero = some z ∧ z.cells = (ty t).zero.toArray ∧ (ty t).zero.length = (ty t).sz ∧ x.bytes ≤ 1024:=by
 have hk:=tyOk t h
 have hi:=hk.info
 have hb:=hk.bytes
 cases hx:Tryz.prog.info? t with
 | none=>rw [hx] at hi;cases hi
 | some x =>
  rw [hx] at hi hb
  simp only [Option.map_some,Option.some.injEq,Prod.mk.injEq] at hi
  cases hz:x.zero with
  | none=>rw [hz] at hi;simp at hi
  | some z =>
   rw [hz] at hi
   simp only [Option.map_some,Option.some.injEq] at hi
   refine ⟨x,z,rfl,hi.1,hz,hi.2,hk.len,?_⟩
   simpa using hb
theorem ty_size {t:Nat} (h:tyKnown t = true) (w:World):(sizeOf t).run Tryz.prog w = .ok (ty t).sz w:=by
 obtain ⟨x,z,h1,h2,_⟩:=ty_info h
 simp [sizeOf,typeInfo,h1,h2]
theorem ty_zero {t:Nat} (h:tyKnown t = true) (w:World):∃ z,(zeroValue t).run Tryz.prog w = .ok z w ∧ z.cells = (ty t).zero.toArray:=by
 obtain ⟨x,z,h1,_,h3,h4,_⟩:=ty_info h
 exact ⟨z,by simp [zeroValue,typeInfo,h1,h3],h4⟩
theorem ty_agg {t:Nat} (h:tyKnown t = true) (w:World):(isAgg t).run Tryz.prog w = .ok (ty t).agg w:=by
 have hk:=(tyOk t h).agg
 cases hu:Tryz.prog.underlying t with
 | none=>rw [hu] at hk;cases hk
 | some d =>
  rw [hu] at hk
  have:=run_underlying hu w
  cases d <;> simp only [aggOf,Option.some.injEq] at hk <;> simp [isAgg,this,← hk]
theorem ty_slice {t e:Nat} (h:tyKnown t = true) (he:(ty t).elem = some e):Tryz.prog.underlying t = some (.slice e):=by
 have hk:=tyOk t h
 have h1:=hk.elem
 have h2:=hk.under
 unfold kindOk at h2
 cases hkind:(ty t).kind <;> rw [hkind] at h1 h2 <;> simp only [he,Option.isNone_some] at h1 h2 <;> first | exact h2.1 | exact absurd h1 (by decide)
theorem ty_str {t:Nat} (h:tyKnown t = true) (he:(ty t).kind = .str):Tryz.prog.underlying t = some .string:=by
 have h2:=(tyOk t h).under
 unfold kindOk at h2
 rw [he] at h2
 exact h2
theorem ty_int {t:Nat} {k:IntKind} (h:tyKnown t = true) (he:(ty t).kind = .int k):Tryz.prog.underlying t = some (.int k):=by
 have h2:=(tyOk t h).under
 unfold kindOk at h2
 rw [he] at h2
 exact h2
theorem ty_ptr {t:Nat} (h:tyKnown t = true) (he:(ty t).kind = .ptr):∃ e,Tryz.prog.underlying t = some (.pointer e):=by
 have h2:=(tyOk t h).under
 unfold kindOk at h2
 rw [he] at h2
 obtain ⟨h3,h4⟩:=h2
 cases hv:(ty t).val with
 | none=>rw [hv] at h4;cases h4
 | some e=>rw [hv] at h3;exact ⟨e,h3⟩
theorem ty_bool {t:Nat} (h:tyKnown t = true) (he:(ty t).kind = .bool):Tryz.prog.underlying t = some .bool:=by
 have h2:=(tyOk t h).under
 unfold kindOk at h2
 rw [he] at h2
 exact h2
theorem ty_array {t e:Nat} (h:tyKnown t = true) (he:(ty t).kind = .array) (hv:(ty t).val = some e):Tryz.prog.underlying t = some (.array (ty t).alen e):=by
 have h2:=(tyOk t h).under
 unfold kindOk at h2
 rw [he] at h2
 obtain ⟨h3,h4⟩:=h2
 rw [hv] at h3
 exact h3
theorem ty_map {t k e:Nat} (h:tyKnown t = true) (he:(ty t).kind = .map) (hk:(ty t).key = some k) (hv:(ty t).val = some e):Tryz.prog.underlying t = some (.map k e):=by
 have h2:=(tyOk t h).under
 unfold kindOk at h2
 rw [he] at h2
 obtain ⟨h3,h4⟩:=h2
 rw [hk,hv] at h3
 exact h3
theorem ty_struct {t:Nat} (h:tyKnown t = true) (he:(ty t).kind = .struct):∃ fs,Tryz.prog.underlying t = some (.struct fs) ∧ fs.toList.map (fun f=>(f.offset,(Tryz.prog.info? f.type).map (·.size))) = (ty t).flds.map (fun x=>(x.1,some x.2)) ∧ fs.toList.map (·.type) = (ty t).fty:=by
 have h2:=(tyOk t h).under
 unfold kindOk at h2
 rw [he] at h2
 simp only at h2
 cases hu:Tryz.prog.underlying t with
 | none=>rw [hu] at h2;cases h2
 | some d =>
  rw [hu] at h2
  cases d <;> first | cases h2 | skip
  rename_i fs
  simp only [fldsOf,Option.some.injEq,Prod.mk.injEq] at h2
  exact ⟨fs,rfl,h2.1,h2.2⟩
theorem ty_fld {t i off sz:Nat} (h:tyKnown t = true) (hf:(ty t).flds[i]? = some (off,sz)):∃ fs f,Tryz.prog.underlying t = some (.struct fs) ∧ fs[i]? = some f ∧ f.offset = off ∧ (Tryz.prog.info? f.type).map (·.size) = some sz ∧ (ty t).fty[i]? = some f.type ∧ (ty t).kind = .struct:=by
 have hk:=tyOk t h
 have hst:(ty t).kind = .struct:=by
  have h1:=hk.flds
  cases hkind:(ty t).kind <;> rw [hkind] at h1 <;> first | rfl | skip
  all_goals
   simp only [List.isEmpty_iff] at h1
   rw [h1] at hf
   simp at hf
 obtain ⟨fs,h1,h2,h3⟩:=ty_struct h hst
 have h4:=congrArg (·[i]?) h2
 simp only [List.getElem?_map,hf,Option.map_some] at h4
 cases hfi:fs.toList[i]? with
 | none=>rw [hfi] at h4;cases h4
 | some f =>
  rw [hfi] at h4
  simp only [Option.map_some,Option.some.injEq,Prod.mk.injEq] at h4
  refine ⟨fs,f,h1,by rw [← Array.getElem?_toList];exact hfi,h4.1,h4.2,?_,hst⟩
  rw [← h3,List.getElem?_map,hfi]
  rfl
theorem take1_is {α:Type} {n:Nat} {l:List α} {x:α} (h:takeN 1 (dropN n l) = some [x]):l[n]? = some x:=by
 rw [dropN_is] at h
 obtain ⟨h1,_⟩:=takeN_is h
 have:=congrArg (·[0]?) h1
 simp only [List.getElem?_cons_zero,List.getElem?_take,Nat.zero_lt_one,if_true,List.getElem?_drop,Nat.add_zero] at this
 exact this.symm
section
variable {I:Nat → Nat → Prop} {g:Nat → Value} {w:World}
theorem pack_at {b:Bool} {l:List V} {x:V} {us:List Value} (hu:AtVs I w g us l) (hp:pack b l = some x):AtV I w g (if b = true then .agg us.toArray else us.getD 0 undef) x ∧ (b = false → us.length = 1):=by
 cases b with
 | true =>
  rw [pack] at hp
  injection hp with hp
  subst hp
  exact ⟨atV_ag hu,by simp⟩
 | false =>
  match l,hp with
  | [y],hp =>
   rw [pack] at hp
   injection hp with hp
   subst hp
   obtain ⟨u,us',rfl,h1,h2⟩:=hu.uncons
   rw [h2.unnil]
   exact ⟨h1,fun _=>rfl⟩
theorem load_at {t b p:Nat} (ht:tyKnown t = true) {us:List Value} {l:List V} {x:V} (hl:us.length = (ty t).sz) (hc:∀ j u,us[j]? = some u → w.cell? ⟨b,p + j,none⟩ = some u) (hu:AtVs I w g us l) (hp:pack (ty t).agg l = some x) :
  ∃ v,(Instr.loadAt t (.pointer (some ⟨b,p,none⟩))).run Tryz.prog w = .ok v w ∧ AtV I w g v x:=by
 obtain ⟨hx,h1⟩:=pack_at hu hp
 refine ⟨_,?_,hx⟩
 simp only [Instr.loadAt,Instr.sureAddr,loadVar,Sem.run_bind,Sem.run_pure,Result.andThen_ok,ty_agg ht]
 cases ha:(ty t).agg with
 | true =>
  simp only [if_true,Sem.run_bind,ty_size ht,Result.andThen_ok,Sem.run_pure]
  rw [← hl,run_loadCells_list (P:=Tryz.prog) w ⟨b,p,none⟩ us (fun j v hv=>by rw [Addr.add_lit];exact hc j v hv)]
  rfl
 | false =>
  have h2:=h1 ha
  match us,h2 with
  | [u],_ =>
   have h3:=hc 0 u rfl
   simp only [Nat.add_zero] at h3
   simp [h3]
end
end
section
def AtRs (I:Nat → Nat → Prop) (w:World):List Value → List R → Prop
 | [],[]=>True
 | v :: vs,r :: rs=>AtR I w v r ∧ AtRs I w vs rs
 | _,_=>False
def AtRes (I:Nat → Nat → Prop) (w:World) (v:Value):List R → Prop
 | [r]=>AtR I w v r
 | rs=>∃ us,v = .tuple us.toArray ∧ AtRs I w us rs
def nxt (I:Nat → Nat → Prop) (w w':World) (b h:Nat):Prop:=I b h ∨ (w.heap.size ≤ b ∧ b < w'.heap.size)
def fnOk (P:Program) (f:Nat):Bool:=match P.funcs[f]? with | some fn=>fn.name != "runtime.NumGoroutine" && fn.body.isSome | none=>false
def Spec (f:Nat) (rs q:List R):Prop:=fnOk Tryz.prog f = true ∧ ∀ (I:Nat → Nat → Prop) (w:World) (args:List Value),Wld I w → AtRs I w args rs →
 Calls Tryz.prog f args.toArray w fun e w'=>∃ v,e = .returned v ∧ AtRes (nxt I w w') w' v q ∧ Below w.heap.size w w'
theorem AtRs.mono {I I':Nat → Nat → Prop} {w w':World} (hI:∀ b h,I b h → I' b h) (hk:Keeps I w w'):∀ {vs:List Value} {rs:List R},AtRs I w vs rs → AtRs I' w' vs rs
 | [],[],_=>trivial
 | _ :: _,_ :: _,h=>⟨h.1.mono hI hk,h.2.mono hI hk⟩
 | [],_ :: _,h=>h.elim
 | _ :: _,[],h=>h.elim
theorem AtRs.len {I:Nat → Nat → Prop} {w:World}:∀ {vs:List Value} {rs:List R},AtRs I w vs rs → vs.length = rs.length
 | [],[],_=>rfl
 | _ :: _,_ :: _,h=>by simp [h.2.len]
 | [],_ :: _,h=>h.elim
 | _ :: _,[],h=>h.elim
theorem resR_at {I:Nat → Nat → Prop} {w:World} (g:Nat → Value) {v:Value} {r:R} (h:AtR I w v r):AtV I w g v (resR r):=by
 cases r with
 | one x=>exact .d h
 | ag xs=>obtain ⟨us,rfl,h2⟩:=h;exact atV_ag (h2.toV g)
theorem resRs_at {I:Nat → Nat → Prop} {w:World} (g:Nat → Value):∀ {vs:List Value} {rs:List R},AtRs I w vs rs → AtVs I w g vs (resRs rs)
 | [],[],_=>.nil I w g
 | _ :: _,_ :: _,h=>.cons (resR_at g h.1) (resRs_at g h.2)
 | [],_ :: _,h=>h.elim
 | _ :: _,[],h=>h.elim
theorem resV_at {I:Nat → Nat → Prop} {w:World} (g:Nat → Value) {v:Value} {rs:List R} (h:AtRes I w v rs):AtV I w g v (resV rs):=by
 match rs,h with
 | [],h=>obtain ⟨us,rfl,h2⟩:=h;exact atV_tu (resRs_at g h2)
 | [r],h=>exact resR_at g h
 | r :: r' :: rs,h=>obtain ⟨us,rfl,h2⟩:=h;exact atV_tu (resRs_at g h2)
section
variable {I0:Nat → Nat → Prop} {X:Nat → Prop} {w0:W0} {I:Nat → Nat → Prop} {g:Nat → Value} {s:S} {a:Act} {w:World}
theorem toD_at (h:RelI I0 X w0 I g s a w) {v:Value} {x:V} {d:D} (hv:AtV I w g v x) (hd:toD s.o x = some d):AtD I w v d:=by
 cases x with
 | d x=>rw [toD] at hd;injection hd with hd;subst hd;cases hv with | d h=>exact h
 | em=>rw [toD] at hd;injection hd with hd;subst hd;cases hv;exact .nil _ _ _
 | own k =>
  rw [toD] at hd
  split at hd
  ·rename_i e rows ho
   injection hd with hd
   subst hd
   have hk:=getO_some ho (by simp)
   obtain ⟨us,h1,h2,h3,h4⟩:=h.obj k _ hk
   cases hv with
   | own k A n cap hg =>
    rw [own_gv h1] at hg
    rcases h1.2 with ⟨e1,e2⟩ | ⟨g1,cap1,cur,e1,_,hh,hnc,_⟩
    ·rw [hg] at e1
     injection e1 with e1 e3 e4
     subst e1;subst e3;subst e4
     rw [List.eq_nil_of_length_eq_zero e2]
     exact .nil _ _ _
    ·rw [hg] at e1
     injection e1 with e1 e3 e4
     subst e1;subst e3;subst e4
     refine .sl g1 0 cap _ rows us hnc ?_ h2 h1.1 (fun i u hu=>?_) h3.2
     ·rw [Nat.zero_add];exact ⟨_,Nat.le_refl _,(h4 g1 (by rw [hg];rfl)).1 rfl⟩
     ·rw [Nat.zero_add]
      have hlt:i < rows.length * (ty e).sz:=by rw [← h1.1];exact (List.getElem?_eq_some_iff.1 hu).1
      rw [hg] at h1
      rw [World.ownsRow.cellAt h1 i hlt,hu]
  ·cases hd
 | ag cs=>rw [toD] at hd <;> first | cases hd | simp
 | tu cs=>rw [toD] at hd <;> first | cases hd | simp
 | ptr k off=>rw [toD] at hd <;> first | cases hd | simp
 | cl f ks =>
  cases ks with
  | nil =>
   rw [toD] at hd
   injection hd with hd
   subst hd
   cases hv with
   | cl f us ks hl h =>
    rw [List.eq_nil_of_length_eq_zero hl]
    exact .sc _ rfl
  | cons k ks=>rw [toD] at hd <;> first | cases hd | simp
 | el k i sz off=>rw [toD] at hd <;> first | cases hd | simp
 | ro cs off=>rw [toD] at hd <;> first | cases hd | simp
 | mp k=>rw [toD] at hd <;> first | cases hd | simp
 | bs k n=>rw [toD] at hd <;> first | cases hd | simp
 | jk=>rw [toD] at hd <;> first | cases hd | simp
theorem toDs_at (h:RelI I0 X w0 I g s a w):∀ {xs:List V} {vs:List Value} {ds:List D},AtVs I w g vs xs → toDs s.o xs = some ds → AtDs I w vs ds
 | [],vs,ds,hv,hd=>by
  rw [toDs] at hd
  injection hd with hd
  subst hd
  rw [hv.unnil]
  exact .nil I w
 | x :: xs,vs,ds,hv,hd=>by
  obtain ⟨u,us,rfl,h1,h2⟩:=hv.uncons
  rw [toDs] at hd
  split at hd
  ·rename_i y hy
   split at hd
   ·rename_i ys hys
    injection hd with hd
    subst hd
    exact .cons (toD_at h h1 hy) (toDs_at h h2 hys)
   ·cases hd
  ·cases hd
theorem toR_at (h:RelI I0 X w0 I g s a w) {v:Value} {x:V} {r:R} (hv:AtV I w g v x) (hr:toR s.o x = some r):AtR I w v r:=by
 by_cases hx:∃ l,x = .ag l
 ·obtain ⟨l,rfl⟩:=hx
  rw [toR] at hr
  split at hr
  ·rename_i ys hys
   injection hr with hr
   subst hr
   obtain ⟨us,rfl,h2⟩:=hv.unag
   exact ⟨us,rfl,toDs_at h h2 hys⟩
  ·cases hr
 ·rw [toR] at hr
  ·split at hr
   ·rename_i y hy
    injection hr with hr
    subst hr
    exact toD_at h hv hy
   ·cases hr
  ·exact fun l e=>hx ⟨l,e⟩
theorem toRs_at (h:RelI I0 X w0 I g s a w):∀ {xs:List V} {vs:List Value} {rs:List R},AtVs I w g vs xs → toRs s.o xs = some rs → AtRs I w vs rs
 | [],vs,rs,hv,hd=>by
  rw [toRs] at hd
  injection hd with hd
  subst hd
  rw [hv.unnil]
  trivial
 | x :: xs,vs,rs,hv,hd=>by
  obtain ⟨u,us,rfl,h1,h2⟩:=hv.uncons
  rw [toRs] at hd
  split at hd
  ·rename_i y hy
   split at hd
   ·rename_i ys hys
    injection hd with hd
    subst hd
    exact ⟨toR_at h h1 hy,toRs_at h h2 hys⟩
   ·cases hd
  ·cases hd
end
def weakL:List V → List V → Prop
 | [],[]=>True
 | _ :: l,.jk :: m=>weakL l m
 | x :: l,y :: m=>x = y ∧ weakL l m
 | _,_=>False
def subN:List Nat → List Nat → Bool
 | [],_=>true
 | k :: l,m=>match memN k m with | true=>subN l m | false=>false
def weakO:List O → List O → Prop
 | _,[]=>True
 | .box cs :: l,.box ds :: m=>weakL cs ds ∧ weakO l m
 | .row z e r :: l,.row z' e' r' :: m=>(z = z' ∧ e = e' ∧ r = r') ∧ weakO l m
 | .mp k es :: l,.mp k' es' :: m=>(k = k' ∧ es = es') ∧ weakO l m
 | .kl ks :: l,.kl ks' :: m=>subN ks ks' = true ∧ weakO l m
 | .it P :: l,.it P' :: m=>P = P' ∧ weakO l m
 | .ob T vs :: l,.ob T' vs' :: m=>(T = T' ∧ vs = vs') ∧ weakO l m
 | _ :: l,.dead :: m=>weakO l m
 | _,_=>False
def lowN (n:Nat):List Nat → Bool
 | []=>true
 | k :: l=>match Nat.blt k n with | true=>lowN n l | false=>false
def lowV (n:Nat):V → Bool
 | .own k=>Nat.blt k n
 | .ptr k _=>Nat.blt k n
 | .cl _ ks=>lowN n ks
 | .el k _ _ _=>Nat.blt k n
 | .mp k=>Nat.blt k n
 | .bs k _=>Nat.blt k n
 | .ag _=>false
 | .tu _=>false
 | _=>true
def lowL (n:Nat):List V → Bool
 | []=>true
 | x :: l=>match lowV n x with | true=>lowL n l | false=>false
def low2 (n:Nat):V → Bool
 | .ag cs=>lowL n cs
 | .tu []=>true
 | .tu _=>false
 | x=>lowV n x
def lowT (n:Nat):List V → Bool
 | []=>true
 | x :: l=>match low2 n x with | true=>lowT n l | false=>false
def lowO (n:Nat):List O → Bool
 | []=>true
 | .box cs :: l=>match lowL n cs with | true=>lowO n l | false=>false
 | _ :: l=>lowO n l
def weak (s s':S):Prop:=weakL s.t s'.t ∧ weakO s.o s'.o ∧ lowT (lenO s'.o) s'.t = true ∧ lowO (lenO s'.o) s'.o = true
theorem lowN_at {n:Nat}:∀ {ks:List Nat} {i k:Nat},lowN n ks = true → ks[i]? = some k → k < n
 | [],i,k,_,hk=>by simp at hk
 | x :: ks,i,k,h,hk=>by
  rw [lowN] at h
  split at h
  ·rename_i hx
   cases i with
   | zero=>simp at hk;subst hk;simpa [Nat.blt_eq] using hx
   | succ i=>exact lowN_at h (by simpa using hk)
  ·cases h
theorem lowO_at {n:Nat}:∀ {l:List O} {k:Nat} {cs:List V},lowO n l = true → l[k]? = some (.box cs) → lowL n cs = true
 | [],k,cs,_,h=>by simp at h
 | x :: l,k,cs,hl,h=>by
  cases k with
  | zero =>
   simp at h
   subst h
   rw [lowO] at hl
   split at hl
   ·assumption
   ·cases hl
  | succ k =>
   refine lowO_at (l:=l) (k:=k) ?_ (by simpa using h)
   cases x with
   | box ds =>
    rw [lowO] at hl
    split at hl
    ·exact hl
    ·cases hl
   | row z e r=>exact hl
   | mp kt es=>exact hl
   | kl ks=>exact hl
   | it P=>exact hl
   | ob T vs=>exact hl
   | dead=>exact hl
def elemOk (t:Nat):Bool:=match (ty t).elem with | some e=>tyKnown e | none=>true
def valOk (t:Nat):Bool:=match (ty t).kind with
 | .array=>match (ty t).val with | some e=>tyKnown e | none=>true
 | _=>true
def eqOk (t:Nat):Bool:=match (ty t).kind with | .ptr=>tyKnown t | .bool=>tyKnown t | .slice=>tyKnown t && (ty t).elem.isSome | .struct=>tyKnown t && (ty t).fty.all tyKnown | _=>true
def mapOk (t:Nat):Bool:=match (ty t).key,(ty t).val with
 | some k,some e=>tyKnown k && tyKnown e && (ty k).fty.all tyKnown
 | _,_=>false
def isByte (t:Nat):Bool:=match (ty t).elem with
 | some e=>tyKnown e && (match (ty e).kind with | .int k=>keq k .u8 | _=>false)
 | none=>false
def convOk (t u:Nat):Bool:=(notB (isSlK (ty t).kind) || notB (isStK (ty u).kind) || isByte t) && (notB (isStK (ty t).kind) || notB (isSlK (ty u).kind) || isByte u)
def okOp (P:Program):Op → Bool
 | .load t _=>tyKnown t
 | .store t _ _=>tyKnown t
 | .fieldAddr t _ _=>tyKnown t
 | .field t _ _=>tyKnown t && (ty t).fty.all tyKnown
 | .indexAddr t _ _=>(tyKnown t && elemOk t) && valOk t
 | .index t _ _=>tyKnown t && valOk t
 | .binOp _ t _ _ _=>eqOk t
 | .lookup t _ _ _=>tyKnown t && mapOk t
 | .mapUpdate t _ _ _=>tyKnown t && mapOk t
 | .convert t u _=>tyKnown t && tyKnown u && convOk t u
 | .build t _=>tyKnown t && valOk t
 | .buildSlice t n _=>(tyKnown t && Nat.ble n 16777216) && match (ty t).elem with | some e=>tyKnown e && Nat.ble (n * (ty e).sz) 16777216 | none=>true
 | .slice t _ _ _ _=>tyKnown t && elemOk t
 | .makeSlice t _ _=>tyKnown t && elemOk t
 | .alloc e=>tyKnown e
 | .box e _=>tyKnown e
 | .call ⟨.builtin .len,_,⟨[t]⟩⟩=>tyKnown t
 | .call ⟨.builtin .append,_,⟨[t,u]⟩⟩=>tyKnown t && elemOk t && eqN t u && match (ty t).elem with | some e=>Nat.blt 0 (ty e).sz | none=>true
 | .call ⟨.value (.func f),_,_⟩=>fnOk P f
 | .defer _=>false
 | _=>true
end
end Go.Proofs.YtahpnackkmbmgaaGreatDoor.Vm
end

/- Part 18 of the proof: ShCmp, VCmp, VTk4. Conditions: none. -/
import Derived.Test.YtahpnackkmbmgaaGreatDoorS14
import Derived.Test.YtahpnackkmbmgaaGreatDoorS17
import Derived.Shelf.Strings.Builder1
import Derived.Shelf.Small.Strs
import Derived.Shelf.Strconv.Itoa0
import Derived.Shelf.Strconv.Itoa1
import Derived.Shelf.LaysM
import Derived.Shelf.Strconv.Itoa2
import Derived.Shelf.Strconv.Itoa3
import Derived.Test.YtahpnackkmbmgaaGreatDoorProg
set_option linter.all false
set_option linter.unusedVariables false
set_option linter.unusedSimpArgs false
section
namespace Go.Proofs
open Go.Shelf
def Tryz.lays106_ren : Go.Shelf.Ren := ⟨fun | 106 => 96 | 213 => 111 | 265 => 123 | n => n, fun | 9 => 9 | 3 => 3 | n => n, fun | n => n⟩
theorem Tryz.lays106 : Go.Proofs.Lays.n106 Tryz.prog Tryz.lays106_ren := {
 mixed := by kernel_rfl
 f106 := Tryz.func96.trans (congrArg some (by kernel_rfl))
 f213 := Tryz.func111.trans (congrArg some (by kernel_rfl))
 f265 := Tryz.func123.trans (congrArg some (by kernel_rfl))
 t3 := Tryz.underlying3
 a3 := Tryz.isAgg3
 z3 := Tryz.sizeOf3
 v3 := Tryz.zeroValue3
 t9 := Tryz.underlying9
 a9 := Tryz.isAgg9
 z9 := Tryz.sizeOf9
 v9 := Tryz.zeroValue9 }
open Go.RowKit in
theorem Tryz.strings_Compare (a b : ByteArray) (w : World) :
  Calls Tryz.prog 96 #[.string a, .string b] w fun e w' => e = .returned (.int .i64 (Lib.compareBytes a.data.toList b.data.toList)) ∧ w' = w := Any.strings_Compare Tryz.lays106 a b w
end Go.Proofs
end
section
namespace Go.Proofs.YtahpnackkmbmgaaGreatDoor.Vm
open Go.RowKit
set_option maxRecDepth 100000
set_option maxHeartbeats 4000000
theorem cmp_c (a b : ByteArray) : Spec 96 [.one (.sc (.string a)), .one (.sc (.string b))] [.one (.sc (.int .i64 (Lib.compareBytes a.data.toList b.data.toList)))] := by
 refine ⟨by kernel_rfl, fun I w args hI hat => ?_⟩
 match args, hat with
 | [v1, v2], ⟨h1, h2, _⟩ =>
  have h1 : AtD I w v1 (.sc (.string a)) := h1
  have h2 : AtD I w v2 (.sc (.string b)) := h2
  cases h1
  cases h2
  refine (Tryz.strings_Compare a b w).mono ?_
  rintro e w' ⟨rfl, rfl⟩
  exact ⟨_, rfl, .sc _ rfl, Below.refl _ _⟩
theorem compare_is : ∀ a b : List UInt8, Lib.compareBytes a b = cmpB a b
 | [], [] => rfl
 | [], _ :: _ => by simp [Lib.compareBytes, cmpB, Op.bytesLess]
 | _ :: _, [] => by simp [Lib.compareBytes, cmpB, Op.bytesLess]
 | x :: a, y :: b => by
  rw [Lib.compareBytes, compare_is a b]
  unfold cmpB
  simp only [Op.bytesLess]
  by_cases h1 : x < y
  ·simp [h1]
  ·by_cases h2 : y < x
   ·have hne : x ≠ y := fun e => by rw [e] at h2; exact h1 (by rw [e]; exact h2)
    simp [h1, h2, hne]
   ·have e : x = y := by
     rw [UInt8.lt_iff_toNat_lt] at h1 h2
     exact UInt8.toNat_inj.1 (by omega)
    subst e
    simp [h1]
theorem flat1_c : CmpS 95 := by
 intro n m x1 x2 x3 x4 y1 y2 y3 y4
 have hc := cmp_c n m
 rw [compare_is, ← ByteArray.toList_eq, ← ByteArray.toList_eq] at hc
 generalize cmpB n.toList m.toList = cv at *
 refine spec_of Tryz.func95 rfl (by kernel_rfl) (by kernel_rfl) (by kernel_rfl) fun qa qb qc qd qe qf qg qh qi qj qk ql qm qo qp qq qs qt qu qv qw qx qy qz va vc vd ve vf vg vh vj vk vl vm vn vo vp vq vr vt vu hA => ?_
 cbv
 repeat ((with_reducible apply next_at hA); cbv)
 refine call_at hA _ hc ?_ ?_
 ·rfl
 cbv
 repeat ((with_reducible apply next_at hA); cbv)
end Go.Proofs.YtahpnackkmbmgaaGreatDoor.Vm
end
section
namespace Go.Proofs.YtahpnackkmbmgaaGreatDoor.Vm
open Go.RowKit
set_option maxRecDepth 100000
def u4 : List UInt8 := [123, 32, 98, 58, 73, 110, 116, 44, 32, 97, 32, 58, 32, 63, 45, 62, 66, 111, 111, 108, 32, 124, 32, 63, 32, 125]
def b4 : List (List D) := [[.sc (.int .u8 123)], [.sc (.int .u8 32)], [.sc (.int .u8 98)], [.sc (.int .u8 58)], [.sc (.int .u8 73)], [.sc (.int .u8 110)], [.sc (.int .u8 116)], [.sc (.int .u8 44)], [.sc (.int .u8 32)], [.sc (.int .u8 97)], [.sc (.int .u8 32)], [.sc (.int .u8 58)], [.sc (.int .u8 32)], [.sc (.int .u8 63)], [.sc (.int .u8 45)], [.sc (.int .u8 62)], [.sc (.int .u8 66)], [.sc (.int .u8 111)], [.sc (.int .u8 111)], [.sc (.int .u8 108)], [.sc (.int .u8 32)], [.sc (.int .u8 124)], [.sc (.int .u8 32)], [.sc (.int .u8 63)], [.sc (.int .u8 32)], [.sc (.int .u8 125)]]
def d4 : List D := [.sc (.int .u8 5), .sc (.string ⟨⟨[]⟩⟩), .sc (.int .i64 0), .sl 4 [[.sc (.int .u8 11), .sc (.string ⟨⟨[97]⟩⟩), .sc (.int .i64 0), .sl 4 [[.sc (.int .u8 4), .sc (.string ⟨⟨[]⟩⟩), .sc (.int .i64 0), .sl 4 [[.sc (.int .u8 3), .sc (.string ⟨⟨[]⟩⟩), .sc (.int .i64 0), .sl 4 []], [.sc (.int .u8 2), .sc (.string ⟨⟨[]⟩⟩), .sc (.int .i64 0), .sl 4 []]]], [.sc (.int .u8 11), .sc (.string ⟨⟨[98]⟩⟩), .sc (.int .i64 0), .sl 4 [[.sc (.int .u8 1), .sc (.string ⟨⟨[]⟩⟩), .sc (.int .i64 0), .sl 4 []], [.sc (.int .u8 9), .sc (.string ⟨⟨[]⟩⟩), .sc (.int .i64 0), .sl 4 []]]]]]]]
def t4 : List Tok := [⟨3, ⟨⟨[123]⟩⟩, 0, 0⟩, ⟨1, ⟨⟨[98]⟩⟩, 0, 2⟩, ⟨3, ⟨⟨[58]⟩⟩, 0, 3⟩, ⟨3, ⟨⟨[73, 110, 116]⟩⟩, 0, 4⟩, ⟨3, ⟨⟨[44]⟩⟩, 0, 7⟩, ⟨1, ⟨⟨[97]⟩⟩, 0, 9⟩, ⟨3, ⟨⟨[58]⟩⟩, 0, 11⟩, ⟨3, ⟨⟨[63]⟩⟩, 0, 13⟩, ⟨3, ⟨⟨[45, 62]⟩⟩, 0, 14⟩, ⟨3, ⟨⟨[66, 111, 111, 108]⟩⟩, 0, 16⟩, ⟨3, ⟨⟨[124]⟩⟩, 0, 21⟩, ⟨3, ⟨⟨[63]⟩⟩, 0, 23⟩, ⟨3, ⟨⟨[125]⟩⟩, 0, 25⟩, ⟨4, ⟨⟨[]⟩⟩, 0, 26⟩]
def r4 : List (List D) := [[.sc (.int .u8 3), .sc (.string ⟨⟨[123]⟩⟩), .sc (.int .i64 0), .sc (.int .i64 0)], [.sc (.int .u8 1), .sc (.string ⟨⟨[98]⟩⟩), .sc (.int .i64 0), .sc (.int .i64 2)], [.sc (.int .u8 3), .sc (.string ⟨⟨[58]⟩⟩), .sc (.int .i64 0), .sc (.int .i64 3)], [.sc (.int .u8 3), .sc (.string ⟨⟨[73, 110, 116]⟩⟩), .sc (.int .i64 0), .sc (.int .i64 4)], [.sc (.int .u8 3), .sc (.string ⟨⟨[44]⟩⟩), .sc (.int .i64 0), .sc (.int .i64 7)], [.sc (.int .u8 1), .sc (.string ⟨⟨[97]⟩⟩), .sc (.int .i64 0), .sc (.int .i64 9)], [.sc (.int .u8 3), .sc (.string ⟨⟨[58]⟩⟩), .sc (.int .i64 0), .sc (.int .i64 11)], [.sc (.int .u8 3), .sc (.string ⟨⟨[63]⟩⟩), .sc (.int .i64 0), .sc (.int .i64 13)], [.sc (.int .u8 3), .sc (.string ⟨⟨[45, 62]⟩⟩), .sc (.int .i64 0), .sc (.int .i64 14)], [.sc (.int .u8 3), .sc (.string ⟨⟨[66, 111, 111, 108]⟩⟩), .sc (.int .i64 0), .sc (.int .i64 16)], [.sc (.int .u8 3), .sc (.string ⟨⟨[124]⟩⟩), .sc (.int .i64 0), .sc (.int .i64 21)], [.sc (.int .u8 3), .sc (.string ⟨⟨[63]⟩⟩), .sc (.int .i64 0), .sc (.int .i64 23)], [.sc (.int .u8 3), .sc (.string ⟨⟨[125]⟩⟩), .sc (.int .i64 0), .sc (.int .i64 25)], [.sc (.int .u8 4), .sc (.string ⟨⟨[]⟩⟩), .sc (.int .i64 0), .sc (.int .i64 26)]]
theorem b4_is : rU u4 = b4 := by kernel_rfl
theorem r4_is : rTk t4 = r4 := by kernel_rfl
theorem scan4 : scanS (numsU u4) 0 false [] = (t4, 0, 0) := by kernel_rfl
def tokPF (rs : List R) : Option (List R) := match listEq resEq rs [.one (.sl 1 b4)] with
 | true => some [.one (.sl 4 r4), .one (.sc (.int .i64 0)), .one (.sc (.int .u8 0))]
 | false => none
theorem tok_pure (rs q : List R) (h : tokPF rs = some q) : Spec 32 rs q := by
 unfold tokPF at h
 split at h
 ·rename_i he
  have he := listEq_eq (fun _ _ h => resEq_eq h) he
  subst he
  injection h with h
  subst h
  have h1 := Tokens_s u4 (by decide)
  rw [scan4, b4_is, r4_is] at h1
  exact h1
 ·cases h
def cmpPF : List R → Option (List R)
 | [.one (.sc (.string a)), .one (.sc (.string b))] => some [.one (.sc (.int .i64 (Lib.compareBytes a.data.toList b.data.toList)))]
 | _ => none
theorem cmp_pure (rs q : List R) (h : cmpPF rs = some q) : Spec 96 rs q := by
 unfold cmpPF at h
 split at h
 ·injection h with h
  subst h
  exact cmp_c _ _
 ·cases h
end Go.Proofs.YtahpnackkmbmgaaGreatDoor.Vm
end

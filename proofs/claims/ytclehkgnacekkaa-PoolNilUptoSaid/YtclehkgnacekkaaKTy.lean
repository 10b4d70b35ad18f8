/- Layer 3: types as trees: plain laws. No program in sight. -/
import Derived.Test.YtclehkgnacekkaaLScan
namespace Go.Proofs.Ytclehkgnacekkaa
open Go.RowKit
inductive Ty where
  | mk (op : Int) (name : ByteArray) (n : Int) (kids : List Ty)
def Ty.op : Ty → Int | .mk op _ _ _ => op
def Ty.name : Ty → ByteArray | .mk _ nm _ _ => nm
def Ty.n : Ty → Int | .mk _ _ n _ => n
def Ty.kids : Ty → List Ty | .mk _ _ _ ks => ks
theorem Ty.eta : ∀ t : Ty, t = .mk t.op t.name t.n t.kids | .mk _ _ _ _ => rfl
def zeroTy : Ty := .mk 0 ⟨#[]⟩ 0 []
theorem Ty.sizeOf_kid {t x : Ty} (h : x ∈ t.kids) : SizeOf.sizeOf x < SizeOf.sizeOf t := by
  obtain ⟨op, nm, n, ks⟩ := t
  have := List.sizeOf_lt_of_mem h
  simp only [Ty.kids] at this
  simp only [Ty.mk.sizeOf_spec]
  omega
/-- Induction over a tree: from the kids to the whole. -/
theorem Ty.ind {P : Ty → Prop} (h : ∀ t, (∀ x ∈ t.kids, P x) → P t) (t : Ty) : P t := h t fun x _hx => Ty.ind h x
termination_by SizeOf.sizeOf t
decreasing_by exact Ty.sizeOf_kid _hx
mutual
/-- The parts of a type, a node ahead of its kids. -/
def Ty.parts : Ty → List Ty
  | .mk op nm n ks => .mk op nm n ks :: partsL ks
def partsL : List Ty → List Ty
  | [] => []
  | t :: ts => t.parts ++ partsL ts
end
theorem parts_eq (t : Ty) : t.parts = t :: partsL t.kids := by
  obtain ⟨op, nm, n, ks⟩ := t
  rw [Ty.parts]
  rfl
theorem partsL_flat : ∀ ts : List Ty, partsL ts = ts.flatMap Ty.parts
  | [] => by rw [partsL]; rfl
  | t :: ts => by rw [partsL, partsL_flat ts]; rfl
theorem parts_kids (t : Ty) : t.parts = t :: t.kids.flatMap Ty.parts := by rw [parts_eq, partsL_flat]
theorem partsL_snoc (ts : List Ty) (i : Nat) (t : Ty) (h : ts[i]? = some t) : t.parts = t.parts ∧ (ts.take (i + 1)).flatMap Ty.parts = (ts.take i).flatMap Ty.parts ++ t.parts := by
  obtain ⟨hi, e⟩ := List.getElem?_eq_some_iff.1 h
  refine ⟨rfl, ?_⟩
  rw [List.take_succ_eq_append_getElem hi, e]
  simp
theorem parts_pos (t : Ty) : 1 ≤ t.parts.length := by rw [parts_eq]; simp
theorem flat_parts_le : ∀ (ts : List Ty), ts.length ≤ (ts.flatMap Ty.parts).length ∧ ∀ x ∈ ts, x.parts.length ≤ (ts.flatMap Ty.parts).length
  | [] => by simp
  | u :: us => by
    have ih := flat_parts_le us
    have := parts_pos u
    simp only [List.flatMap_cons, List.length_append, List.length_cons]
    refine ⟨by omega, fun x hx => ?_⟩
    rcases List.mem_cons.1 hx with rfl | hx
    · omega
    · have := ih.2 x hx; omega
theorem kids_le (t : Ty) : t.kids.length < t.parts.length ∧ ∀ x ∈ t.kids, x.parts.length < t.parts.length := by
  rw [parts_kids, List.length_cons]
  have := flat_parts_le t.kids
  exact ⟨by omega, fun x hx => by have := this.2 x hx; omega⟩
/-- Which kids an op has: t (116) and r (114), types and rows. -/
def kidsS (op : Int) : Option (List Int) :=
  if op = 1 ∨ op = 2 ∨ op = 3 ∨ op = 7 ∨ op = 8 ∨ op = 9 ∨ op = 10 then some [] else if op = 4 then some [116, 116] else if op = 5 ∨ op = 6 then some [114] else if op = 11 then some [116, 114] else none
/-- Is the head of a type right, as a type (116) or a row (114)? -/
def headB (isWord : ByteArray → Bool) (t : Ty) (s : Int) : Bool :=
  match kidsS t.op with
  | none => false
  | some k => (decide (8 ≤ t.op) == (s == 114)) && (decide (t.kids.length = k.length) && ((if t.op = 11 then isWord t.name else decide (t.name.toList = [])) && (decide (0 ≤ t.n) && (decide (t.op = 7 ∨ t.op = 10) || decide (t.n = 0)))))
mutual
def shapeB (isWord : ByteArray → Bool) : Ty → Int → Bool
  | .mk op nm n ks, s => headB isWord (.mk op nm n ks) s && shapesB isWord ks ((kidsS op).getD [])
def shapesB (isWord : ByteArray → Bool) : List Ty → List Int → Bool
  | [], _ => true
  | t :: ts, k :: ks => shapeB isWord t k && shapesB isWord ts ks
  | _ :: _, [] => false
end
theorem shape_eq (iw : ByteArray → Bool) (t : Ty) (s : Int) : shapeB iw t s = (headB iw t s && shapesB iw t.kids ((kidsS t.op).getD [])) := by
  obtain ⟨op, nm, n, ks⟩ := t
  rw [shapeB]
  rfl
mutual
def alikeB : Ty → Ty → Bool
  | .mk o m n ks, .mk o' m' n' ks' => (o == o') && ((m.toList == m'.toList) && ((n == n') && alikesB ks ks'))
def alikesB : List Ty → List Ty → Bool
  | [], [] => true
  | t :: ts, u :: us => alikeB t u && alikesB ts us
  | _, _ => false
end
theorem bytes_toList {a b : ByteArray} : a.toList = b.toList ↔ a = b := by
  constructor
  · intro h
    rw [ByteArray.toList_eq, ByteArray.toList_eq] at h
    apply ByteArray.ext
    exact Array.toList_inj.1 h
  · rintro rfl; rfl
mutual
theorem alike_iff : ∀ a b : Ty, alikeB a b = true ↔ a = b
  | .mk o m n ks, .mk o' m' n' ks' => by
    rw [alikeB]
    simp only [Bool.and_eq_true, beq_iff_eq, Ty.mk.injEq, alikes_iff ks ks', bytes_toList]
theorem alikes_iff : ∀ a b : List Ty, alikesB a b = true ↔ a = b
  | [], [] => by rw [alikesB]; simp
  | t :: ts, u :: us => by
    rw [alikesB]
    simp only [Bool.and_eq_true, List.cons.injEq, alike_iff t u, alikes_iff ts us]
  | [], _ :: _ => by simp [alikesB]
  | _ :: _, [] => by simp [alikesB]
end
/-- Is no number that of both sorts of variables? -/
def clashB (x y : Ty) : Bool := (x.op == 7) && ((y.op == 10) && (x.n == y.n))
def onceB (t : Ty) : Bool := t.parts.all fun x => t.parts.all fun y => !clashB x y
end Go.Proofs.Ytclehkgnacekkaa

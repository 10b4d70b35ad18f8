/- Layer 2: the sign with which bytes begin, found in the list of signs: a plain law. -/
import Derived.Test.YtegekajbnecdfaaLScan

namespace Go.Proofs.Ytegekajbnecdfaa
open Go.RowKit
/-- Does a text begin the bytes from a place on? -/
def begB (l : List Int) (a : Nat) (s : ByteArray) : Bool := decide (a + s.size ≤ l.length) && ((strOfNums ((l.drop a).take s.size)).toList == s.toList)
def findS (l : List Int) (a : Nat) : List ByteArray → ByteArray
  | [] => ⟨#[]⟩
  | s :: ws => if begB l a s = true then s else findS l a ws
def prefB : List Int → List Int → Bool
  | [], _ => true
  | _, [] => false
  | x :: xs, y :: ys => (x == y) && prefB xs ys
theorem prefB_iff : ∀ (p d : List Int), prefB p d = true ↔ p.length ≤ d.length ∧ d.take p.length = p
  | [], d => by simp [prefB]
  | x :: xs, [] => by simp [prefB]
  | x :: xs, y :: ys => by
    simp only [prefB, Bool.and_eq_true, beq_iff_eq, prefB_iff xs ys, List.length_cons, List.take_succ_cons, List.cons.injEq]
    constructor
    · rintro ⟨rfl, h1, h2⟩; exact ⟨by omega, rfl, h2⟩
    · rintro ⟨h1, rfl, h2⟩; exact ⟨rfl, by omega, h2⟩
theorem str_nums (s : ByteArray) : strOfNums (numsOf s) = s := by
  unfold numsOf strOfNums
  apply ByteArray.ext
  have e : ((fun n : Int => UInt8.ofNat n.toNat) ∘ fun b : UInt8 => ((b.toNat : Nat) : Int)) = id := by
    funext b
    simp
  simp [e]
theorem nums_inj {a b : ByteArray} (h : numsOf a = numsOf b) : a = b := by rw [← str_nums a, ← str_nums b, h]
theorem beg_pref {l : List Int} {a : Nat} (hb : Byt l) (ha : a ≤ l.length) (s : ByteArray) : begB l a s = prefB (numsOf s) (l.drop a) := by
  have h2 : Byt ((l.drop a).take s.size) := fun x hx => hb x (List.mem_of_mem_drop (List.mem_of_mem_take hx))
  rw [Bool.eq_iff_iff, prefB_iff, nums_len, List.length_drop]
  unfold begB
  rw [Bool.and_eq_true, decide_eq_true_iff, beq_iff_eq]
  constructor
  · rintro ⟨h, e⟩
    refine ⟨by omega, ?_⟩
    rw [ByteArray.toList_eq, ByteArray.toList_eq] at e
    have e' : strOfNums ((l.drop a).take s.size) = s := by
      apply ByteArray.ext
      exact Array.toList_inj.1 e
    rw [← nums_str h2, e']
  · rintro ⟨h, e⟩
    refine ⟨by omega, ?_⟩
    rw [e, str_nums]
def findN (d : List Int) : List (List Int) → List Int
  | [] => []
  | p :: ps => if prefB p d = true then p else findN d ps
theorem find_n {l : List Int} {a : Nat} (hb : Byt l) (ha : a ≤ l.length) : ∀ ws : List ByteArray, numsOf (findS l a ws) = findN (l.drop a) (ws.map numsOf)
  | [] => rfl
  | s :: ws => by
    simp only [findS, List.map_cons, findN]
    rw [← beg_pref hb ha]
    by_cases h : begB l a s = true
    · rw [if_pos h, if_pos h]
    · rw [if_neg h, if_neg h]; exact find_n hb ha ws
theorem signs_n : signWs.map numsOf = signNs := by decide +kernel
theorem find_one (x : Int) (t : List Int) (h1 : ∀ p ∈ signNs.take 4, prefB p (x :: t) = false) : findN (x :: t) signNs = if x ∈ sgls then [x] else [] := by
  have e1 : findN (x :: t) signNs = findN (x :: t) (signNs.drop 4) := by
    simp only [signNs, List.take_succ_cons, List.take_zero, List.mem_cons, List.not_mem_nil, or_false, forall_eq_or_imp, forall_eq] at h1
    obtain ⟨a, b, c, d⟩ := h1
    simp only [signNs, List.drop_succ_cons, List.drop_zero]
    rw [findN, a, if_neg (by decide), findN, b, if_neg (by decide), findN, c, if_neg (by decide), findN, d, if_neg (by decide)]
  have e2 : ∀ L : List Int, findN (x :: t) (L.map fun c => [c]) = if x ∈ L then [x] else [] := by
    intro L
    induction L with
    | nil => rfl
    | cons c L ih =>
      simp only [List.map_cons, findN, prefB, ih, Bool.and_true, beq_iff_eq, List.mem_cons]
      by_cases h : c = x
      · rw [if_pos h, if_pos (.inl h.symm), h]
      · rw [if_neg h]
        by_cases h2 : x ∈ L
        · rw [if_pos h2, if_pos (.inr h2)]
        · rw [if_neg h2, if_neg (by rintro (h3 | h3); exact h h3.symm; exact h2 h3)]
  rw [e1, ← e2 sgls]
  rfl
theorem find_law (d : List Int) (hd : d ≠ []) : findN d signNs = d.take (signS d) := by
  cases d with
  | nil => exact absurd rfl hd
  | cons x t =>
    by_cases h : 2 ≤ (x :: t).length ∧ dblB (gb (x :: t) 0) (gb (x :: t) 1) = true
    · have hs : signS (x :: t) = 2 := by unfold signS; rw [if_pos h]
      rw [hs]
      obtain ⟨h1, h2⟩ := h
      cases t with
      | nil => simp at h1
      | cons y t =>
        simp [gb, dblB] at h2
        rcases h2 with ⟨rfl, rfl⟩ | ⟨rfl, rfl⟩ | ⟨rfl, rfl⟩ | ⟨rfl, rfl⟩ <;> rfl
    · have hs : signS (x :: t) = if x ∈ sgls then 1 else 0 := by unfold signS; rw [if_neg h]; rfl
      rw [find_one, hs]
      · split <;> rfl
      · intro p hp
        cases t with
        | nil =>
          simp [signNs] at hp
          rcases hp with rfl | rfl | rfl | rfl <;> simp [prefB]
        | cons y t =>
          simp [gb, dblB] at h
          simp [signNs] at hp
          rcases hp with rfl | rfl | rfl | rfl <;> simp [prefB] <;> omega
theorem find_sign {l : List Int} {a : Nat} (hb : Byt l) (ha : a < l.length) : findS l a signWs = strOfNums ((l.drop a).take (signS (l.drop a))) := by
  rw [← str_nums (findS l a signWs), find_n hb (by omega), signs_n, find_law]
  intro h
  have := congrArg List.length h
  rw [List.length_drop] at this
  simp at this
  omega
theorem find_step {l : List Int} {a j : Nat} {ws : List ByteArray} {x : ByteArray} (hj : j < ws.length) (hx : x = ws.getD j ByteArray.empty) : findS l a (ws.drop j) = if begB l a x = true then x else findS l a (ws.drop (j + 1)) := by
  rw [List.drop_eq_getElem_cons hj, findS]
  have : ws[j] = x := by rw [hx]; simp [hj]
  rw [this]
theorem sign_sizes : ∀ s ∈ signWs, 1 ≤ s.size ∧ s.size ≤ 2 := by
  intro s hs
  simp only [signWs, List.mem_cons, List.not_mem_nil, or_false] at hs
  rcases hs with rfl | rfl | rfl | rfl | rfl | rfl | rfl | rfl | rfl | rfl | rfl | rfl | rfl | rfl | rfl | rfl | rfl | rfl | rfl | rfl | rfl | rfl | rfl | rfl | rfl <;> exact ⟨by decide, by decide⟩
theorem signs_len : signWs.length = 25 := rfl
theorem sign_get {j : Nat} (hj : j < 25) : 1 ≤ (signWs.getD j ByteArray.empty).size ∧ (signWs.getD j ByteArray.empty).size ≤ 2 := by
  have hj' : j < signWs.length := hj
  have e : signWs.getD j ByteArray.empty = signWs[j] := by simp [hj']
  rw [e]
  exact sign_sizes _ (List.getElem_mem hj')
theorem str_ne {s : ByteArray} (h : 1 ≤ s.size) : (s.toList == []) = false ∧ s.toList.isEmpty = false ∧ (!s.toList.isEmpty) = true ∧ ¬ s.toList = [] := by
  have hn : ¬ s.toList = [] := fun hh => by
    rw [ByteArray.toList_eq] at hh
    have := congrArg List.length hh
    rw [Array.length_toList] at this
    have h2 : s.data.size = s.size := rfl
    simp at this
    simp [ByteArray.size, this] at h
  have hi : s.toList.isEmpty = false := by rw [List.isEmpty_eq_false_iff]; exact hn
  exact ⟨beq_eq_false_iff_ne.2 hn, hi, by rw [hi]; rfl, hn⟩
theorem row_new (w : World) (xs : List Value) (t : TypeId) {g : Nat} (hg : g = w.heap.size) : ∀ j u, xs[j]? = some u → (w.alloc (.cells xs.toArray t)).cell? ((⟨g, 0, none⟩ : Addr).add j) = some u := fun j u hu => by
  subst hg
  unfold Addr.add
  by_cases h0 : j = 0
  · subst h0
    simp [World.cell?_alloc_new, hu]
  · simp [h0, World.cell?_alloc_new, hu]
end Go.Proofs.Ytegekajbnecdfaa

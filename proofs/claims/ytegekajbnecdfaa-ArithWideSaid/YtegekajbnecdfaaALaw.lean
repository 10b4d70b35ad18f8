/- The plain laws of layer 17: sums, differences, products, quotients of two numbers of 64 bits. No program in sight. -/
import Derived.WalkKit
namespace Go.Proofs.Ytegekajbnecdfaa
open Go.RowKit

/-- Within 64 bits. -/
def In64 (r : Int) : Prop := -9223372036854775808 ≤ r ∧ r ≤ 9223372036854775807
theorem wrap64_id {r : Int} (h : In64 r) : wrap64 r = r := by unfold In64 at h; unfold wrap64; omega
theorem wrap64_in64 (r : Int) : In64 (wrap64 r) := by unfold In64 wrap64; omega
theorem wrap64_iff (r : Int) : wrap64 r = r ↔ In64 r := by unfold In64 wrap64; omega

/-- The sign of 64 bits. -/
theorem wrap_neg (b : BitVec 64) : (IntKind.i64.wrap (b.toNat : Int) < 0) ↔ b.msb = true := by
  rw [IntKind.wrap_i64, BitVec.msb_eq_decide]
  have := b.isLt
  simp only [decide_eq_true_eq]
  omega
theorem ofInt_msb {x : Int} (h : In64 x) : (BitVec.ofInt 64 x).msb = decide (x < 0) := by
  unfold In64 at h
  rw [BitVec.msb_eq_decide, BitVec.toNat_ofInt]
  rw [Bool.eq_iff_iff]
  simp only [decide_eq_true_eq]
  omega
theorem bits_in64 (op : BinOp) (x y : Int) : In64 (bits op .i64 x y) := by
  unfold bits In64
  rw [IntKind.wrap_i64]
  omega
theorem xor_neg {x y : Int} (hx : In64 x) (hy : In64 y) : (bits .xor .i64 x y < 0) ↔ ¬ (x < 0 ↔ y < 0) := by
  show IntKind.i64.wrap ((BitVec.ofInt 64 x ^^^ BitVec.ofInt 64 y).toNat : Int) < 0 ↔ _
  rw [wrap_neg, BitVec.msb_xor, ofInt_msb hx, ofInt_msb hy]
  by_cases a : x < 0 <;> by_cases b : y < 0 <;> simp [a, b]
theorem and_neg {x y : Int} (hx : In64 x) (hy : In64 y) : (bits .and .i64 x y < 0) ↔ (x < 0 ∧ y < 0) := by
  show IntKind.i64.wrap ((BitVec.ofInt 64 x &&& BitVec.ofInt 64 y).toNat : Int) < 0 ↔ _
  rw [wrap_neg, BitVec.msb_and, ofInt_msb hx, ofInt_msb hy]
  by_cases a : x < 0 <;> by_cases b : y < 0 <;> simp [a, b]
/-- A number's sign, spread over all bits. -/
theorem sar63 {x : Int} (h : In64 x) : x / 9223372036854775808 = if x < 0 then -1 else 0 := by
  unfold In64 at h
  split <;> omega

theorem over_add {x y : Int} (hx : In64 x) (hy : In64 y) :
    (bits .and .i64 (bits .xor .i64 x (wrap64 (x + y))) (bits .xor .i64 y (wrap64 (x + y))) / 9223372036854775808 = 0) ↔ In64 (x + y) := by
  rw [sar63 (bits_in64 _ _ _)]
  have h1 := and_neg (bits_in64 .xor x (wrap64 (x + y))) (bits_in64 .xor y (wrap64 (x + y)))
  rw [xor_neg hx (wrap64_in64 _), xor_neg hy (wrap64_in64 _)] at h1
  split <;> rename_i h
  · rw [h1] at h
    unfold In64 at *; unfold wrap64 at h; omega
  · rw [h1] at h
    unfold In64 at *; unfold wrap64 at h; omega
theorem over_sub {x y : Int} (hx : In64 x) (hy : In64 y) :
    (bits .and .i64 (bits .xor .i64 x y) (bits .xor .i64 x (wrap64 (x - y))) / 9223372036854775808 = 0) ↔ In64 (x - y) := by
  rw [sar63 (bits_in64 _ _ _)]
  have h1 := and_neg (bits_in64 .xor x y) (bits_in64 .xor x (wrap64 (x - y)))
  rw [xor_neg hx (wrap64_in64 _), xor_neg hx hy] at h1
  split <;> rename_i h
  · rw [h1] at h
    unfold In64 at *; unfold wrap64 at h; omega
  · rw [h1] at h
    unfold In64 at *; unfold wrap64 at h; omega

/-- The whole product by halves. -/
theorem product_law (x y a b c d : Nat) (hx : x = a * 4294967296 + b) (hy : y = c * 4294967296 + d) (ha : a < 4294967296) (hb : b < 4294967296) (hc : c < 4294967296) (hd : d < 4294967296) :
    a * d + b * d / 4294967296 < 18446744073709551616 ∧ b * c + (a * d + b * d / 4294967296) % 4294967296 < 18446744073709551616 ∧ b * d < 18446744073709551616 ∧
    a * c + (a * d + b * d / 4294967296) / 4294967296 + (b * c + (a * d + b * d / 4294967296) % 4294967296) / 4294967296 < 18446744073709551616 ∧
    x * y = (a * c + (a * d + b * d / 4294967296) / 4294967296 + (b * c + (a * d + b * d / 4294967296) % 4294967296) / 4294967296) * 18446744073709551616 +
      ((b * c + (a * d + b * d / 4294967296) % 4294967296) % 4294967296 * 4294967296 + b * d % 4294967296) := by
  have e : x * y = a * c * 18446744073709551616 + (a * d + b * c) * 4294967296 + b * d := by
    subst hx hy
    grind
  have m : ∀ p q : Nat, p < 4294967296 → q < 4294967296 → p * q ≤ 18446744065119617025 := fun p q hp hq => by
    have := Nat.mul_le_mul (Nat.le_sub_one_of_lt hp) (Nat.le_sub_one_of_lt hq)
    simpa using this
  have h1 := m a c ha hc
  have h2 := m a d ha hd
  have h3 := m b c hb hc
  have h4 := m b d hb hd
  rw [e]
  generalize a * c = p at *
  generalize a * d = q at *
  generalize b * c = r at *
  generalize b * d = s at *
  omega

/-! The product of words, as the code reckons it. -/
def uw (x : Int) : Int := IntKind.u64.wrap x
theorem uw_eq (x : Int) : uw x = x % 18446744073709551616 := by unfold uw; simp [IntKind.wrap, IntKind.bits, IntKind.signed]
theorem uw_id {x : Int} (h : 0 ≤ x) (h' : x < 18446744073709551616) : uw x = x := by rw [uw_eq]; omega
theorem wraps_u64 (n : Int) (h₀ : 0 ≤ n) (h₁ : n < 2 ^ 64) : IntKind.u64.wrap n = n := uw_id h₀ h₁
theorem uw_bd (x : Int) : 0 ≤ IntKind.u64.wrap x ∧ IntKind.u64.wrap x < 18446744073709551616 := by
  show 0 ≤ uw x ∧ uw x < _
  rw [uw_eq]; omega
def lo32 (x : Int) : Int := bits .and .u64 x 4294967295
theorem lo32_eq {x : Int} (h : 0 ≤ x) (h' : x < 18446744073709551616) : lo32 x = x % 4294967296 := bits_mask .u64 64 (by decide) wraps_u64 32 (by decide) x h h'
def prodMid (x y : Int) : Int := uw (uw (x / 4294967296 * lo32 y) + uw (lo32 x * lo32 y) / 4294967296)
def prodOther (x y : Int) : Int := uw (uw (lo32 x * (y / 4294967296)) + lo32 (prodMid x y))
def prodHi (x y : Int) : Int := uw (uw (uw (x / 4294967296 * (y / 4294967296)) + prodMid x y / 4294967296) + prodOther x y / 4294967296)
def prodLo (x y : Int) : Int := bits .or .u64 (uw (prodOther x y * 4294967296)) (lo32 (uw (lo32 x * lo32 y)))

theorem prod_eq {x y : Int} (hx : 0 ≤ x) (hx' : x < 18446744073709551616) (hy : 0 ≤ y) (hy' : y < 18446744073709551616) :
    prodHi x y = x * y / 18446744073709551616 ∧ prodLo x y = x * y % 18446744073709551616 := by
  obtain ⟨X, rfl⟩ := Int.eq_ofNat_of_zero_le hx
  obtain ⟨Y, rfl⟩ := Int.eq_ofNat_of_zero_le hy
  have L := product_law X Y (X / 4294967296) (X % 4294967296) (Y / 4294967296) (Y % 4294967296) (by omega) (by omega) (by omega) (by omega) (by omega) (by omega)
  have ex : lo32 (X : Int) = ((X % 4294967296 : Nat) : Int) := by rw [lo32_eq hx hx']; omega
  have ey : lo32 (Y : Int) = ((Y % 4294967296 : Nat) : Int) := by rw [lo32_eq hy hy']; omega
  have fx : (X : Int) / 4294967296 = ((X / 4294967296 : Nat) : Int) := by omega
  have fy : (Y : Int) / 4294967296 = ((Y / 4294967296 : Nat) : Int) := by omega
  unfold prodHi prodLo prodOther prodMid
  rw [ex, ey, fx, fy]
  simp only [← Int.natCast_mul]
  generalize X / 4294967296 * (Y % 4294967296) = q at *
  generalize X % 4294967296 * (Y % 4294967296) = s at *
  generalize X % 4294967296 * (Y / 4294967296) = r at *
  generalize X / 4294967296 * (Y / 4294967296) = p at *
  generalize X * Y = z at *
  obtain ⟨L1, L2, L3, L4, L5⟩ := L
  rw [uw_id (x := (s : Int)) (by omega) (by omega), uw_id (x := (q : Int)) (by omega) (by omega), uw_id (x := (r : Int)) (by omega) (by omega), uw_id (x := (p : Int)) (by omega) (by omega)]
  rw [uw_id (x := (q : Int) + (s : Int) / 4294967296) (by omega) (by omega)]
  rw [lo32_eq (x := (q : Int) + (s : Int) / 4294967296) (by omega) (by omega), lo32_eq (x := (s : Int)) (by omega) (by omega)]
  rw [uw_id (x := (r : Int) + ((q : Int) + (s : Int) / 4294967296) % 4294967296) (by omega) (by omega)]
  rw [uw_id (x := (p : Int) + ((q : Int) + (s : Int) / 4294967296) / 4294967296) (by omega) (by omega)]
  refine ⟨?_, ?_⟩
  · rw [uw_id (by omega) (by omega)]; omega
  · rw [uw_eq]
    rw [bits_join .u64 64 (by decide) wraps_u64 32 _ _ (by omega) (by omega) (by omega) (by omega) (by omega) (by omega)]
    omega
theorem mul_bd {x y : Int} (hx : In64 x) (hy : In64 y) : -85070591730234615865843651857942052864 ≤ x * y ∧ x * y ≤ 85070591730234615865843651857942052864 := by
  unfold In64 at *
  have h : (x * y).natAbs ≤ 9223372036854775808 * 9223372036854775808 := by
    rw [Int.natAbs_mul]; exact Nat.mul_le_mul (by omega) (by omega)
  omega
/-- The upper word of a product of signed numbers. -/
theorem wide_law {x y : Int} (hx : In64 x) (hy : In64 y) :
    (x * y) / 18446744073709551616 = wrap64 ((x % 18446744073709551616) * (y % 18446744073709551616) / 18446744073709551616 - (if x < 0 then y % 18446744073709551616 else 0) - (if y < 0 then x % 18446744073709551616 else 0)) ∧
    (x * y) % 18446744073709551616 = (x % 18446744073709551616) * (y % 18446744073709551616) % 18446744073709551616 := by
  have hb := mul_bd hx hy
  unfold In64 at hx hy
  by_cases a : x < 0 <;> by_cases b : y < 0
  · have ex : x % 18446744073709551616 = x + 18446744073709551616 := by omega
    have ey : y % 18446744073709551616 = y + 18446744073709551616 := by omega
    have e : (x + 18446744073709551616) * (y + 18446744073709551616) = x * y + (x + y) * 18446744073709551616 + 340282366920938463463374607431768211456 := by grind
    rw [ex, ey, e]
    simp only [a, b, if_true]
    generalize x * y = z at *
    unfold wrap64; omega
  · have ex : x % 18446744073709551616 = x + 18446744073709551616 := by omega
    have ey : y % 18446744073709551616 = y := by omega
    have e : (x + 18446744073709551616) * y = x * y + y * 18446744073709551616 := by grind
    rw [ex, ey, e]
    simp only [a, b, if_true, if_false]
    generalize x * y = z at *
    unfold wrap64; omega
  · have ex : x % 18446744073709551616 = x := by omega
    have ey : y % 18446744073709551616 = y + 18446744073709551616 := by omega
    have e : x * (y + 18446744073709551616) = x * y + x * 18446744073709551616 := by grind
    rw [ex, ey, e]
    simp only [a, b, if_true, if_false]
    generalize x * y = z at *
    unfold wrap64; omega
  · have ex : x % 18446744073709551616 = x := by omega
    have ey : y % 18446744073709551616 = y := by omega
    rw [ex, ey]
    simp only [a, b, if_false]
    generalize x * y = z at *
    refine ⟨?_, trivial⟩
    unfold wrap64; omega
/-- The same, as the code writes it. -/
theorem wide_hi {x y : Int} (hx : In64 x) (hy : In64 y) (p : Int) (hp : p = uw x * uw y / 18446744073709551616) :
    (x < 0 → y < 0 → wrap64 (IntKind.u64.wrap (IntKind.u64.wrap (p - uw y) - uw x)) = x * y / 18446744073709551616) ∧
    (x < 0 → ¬ y < 0 → wrap64 (IntKind.u64.wrap (p - uw y)) = x * y / 18446744073709551616) ∧
    (¬ x < 0 → y < 0 → wrap64 (IntKind.u64.wrap (p - uw x)) = x * y / 18446744073709551616) ∧
    (¬ x < 0 → ¬ y < 0 → wrap64 p = x * y / 18446744073709551616) := by
  have L := (wide_law hx hy).1
  rw [← uw_eq x, ← uw_eq y, ← hp] at L
  rw [L]
  have h1 := uw_eq x
  have h2 := uw_eq y
  have k : ∀ z : Int, IntKind.u64.wrap z = z % 18446744073709551616 := uw_eq
  simp only [k]
  refine ⟨fun a b => ?_, fun a b => ?_, fun a b => ?_, fun a b => ?_⟩ <;> simp only [a, b, if_true, if_false] <;> unfold wrap64 <;> omega
theorem tdiv_nn {X Y : Int} (h : 0 ≤ X) (_k : 0 < Y) : X.tdiv Y = X / Y ∧ X.tmod Y = X % Y := ⟨Int.tdiv_eq_ediv_of_nonneg h, Int.tmod_eq_emod_of_nonneg h⟩
theorem tdiv_np {X Y : Int} (h : 0 ≤ X) (_k : 0 < Y) : (-X).tdiv Y = -(X / Y) ∧ (-X).tmod Y = -(X % Y) := by
  rw [Int.neg_tdiv, Int.neg_tmod, Int.tdiv_eq_ediv_of_nonneg h, Int.tmod_eq_emod_of_nonneg h]; exact ⟨rfl, rfl⟩
theorem tdiv_pn {X Y : Int} (h : 0 ≤ X) (_k : 0 < Y) : X.tdiv (-Y) = -(X / Y) ∧ X.tmod (-Y) = X % Y := by
  rw [Int.tdiv_neg, Int.tmod_neg, Int.tdiv_eq_ediv_of_nonneg h, Int.tmod_eq_emod_of_nonneg h]; exact ⟨rfl, rfl⟩
theorem tdiv_neg_neg {X Y : Int} (h : 0 ≤ X) (k : 0 < Y) : (-X).tdiv (-Y) = X / Y ∧ (-X).tmod (-Y) = -(X % Y) := by
  rw [Int.tdiv_neg, Int.tmod_neg, (tdiv_np h k).1, (tdiv_np h k).2]; exact ⟨by omega, rfl⟩
/-- A quotient of sizes, and its rest. -/
theorem quot_bd {X Y : Int} (h : 0 ≤ X) (k : 0 < Y) : 0 ≤ X / Y ∧ X / Y ≤ X ∧ 0 ≤ X % Y ∧ X % Y < Y ∧ X % Y ≤ X :=
  ⟨Int.ediv_nonneg h (by omega), Int.ediv_le_self _ h, Int.emod_nonneg _ (by omega), Int.emod_lt_of_pos _ k, by
    have h1 := Int.emod_add_mul_ediv X Y
    have h2 : 0 ≤ Y * (X / Y) := Int.mul_nonneg (by omega) (Int.ediv_nonneg h (by omega))
    omega⟩
def In64b (r : Int) : Bool := decide (-9223372036854775808 ≤ r) && decide (r ≤ 9223372036854775807)
theorem in64b_iff (r : Int) : In64b r = true ↔ In64 r := by unfold In64b In64; simp only [Bool.and_eq_true, decide_eq_true_eq]
theorem in64b_false (r : Int) : In64b r = false ↔ ¬ In64 r := by rw [← in64b_iff]; simp
theorem neg_size {x : Int} (h : In64 x) (a : x < 0) : IntKind.u64.wrap (-IntKind.u64.wrap x) = -x := by
  have h1 := uw_eq x
  have h2 := uw_eq (-uw x)
  unfold uw at h1 h2
  unfold In64 at h
  omega
theorem pos_size {x : Int} (h : In64 x) (a : ¬ x < 0) : IntKind.u64.wrap x = x := by
  have h1 := uw_eq x
  unfold uw at h1
  unfold In64 at h
  omega
theorem bothq (q : Int) (h : 0 ≤ q) : (q / 9223372036854775808 == 0) = In64b q := by
  rw [Bool.eq_iff_iff, in64b_iff]
  unfold In64
  simp only [beq_iff_eq]
  omega
theorem wrap_wrap (q : Int) : wrap64 (IntKind.u64.wrap q) = wrap64 q := by
  have h1 := uw_eq q
  unfold uw at h1
  rw [h1]; unfold wrap64; omega
theorem in64b_neg {q : Int} (h : 0 ≤ q) (h' : q ≤ 9223372036854775808) : true = In64b (-q) := by
  symm
  rw [in64b_iff]
  unfold In64
  omega
theorem add_wrap (x y : Int) : wrap64 (IntKind.u64.wrap (IntKind.u64.wrap x + IntKind.u64.wrap y)) = wrap64 (x + y) := by
  rw [wrap_wrap]
  have h1 := uw_eq x
  have h2 := uw_eq y
  unfold uw at h1 h2
  rw [h1, h2]; unfold wrap64; omega
theorem sub_wrap (x y : Int) : wrap64 (IntKind.u64.wrap (IntKind.u64.wrap x - IntKind.u64.wrap y)) = wrap64 (x - y) := by
  rw [wrap_wrap]
  have h1 := uw_eq x
  have h2 := uw_eq y
  unfold uw at h1 h2
  rw [h1, h2]; unfold wrap64; omega
theorem over_addb {x y : Int} (hx : In64 x) (hy : In64 y) :
    (bits .and .i64 (bits .xor .i64 x (wrap64 (x + y))) (bits .xor .i64 y (wrap64 (x + y))) / 9223372036854775808 != 0) = !In64b (x + y) := by
  rw [Bool.eq_iff_iff, bne_iff_ne, Bool.not_eq_true', in64b_false]
  exact not_congr (over_add hx hy)
theorem over_subb {x y : Int} (hx : In64 x) (hy : In64 y) :
    (bits .and .i64 (bits .xor .i64 x y) (bits .xor .i64 x (wrap64 (x - y))) / 9223372036854775808 != 0) = !In64b (x - y) := by
  rw [Bool.eq_iff_iff, bne_iff_ne, Bool.not_eq_true', in64b_false]
  exact not_congr (over_sub hx hy)
theorem mul_wrap (z : Int) : wrap64 (z % 18446744073709551616) = wrap64 z := by unfold wrap64; omega
theorem over_mulb {x y : Int} (hx : In64 x) (hy : In64 y) : (x * y / 18446744073709551616 != wrap64 (x * y) / 9223372036854775808) = !In64b (x * y) := by
  have hb := mul_bd hx hy
  rw [Bool.eq_iff_iff, bne_iff_ne, Bool.not_eq_true', in64b_false]
  generalize x * y = z at *
  unfold In64 wrap64
  omega
/-- What two numbers come to: the number, or that it is over. -/
def fin (r : Int) : Int × Bool × Int := if In64b r then (r, false, 0) else (0, false, 2)
theorem fin_in {r : Int} (h : In64b r = true) : fin r = (r, false, 0) := by unfold fin; rw [if_pos h]
theorem fin_out {r : Int} (h : In64b r = false) : fin r = (0, false, 2) := by unfold fin; rw [if_neg (by rw [h]; decide)]
/-- The step of two numbers by a sign. -/
def stepZ (s : List UInt8) (x y : Int) : Int × Bool × Int :=
  if s = [60] then (0, decide (x < y), 0) else if s = [61, 61] then (0, x == y, 0) else if s = [43] then fin (x + y) else if s = [45] then fin (x - y) else
  if s = [42] then fin (x * y) else if s = [47] then (if y = 0 then (0, false, 3) else fin (x.tdiv y)) else if s = [37] then (if y = 0 then (0, false, 3) else (x.tmod y, false, 0)) else (0, false, 7)
/-- A product that was cut to 64 bits, divided again. -/
theorem wrap64_mod (r : Int) : ∃ k : Int, wrap64 r = r + k * 18446744073709551616 := ⟨-((r + 9223372036854775808) / 18446744073709551616), by unfold wrap64; omega⟩
theorem tdiv_bd {p y : Int} (hp : In64 p) (hy : y ≠ 0) (hn : ¬ (p = -9223372036854775808 ∧ y = -1)) : In64 (p.tdiv y) := by
  unfold In64 at *
  rcases Int.lt_or_gt_of_ne hy with hy | hy
  · obtain ⟨Y, rfl⟩ : ∃ Y, y = -Y := ⟨-y, by omega⟩
    by_cases a : p < 0
    · obtain ⟨X, rfl⟩ : ∃ X, p = -X := ⟨-p, by omega⟩
      rw [(tdiv_neg_neg (by omega) (by omega)).1]
      have h := quot_bd (X := X) (Y := Y) (by omega) (by omega)
      by_cases hX : X = 9223372036854775808
      · have : X / Y < 9223372036854775808 := Int.ediv_lt_of_lt_mul (by omega) (by omega)
        omega
      · omega
    · rw [(tdiv_pn (by omega) (by omega)).1]
      have h := quot_bd (X := p) (Y := Y) (by omega) (by omega)
      omega
  · by_cases a : p < 0
    · obtain ⟨X, rfl⟩ : ∃ X, p = -X := ⟨-p, by omega⟩
      rw [(tdiv_np (by omega) (by omega)).1]
      have h := quot_bd (X := X) (Y := y) (by omega) (by omega)
      omega
    · rw [(tdiv_nn (by omega) (by omega)).1]
      have h := quot_bd (X := p) (Y := y) (by omega) (by omega)
      omega
theorem tmod_lt {p y : Int} (hy : y ≠ 0) : (p.tmod y).natAbs < y.natAbs := by
  rw [Int.natAbs_tmod]
  exact Nat.mod_lt _ (by omega)
theorem mul_back {x y : Int} (hx : In64 x) (hy : In64 y) (h0 : y ≠ 0) (h1 : ¬ (y = -1 ∧ x = -9223372036854775808)) :
    (wrap64 ((wrap64 (x * y)).tdiv y) = x) ↔ In64 (x * y) := by
  have hp := wrap64_in64 (x * y)
  constructor
  · intro h
    by_cases hn : wrap64 (x * y) = -9223372036854775808 ∧ y = -1
    · obtain ⟨h2, rfl⟩ := hn
      unfold In64 at *; unfold wrap64 at h2; omega
    · rw [wrap64_id (tdiv_bd hp h0 hn)] at h
      have hm := Int.tmod_add_mul_tdiv (wrap64 (x * y)) y
      rw [h] at hm
      obtain ⟨k, hk⟩ := wrap64_mod (x * y)
      have hlt := tmod_lt (p := wrap64 (x * y)) h0
      have hc := Int.mul_comm x y
      generalize (wrap64 (x * y)).tmod y = t at *
      generalize wrap64 (x * y) = p at *
      generalize x * y = z at *
      unfold In64 at *
      have : k = 0 := by omega
      subst this
      omega
  · intro h
    rw [wrap64_id h, Int.mul_tdiv_cancel _ h0, wrap64_id hx]
theorem mul_backb {x y : Int} (hx : In64 x) (hy : In64 y) (h0 : y ≠ 0) (h1 : ¬ (y = -1 ∧ x = -9223372036854775808)) :
    (wrap64 ((wrap64 (x * y)).tdiv y) != x) = !In64b (x * y) := by
  rw [Bool.eq_iff_iff, bne_iff_ne, Bool.not_eq_true', in64b_false]
  exact not_congr (mul_back hx hy h0 h1)
theorem neg_one_back (x : Int) : (wrap64 (x * -1) != wrap64 (-x)) = false := by
  rw [show x * -1 = -x from by omega]
  simp
theorem rem_law {x y : Int} (hx : In64 x) (hy : In64 y) (h0 : y ≠ 0) (h1 : y ≠ -1) : wrap64 (x - wrap64 (wrap64 (x.tdiv y) * y)) = x.tmod y := by
  rw [wrap64_id (tdiv_bd hx h0 (fun h => h1 h.2))]
  have hm := Int.tmod_add_mul_tdiv x y
  have hlt := tmod_lt (p := x) h0
  have hc := Int.mul_comm y (x.tdiv y)
  rw [hc] at hm
  generalize x.tdiv y * y = z at *
  generalize x.tmod y = t at *
  unfold In64 at *
  unfold wrap64
  omega
theorem tdiv_in {x y : Int} (hx : In64 x) (h0 : y ≠ 0) (h1 : y ≠ -1) : In64b (x.tdiv y) = true := (in64b_iff _).2 (tdiv_bd hx h0 (fun h => h1 h.2))
theorem tdiv_m1 (x : Int) : x.tdiv (-1) = -x ∧ x.tmod (-1) = 0 := ⟨by rw [Int.tdiv_neg, Int.tdiv_one], by rw [Int.tmod_neg, Int.tmod_one]⟩
theorem fin_kind (r : Int) : 0 ≤ (fin r).2.2 ∧ (fin r).2.2 ≤ 7 := by unfold fin; split <;> simp
theorem stepZ_kind (s : List UInt8) (x y : Int) : 0 ≤ (stepZ s x y).2.2 ∧ (stepZ s x y).2.2 ≤ 7 := by
  unfold stepZ
  repeat' split
  all_goals first | exact fin_kind _ | (simp; done)
theorem tmod_sign (x y : Int) : (0 ≤ x → 0 ≤ x.tmod y) ∧ (x ≤ 0 → x.tmod y ≤ 0) := by
  constructor
  · intro h; exact Int.tmod_nonneg _ h
  · intro h
    have := Int.tmod_nonneg (a := -x) y (by omega)
    rw [Int.neg_tmod] at this
    omega
theorem back_law {x y : Int} (hx : In64 x) (hy : y ≠ 0) : In64b (x.tdiv y * y) = true ∧ x.tdiv y * y + x.tmod y = x := by
  have hm := Int.tmod_add_mul_tdiv x y
  have hc := Int.mul_comm y (x.tdiv y)
  have hs := tmod_sign x y
  have hl : (x.tmod y).natAbs ≤ x.natAbs := by rw [Int.natAbs_tmod]; exact Nat.mod_le _ _
  rw [hc] at hm
  refine ⟨(in64b_iff _).2 ?_, by omega⟩
  generalize x.tdiv y * y = z at *
  generalize x.tmod y = t at *
  unfold In64 at *
  omega
theorem tmod_in {x : Int} (y : Int) (hx : In64 x) : In64 (x.tmod y) := by
  have hs := tmod_sign x y
  have hl : (x.tmod y).natAbs ≤ x.natAbs := by rw [Int.natAbs_tmod]; exact Nat.mod_le _ _
  generalize x.tmod y = t at *
  unfold In64 at *
  omega
theorem over_div {x y : Int} (hx : In64 x) (hy : y ≠ 0) (h : In64b (x.tdiv y) = false) : y = -1 ∧ x.tmod y = 0 := by
  have h1 : y = -1 := by
    apply Decidable.byContradiction
    intro hn
    rw [tdiv_in hx hy hn] at h
    cases h
  refine ⟨h1, ?_⟩
  rw [h1]; exact (tdiv_m1 x).2
end Go.Proofs.Ytegekajbnecdfaa

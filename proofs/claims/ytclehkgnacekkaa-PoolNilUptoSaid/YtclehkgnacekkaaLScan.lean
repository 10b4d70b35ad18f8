/- Layer 2: own words, signs, tokens, and going over a text: plain laws. Written by wip/gen/gen_lscan.py. -/
import Derived.Test.YtclehkgnacekkaaLLaw
namespace Go.Proofs.Ytclehkgnacekkaa
open Go.RowKit
def ownWs : List ByteArray := [⟨#[102, 117, 110]⟩, ⟨#[114, 101, 99]⟩, ⟨#[108, 101, 116]⟩, ⟨#[105, 110]⟩, ⟨#[105, 102]⟩, ⟨#[116, 104, 101, 110]⟩, ⟨#[101, 108, 115, 101]⟩, ⟨#[99, 97, 115, 101]⟩, ⟨#[111, 102]⟩, ⟨#[101, 110, 100]⟩, ⟨#[116, 114, 117, 101]⟩, ⟨#[102, 97, 108, 115, 101]⟩, ⟨#[100, 101, 102]⟩, ⟨#[73, 110, 116]⟩, ⟨#[66, 111, 111, 108]⟩]
def signWs : List ByteArray := [⟨#[61, 61]⟩, ⟨#[61, 62]⟩, ⟨#[58, 61]⟩, ⟨#[45, 62]⟩, ⟨#[40]⟩, ⟨#[41]⟩, ⟨#[123]⟩, ⟨#[125]⟩, ⟨#[60]⟩, ⟨#[62]⟩, ⟨#[61]⟩, ⟨#[44]⟩, ⟨#[58]⟩, ⟨#[59]⟩, ⟨#[124]⟩, ⟨#[46]⟩, ⟨#[92]⟩, ⟨#[64]⟩, ⟨#[94]⟩, ⟨#[63]⟩, ⟨#[43]⟩, ⟨#[45]⟩, ⟨#[42]⟩, ⟨#[47]⟩, ⟨#[37]⟩]
def signNs : List (List Int) := [[61, 61], [61, 62], [58, 61], [45, 62], [40], [41], [123], [125], [60], [62], [61], [44], [58], [59], [124], [46], [92], [64], [94], [63], [43], [45], [42], [47], [37]]
def sgls : List Int := [40, 41, 123, 125, 60, 62, 61, 44, 58, 59, 124, 46, 92, 64, 94, 63, 43, 45, 42, 47, 37]
/-- Is a text in a list of texts? -/
def inB (ws : List ByteArray) (s : ByteArray) : Bool := ws.any fun w => w.toList == s.toList
def ownB (s : ByteArray) : Bool := inB ownWs s
def dblB (a b : Int) : Bool := (a == 61 && b == 61) || ((a == 61 && b == 62) || ((a == 58 && b == 61) || (a == 45 && b == 62)))
/-- How many bytes the sign has with which bytes begin. -/
def signS (l : List Int) : Nat := if 2 ≤ l.length ∧ dblB (gb l 0) (gb l 1) = true then 2 else if gb l 0 ∈ sgls then 1 else 0
theorem sign_bd (l : List Int) (h : 1 ≤ l.length) : signS l ≤ 2 ∧ signS l ≤ l.length := by unfold signS; split; omega; split <;> omega
structure Tok where
  kind : Int
  text : ByteArray
  n : Int
  at_ : Int
def Tok.cells (t : Tok) : List Value := [.int .u8 t.kind, .string t.text, .int .i64 t.n, .int .i64 t.at_]
/-- The number of digits, and its code. -/
def numS (l : List Int) : Int × Int :=
  if (gb l 0 = 48 ∧ 1 < l.length) ∨ ¬ (l.all digitB = true) then (0, 4) else if 9223372036854775807 < decV l 0 then (0, 7) else (decV l 0, 0)
/-- A run as a token, and its code. -/
def runS (s : ByteArray) (at_ : Int) : Tok × Int :=
  if digitB (gb (numsOf s) 0) = true then (⟨2, ⟨#[]⟩, (numS (numsOf s)).1, at_⟩, (numS (numsOf s)).2) else
  if ownB s = true then (⟨3, s, 0, at_⟩, 0) else if wordlyB (numsOf s) = false then (⟨1, s, 0, at_⟩, 4) else
  if 32 < (numsOf s).length then (⟨1, s, 0, at_⟩, 7) else (⟨1, s, 0, at_⟩, 0)
def blankB (c : Int) : Bool := c == 32 || (c == 9 || (c == 13 || c == 10))
/-- The run at a place. -/
def runAt (l : List Int) (a : Nat) : List Int := (l.drop a).takeWhile runsB
def body (rec_ : Nat → Bool → List Tok → List Tok × Int × Int) (l : List Int) (a : Nat) (rem : Bool) (out : List Tok) : List Tok × Int × Int :=
  if a < l.length then
    if nx l a = 0 then ([], a, 3)
    else if rem = true then rec_ (a + nx l a) (gb l a != 10) out
    else if blankB (gb l a) = true then rec_ (a + 1) false out
    else if gb l a = 35 then rec_ (a + 1) true out
    else if runsB (gb l a) = true then
      if (runS (strOfNums (runAt l a)) a).2 = 0 then rec_ (a + (runAt l a).length) false (out ++ [(runS (strOfNums (runAt l a)) a).1]) else ([], a, (runS (strOfNums (runAt l a)) a).2)
    else if signS (l.drop a) = 0 then ([], a, 4)
    else rec_ (a + signS (l.drop a)) false (out ++ [⟨3, strOfNums ((l.drop a).take (signS (l.drop a))), 0, a⟩])
  else (out ++ [⟨4, ⟨#[]⟩, 0, l.length⟩], 0, 0)
def scanF (l : List Int) : Nat → Nat → Bool → List Tok → List Tok × Int × Int
  | 0 => fun _ _ _ => ([], 0, 0)
  | f + 1 => fun a rem out => body (scanF l f) l a rem out
theorem run_pos {l : List Int} {a : Nat} (h : a < l.length) (hr : runsB (gb l a) = true) : 0 < (runAt l a).length := by
  unfold runAt
  rw [List.drop_eq_getElem_cons h]
  have : l[a] = gb l a := by unfold gb; simp [h]
  rw [List.takeWhile_cons, this, hr]
  simp
theorem body_congr {r1 r2 : Nat → Bool → List Tok → List Tok × Int × Int} {l : List Int} {a : Nat} (h : ∀ a', a < l.length → a < a' → r1 a' = r2 a') (rem : Bool) (out : List Tok) : body r1 l a rem out = body r2 l a rem out := by
  unfold body
  by_cases ha : a < l.length
  · rw [if_pos ha, if_pos ha]
    by_cases h0 : nx l a = 0
    · rw [if_pos h0, if_pos h0]
    rw [if_neg h0, if_neg h0]
    rw [h (a + nx l a) ha (by omega), h (a + 1) ha (by omega)]
    by_cases hr : runsB (gb l a) = true
    · rw [h _ ha (by have := run_pos ha hr; omega : a < a + (runAt l a).length)]
      simp only [hr, if_true]
    · have hr' : runsB (gb l a) = false := by simpa using hr
      simp only [hr', Bool.false_eq_true, if_false]
      by_cases hs : signS (l.drop a) = 0
      · simp only [hs, if_true]
      · rw [h _ ha (by omega : a < a + signS (l.drop a))]
  · rw [if_neg ha, if_neg ha]
theorem scan_fuel (l : List Int) : ∀ (n f g a : Nat), l.length - a ≤ n → l.length - a < f → l.length - a < g → scanF l f a = scanF l g a := by
  intro n
  induction n with
  | zero =>
    intro f g a hn hf hg
    obtain ⟨f, rfl⟩ : ∃ k, f = k + 1 := ⟨f - 1, by omega⟩
    obtain ⟨g, rfl⟩ : ∃ k, g = k + 1 := ⟨g - 1, by omega⟩
    funext rem out
    exact body_congr (fun a' h _ => by omega) rem out
  | succ n ih =>
    intro f g a hn hf hg
    obtain ⟨f, rfl⟩ : ∃ k, f = k + 1 := ⟨f - 1, by omega⟩
    obtain ⟨g, rfl⟩ : ∃ k, g = k + 1 := ⟨g - 1, by omega⟩
    funext rem out
    exact body_congr (fun a' h h' => ih f g a' (by omega) (by omega) (by omega)) rem out
/-- What any bytes are from a place on: the tokens behind those that were told; or a place and a code. -/
def scanS (l : List Int) (a : Nat) (rem : Bool) (out : List Tok) : List Tok × Int × Int := scanF l (l.length - a + 1) a rem out
theorem scan_eq (l : List Int) (a : Nat) (rem : Bool) (out : List Tok) : scanS l a rem out = body (scanS l) l a rem out := by
  show body (scanF l (l.length - a)) l a rem out = _
  refine body_congr (fun a' h h' => ?_) rem out
  funext rem out
  show scanF l (l.length - a) a' rem out = scanF l (l.length - a' + 1) a' rem out
  rw [scan_fuel l (l.length - a') (l.length - a) (l.length - a' + 1) a' (by omega) (by omega) (by omega)]
section
variable {l : List Int} {a : Nat} {rem : Bool} {out : List Tok}
theorem scan_end (h : l.length ≤ a) : scanS l a rem out = (out ++ [⟨4, ⟨#[]⟩, 0, l.length⟩], 0, 0) := by rw [scan_eq]; unfold body; rw [if_neg (by omega)]
theorem scan_utf (h : a < l.length) (h0 : nx l a = 0) : scanS l a rem out = ([], (a : Int), 3) := by rw [scan_eq]; unfold body; rw [if_pos h, if_pos h0]
theorem scan_rem (h : a < l.length) (h0 : nx l a ≠ 0) : scanS l a true out = scanS l (a + nx l a) (gb l a != 10) out := by rw [scan_eq]; unfold body; rw [if_pos h, if_neg h0, if_pos rfl]
theorem scan_blank (h : a < l.length) (h0 : nx l a ≠ 0) (hb : blankB (gb l a) = true) : scanS l a false out = scanS l (a + 1) false out := by rw [scan_eq]; unfold body; rw [if_pos h, if_neg h0, if_neg (by decide), if_pos hb]
theorem scan_hash (h : a < l.length) (h0 : nx l a ≠ 0) (hb : gb l a = 35) : scanS l a false out = scanS l (a + 1) true out := by rw [scan_eq]; unfold body; rw [if_pos h, if_neg h0, if_neg (by decide), if_neg (by rw [hb]; decide), if_pos hb]
theorem scan_run (h : a < l.length) (h0 : nx l a ≠ 0) (hb : blankB (gb l a) = false) (hh : gb l a ≠ 35) (hr : runsB (gb l a) = true) :
    scanS l a false out = if (runS (strOfNums (runAt l a)) a).2 = 0 then scanS l (a + (runAt l a).length) false (out ++ [(runS (strOfNums (runAt l a)) a).1]) else ([], (a : Int), (runS (strOfNums (runAt l a)) a).2) := by
  rw [scan_eq]; unfold body; rw [if_pos h, if_neg h0, if_neg (by decide), if_neg (by rw [hb]; decide), if_neg hh, if_pos hr]
theorem scan_nosign (h : a < l.length) (h0 : nx l a ≠ 0) (hb : blankB (gb l a) = false) (hh : gb l a ≠ 35) (hr : runsB (gb l a) = false) (hs : signS (l.drop a) = 0) : scanS l a false out = ([], (a : Int), 4) := by
  rw [scan_eq]; unfold body; rw [if_pos h, if_neg h0, if_neg (by decide), if_neg (by rw [hb]; decide), if_neg hh, if_neg (by rw [hr]; decide), if_pos hs]
theorem scan_sign (h : a < l.length) (h0 : nx l a ≠ 0) (hb : blankB (gb l a) = false) (hh : gb l a ≠ 35) (hr : runsB (gb l a) = false) (hs : signS (l.drop a) ≠ 0) :
    scanS l a false out = scanS l (a + signS (l.drop a)) false (out ++ [⟨3, strOfNums ((l.drop a).take (signS (l.drop a))), 0, a⟩]) := by
  rw [scan_eq]; unfold body; rw [if_pos h, if_neg h0, if_neg (by decide), if_neg (by rw [hb]; decide), if_neg hh, if_neg (by rw [hr]; decide), if_neg hs]
end
theorem nx_ascii {l : List Int} {a : Nat} (hb : Byt l) (h : a < l.length) (hc : gb l a < 128) : nx l a = 1 := by
  have h1 := next_is (byt_drop hb a) 1 (by rw [List.length_drop]; omega) (by simp only [V]; rw [gb_drop]; exact hc)
  unfold nx; rw [h1]; rfl
theorem rn_ascii {l : List Int} {a : Nat} (hb : Byt l) (h : a < l.length) (hc : gb l a < 128) : rn l a = gb l a := by
  have h1 := next_is (byt_drop hb a) 1 (by rw [List.length_drop]; omega) (by simp only [V]; rw [gb_drop]; exact hc)
  unfold rn; rw [h1, refR1, gb_drop]; rfl
theorem blank_iff (c : Int) : blankB c = true ↔ c = 32 ∨ c = 9 ∨ c = 13 ∨ c = 10 := by unfold blankB; simp
theorem blank_no (c : Int) : blankB c = false ↔ ¬ (c = 32 ∨ c = 9 ∨ c = 13 ∨ c = 10) := by rw [← blank_iff]; simp
theorem sgl_ascii {c : Int} (h : c ∈ sgls) : 37 ≤ c ∧ c ≤ 125 := by simp [sgls] at h; omega
end Go.Proofs.Ytclehkgnacekkaa

/- strings.Join, strings.Compare, strconv.FormatInt: the shelf's contracts, as the machine of values wants them. -/
import Derived.Test.YtgedpbpfoaljhaaDoorVConc
import Derived.Test.YtgedpbpfoaljhaaDoorShStr
set_option linter.unusedVariables false
set_option linter.unusedSimpArgs false
namespace Go.Proofs.YtgedpbpfoaljhaaDoor.Vm
open Go.RowKit
/-- Texts, one cell each. -/
def rS (ss : List ByteArray) : List (List D) := ss.map fun s => [.sc (.string s)]
theorem rS_len (ss : List ByteArray) : (rS ss).length = ss.length := by rw [rS, List.length_map]
theorem rS_get {ss : List ByteArray} {k : Nat} {x : ByteArray} (h : ss[k]? = some x) : (rS ss)[k]? = some [.sc (.string x)] := by rw [rS, List.getElem?_map, h]; rfl
theorem rS_flat : ∀ (ss : List ByteArray) (i : Nat), (rS ss).flatten[i]? = (ss[i]?).map fun s => D.sc (.string s)
  | [], i => by simp [rS]
  | s :: ss, 0 => by simp [rS]
  | s :: ss, i + 1 => by
    have := rS_flat ss i
    simp only [rS, List.map_cons, List.flatten_cons, List.singleton_append, List.getElem?_cons_succ] at this ⊢
    exact this
theorem join_str (ss : List ByteArray) (sep : ByteArray) (hl : (Lib.join (ss.map (·.data.toList)) sep.data.toList).length ≤ 140737488355328) (hn : ss.length ≤ 1048576) :
    Spec 7 [.one (.sl 1 (rS ss)), .one (.sc (.string sep))] [.one (.sc (.string ⟨(Lib.join (ss.map (·.data.toList)) sep.data.toList).toArray⟩))] := by
  refine ⟨by kernel_rfl, fun I w args hI hat => ?_⟩
  match args, hat with
  | [v1, v2], ⟨h1, h2, _⟩ =>
    have h1 : AtD I w v1 (.sl 1 (rS ss)) := h1
    have h2 : AtD I w v2 (.sc (.string sep)) := h2
    cases h2
    generalize hr : rS ss = rows at h1
    cases h1 with
    | nil A cap =>
      have : ss = [] := by cases ss with | nil => rfl | cons a l => simp [rS] at hr
      subst this
      refine (Tryd.strings_Join_none A cap sep w).mono ?_
      rintro e w' ⟨rfl, rfl⟩
      exact ⟨_, rfl, .sc _ rfl, Below.refl _ _⟩
    | sl b off cap _ _ us hcap hU hrl hl2 hc hd =>
      have hlen : rows.length = ss.length := by rw [← hr, rS_len]
      have hul : us.length = ss.length := by rw [hl2, hlen, Nat.mul_one]
      have hcells : ∀ (j : Nat) x, ss[j]? = some x → w.cell? ⟨b, off + j, none⟩ = some (.string x) := fun j x hx => by
        have hj : j < us.length := by rw [hul]; exact (List.getElem?_eq_some_iff.1 hx).1
        obtain ⟨u, hu⟩ : ∃ u, us[j]? = some u := ⟨_, List.getElem?_eq_getElem hj⟩
        have hdj := hd j u (.sc (.string x)) hu (by rw [← hr, rS_flat, hx]; rfl)
        rw [hc j _ hu]
        cases hdj
        rfl
      by_cases h0 : ss = []
      · subst h0
        have e0 : rows.length = 0 := by rw [hlen]; rfl
        rw [e0]
        refine (Tryd.strings_Join_none (some ⟨b, off, none⟩) cap sep w).mono ?_
        rintro e w' ⟨rfl, rfl⟩
        exact ⟨_, rfl, .sc _ rfl, Below.refl _ _⟩
      have hb : b < w.heap.size := by obtain ⟨k, _, hk⟩ := hU; exact hI b k hk
      have h3 := Tryd.strings_Join b off cap ss sep w hcells hb (by omega) (by rw [← hlen]; exact hcap) hl
      rw [← hlen] at h3
      refine h3.mono ?_
      rintro e w' ⟨rfl, hbel⟩
      exact ⟨_, rfl, .sc _ rfl, hbel⟩
theorem cmp_s (a b : ByteArray) : Spec 76 [.one (.sc (.string a)), .one (.sc (.string b))] [.one (.sc (.int .i64 (Lib.compareBytes a.data.toList b.data.toList)))] := by
  refine ⟨by kernel_rfl, fun I w args hI hat => ?_⟩
  match args, hat with
  | [v1, v2], ⟨h1, h2, _⟩ =>
    have h1 : AtD I w v1 (.sc (.string a)) := h1
    have h2 : AtD I w v2 (.sc (.string b)) := h2
    cases h1
    cases h2
    refine (Tryd.strings_Compare a b w).mono ?_
    rintro e w' ⟨rfl, rfl⟩
    exact ⟨_, rfl, .sc _ rfl, Below.refl _ _⟩
theorem fmt_small (i : Nat) (h : i < 100) : Spec 14 [.one (.sc (.int .i64 i)), .one (.sc (.int .i64 10))] [.one (.sc (.string ⟨(Lib.decDigits i).toArray⟩))] := by
  refine ⟨by kernel_rfl, fun I w args hI hat => ?_⟩
  match args, hat with
  | [v1, v2], ⟨h1, h2, _⟩ =>
    have h1 : AtD I w v1 (.sc (.int .i64 i)) := h1
    have h2 : AtD I w v2 (.sc (.int .i64 10)) := h2
    cases h1
    cases h2
    refine (Tryd.strconv_FormatInt_10_small i h w).mono ?_
    rintro e w' ⟨rfl, rfl⟩
    exact ⟨_, rfl, .sc _ rfl, Below.refl _ _⟩
/-- One digit. -/
def fmtF : List R → Option (List R)
  | [.one (.sc (.int .i64 (.ofNat n))), .one (.sc (.int .i64 (.ofNat 10)))] => match n with
    | 0 => some [.one (.sc (.string ⟨#[48]⟩))]
    | 1 => some [.one (.sc (.string ⟨#[49]⟩))]
    | 2 => some [.one (.sc (.string ⟨#[50]⟩))]
    | 3 => some [.one (.sc (.string ⟨#[51]⟩))]
    | 4 => some [.one (.sc (.string ⟨#[52]⟩))]
    | 5 => some [.one (.sc (.string ⟨#[53]⟩))]
    | 6 => some [.one (.sc (.string ⟨#[54]⟩))]
    | 7 => some [.one (.sc (.string ⟨#[55]⟩))]
    | 8 => some [.one (.sc (.string ⟨#[56]⟩))]
    | 9 => some [.one (.sc (.string ⟨#[57]⟩))]
    | _ => none
  | _ => none
theorem fmt_pure (rs q : List R) (h : fmtF rs = some q) : Spec 14 rs q := by
  have key : ∀ i : Nat, i < 10 → Lib.decDigits i = [UInt8.ofNat (48 + i)] := fun i hi => by
    unfold Lib.decDigits
    rw [dif_pos hi]
  unfold fmtF at h
  split at h <;> try cases h
  rename_i n
  split at h <;> first | (cases h; done) | skip
  all_goals
    cases h
    first
    | exact (by have h := fmt_small 0 (by decide); rw [key 0 (by decide)] at h; exact h)
    | exact (by have h := fmt_small 1 (by decide); rw [key 1 (by decide)] at h; exact h)
    | exact (by have h := fmt_small 2 (by decide); rw [key 2 (by decide)] at h; exact h)
    | exact (by have h := fmt_small 3 (by decide); rw [key 3 (by decide)] at h; exact h)
    | exact (by have h := fmt_small 4 (by decide); rw [key 4 (by decide)] at h; exact h)
    | exact (by have h := fmt_small 5 (by decide); rw [key 5 (by decide)] at h; exact h)
    | exact (by have h := fmt_small 6 (by decide); rw [key 6 (by decide)] at h; exact h)
    | exact (by have h := fmt_small 7 (by decide); rw [key 7 (by decide)] at h; exact h)
    | exact (by have h := fmt_small 8 (by decide); rw [key 8 (by decide)] at h; exact h)
    | exact (by have h := fmt_small 9 (by decide); rw [key 9 (by decide)] at h; exact h)
end Go.Proofs.YtgedpbpfoaljhaaDoor.Vm

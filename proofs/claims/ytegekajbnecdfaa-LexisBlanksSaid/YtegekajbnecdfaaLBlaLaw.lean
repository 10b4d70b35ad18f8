/- Layer 2: blanks and remarks between tokens change nothing but places: plain laws. -/
import Derived.Test.YtegekajbnecdfaaLTokWalk
namespace Go.Proofs.Ytegekajbnecdfaa
open Go.RowKit
theorem V_local (x m : List Int) : V (x ++ m) x.length ↔ V x x.length := by
  match x with
  | [] => simp [V]
  | [a] => simp [V, gb]
  | [a, b] => simp [V, gb]
  | [a, b, c] => simp [V, gb]
  | [a, b, c, d] => simp [V, gb]
  | a :: b :: c :: d :: e :: t => simp [V]
theorem nx_of_V {x m : List Int} (hb : Byt (x ++ m)) (hv : V x x.length) : nx (x ++ m) 0 = x.length := by
  have := next_is hb x.length (by simp) ((V_local x m).2 hv)
  unfold nx
  rw [List.drop_zero, this]
  simp
theorem V_pos {x : List Int} (hv : V x x.length) : x ≠ [] := by
  rintro rfl
  simp [V] at hv
theorem V_of_nx {l : List Int} {a : Nat} (hb : Byt l) (h0 : nx l a ≠ 0) : V ((l.drop a).take (nx l a)) (nx l a) ∧ nx l a ≤ (l.drop a).length := by
  rcases next_has (byt_drop hb a) with h | ⟨n, hn, h1, h4, hv⟩
  · exact absurd (by unfold nx; rw [h]; rfl) h0
  · have hnx : nx l a = n := by
      unfold nx
      rw [next_is (byt_drop hb a) n hn hv]
      simp
    rw [hnx]
    refine ⟨?_, hn⟩
    have hl : ((l.drop a).take n).length = n := by rw [List.length_take]; omega
    have := (V_local ((l.drop a).take n) ((l.drop a).drop n)).1
    rw [List.take_append_drop, hl] at this
    exact this hv
abbrev Core := Int × ByteArray × Int
def Tok.core (t : Tok) : Core := (t.kind, t.text, t.n)
theorem runS_core (s : ByteArray) (a : Int) : (runS s a).1.core = (runS s 0).1.core ∧ (runS s a).2 = (runS s 0).2 ∧ (runS s a).1.at_ = a := by
  unfold runS Tok.core
  repeat' split
  all_goals exact ⟨rfl, rfl, rfl⟩
/-- How a text is read: what is ahead of its first token, and its tokens, each with its bytes and all behind them up to the next one. -/
inductive Sc : List Int → Bool → List Int → List (Core × List Int) → Prop
  | fin (rem : Bool) : Sc [] rem [] []
  | remk {x m pre : List Int} {cs : List (Core × List Int)} : V x x.length → Sc m (gb x 0 != 10) pre cs → Sc (x ++ m) true (x ++ pre) cs
  | blank {c : Int} {m pre : List Int} {cs : List (Core × List Int)} : blankB c = true → Sc m false pre cs → Sc (c :: m) false (c :: pre) cs
  | hash {m pre : List Int} {cs : List (Core × List Int)} : Sc m true pre cs → Sc (35 :: m) false (35 :: pre) cs
  | run {x m pre : List Int} {cs : List (Core × List Int)} : x ≠ [] → (∀ c ∈ x, runsB c = true) → (∀ c, m.head? = some c → runsB c = false) → (runS (strOfNums x) 0).2 = 0 → Sc m false pre cs → Sc (x ++ m) false [] (((runS (strOfNums x) 0).1.core, x ++ pre) :: cs)
  | sign {x m pre : List Int} {cs : List (Core × List Int)} : x ≠ [] → signS (x ++ m) = x.length → Sc m false pre cs → Sc (x ++ m) false [] (((3, strOfNums x, 0), x ++ pre) :: cs)
def flatC (cs : List (Core × List Int)) : List Int := cs.flatMap fun c => c.2
def place : Nat → List (Core × List Int) → List Tok
  | _, [] => []
  | p, (t, c) :: cs => ⟨t.1, t.2.1, t.2.2, p⟩ :: place (p + c.length) cs
theorem place_len : ∀ (p : Nat) (cs : List (Core × List Int)), (place p cs).length = cs.length
  | _, [] => rfl
  | p, (t, c) :: cs => by simp [place, place_len]
theorem place_core : ∀ (p : Nat) (cs : List (Core × List Int)), (place p cs).map Tok.core = cs.map fun c => c.1
  | _, [] => rfl
  | p, (t, c) :: cs => by simp [place, place_core, Tok.core]
theorem Sc.flat {m : List Int} {rem : Bool} {pre : List Int} {cs : List (Core × List Int)} (h : Sc m rem pre cs) : m = pre ++ flatC cs := by
  induction h with
  | fin _ => rfl
  | remk _ _ ih => rw [ih, List.append_assoc]
  | blank _ _ ih => rw [ih]; rfl
  | hash _ ih => rw [ih]; rfl
  | run _ _ _ _ _ ih => rw [ih]; simp [flatC]
  | sign _ _ _ ih => rw [ih]; simp [flatC]
theorem takeWhile_all (p : Int → Bool) : ∀ (x m : List Int), (∀ c ∈ x, p c = true) → (∀ c, m.head? = some c → p c = false) → (x ++ m).takeWhile p = x
  | [], m, _, h => by
    cases m with
    | nil => rfl
    | cons c m =>
      have := h c rfl
      simp [this]
  | c :: x, m, h1, h2 => by
    rw [List.cons_append, List.takeWhile_cons, h1 c (by simp), if_pos rfl, takeWhile_all p x m (fun d hd => h1 d (by simp [hd])) h2]
theorem tw_split (p : Int → Bool) : ∀ l : List Int, l = l.takeWhile p ++ l.drop (l.takeWhile p).length ∧ (∀ c ∈ l.takeWhile p, p c = true) ∧ ∀ c, (l.drop (l.takeWhile p).length).head? = some c → p c = false
  | [] => ⟨rfl, by simp, by simp⟩
  | x :: l => by
    obtain ⟨h1, h2, h3⟩ := tw_split p l
    rw [List.takeWhile_cons]
    by_cases hx : p x = true
    · rw [if_pos hx]
      refine ⟨by simpa using h1, fun c hc => ?_, by simpa using h3⟩
      rcases List.mem_cons.1 hc with rfl | hc
      · exact hx
      · exact h2 c hc
    · rw [if_neg hx]
      refine ⟨rfl, by simp, fun c hc => ?_⟩
      simp at hc
      subst hc
      simpa using hx
theorem sign_first {l : List Int} (h : signS l ≠ 0) : blankB (gb l 0) = false ∧ gb l 0 ≠ 35 ∧ runsB (gb l 0) = false ∧ gb l 0 < 128 := by
  have hc : gb l 0 ∈ sgls ∨ gb l 0 = 61 ∨ gb l 0 = 58 ∨ gb l 0 = 45 := by
    unfold signS at h
    split at h
    · rename_i h2
      have := h2.2
      simp [dblB] at this
      omega
    · split at h
      · exact .inl ‹_›
      · exact absurd rfl h
  rw [blank_no, runs_no]
  rcases hc with hc | hc | hc | hc
  · simp [sgls] at hc; omega
  all_goals omega
theorem tok_mk {t : Tok} {c : Core} {a : Int} (h1 : t.core = c) (h2 : t.at_ = a) : (⟨c.1, c.2.1, c.2.2, a⟩ : Tok) = t := by subst h1; subst h2; rfl
/-- From the scan to the reading. -/
theorem sc_of_scan {l : List Int} (hb : Byt l) : ∀ (n a : Nat) (rem : Bool) (out : List Tok), l.length - a ≤ n → a ≤ l.length → (scanS l a rem out).2.2 = 0 →
    ∃ pre cs, Sc (l.drop a) rem pre cs ∧ scanS l a rem out = (out ++ place (a + pre.length) cs ++ [⟨4, ⟨#[]⟩, 0, l.length⟩], 0, 0) := by
  intro n
  induction n with
  | zero =>
    intro a rem out hn ha _
    rw [scan_end (by omega), List.drop_eq_nil_of_le (by omega)]
    exact ⟨[], [], .fin _, by simp [place]⟩
  | succ n ih =>
    intro a rem out hn ha h0
    rcases Nat.lt_or_ge a l.length with hlt | hge
    · by_cases hx : nx l a = 0
      · rw [scan_utf hlt hx] at h0; simp at h0
      · have hd : l.drop a = gb l a :: l.drop (a + 1) := by
          rw [List.drop_eq_getElem_cons hlt]; simp [gb, hlt]
        have hbd := nx_bd hx
        have hle := hbd.2.2 hlt
        cases rem
        · rcases scan_kinds (gb l a) with h | ⟨h, h35⟩ | ⟨h, h35, hr⟩ | ⟨h, h35, hr⟩
          · rw [scan_blank hlt hx h] at h0 ⊢
            obtain ⟨pre, cs, h1, h2⟩ := ih (a + 1) false out (by omega) (by omega) h0
            refine ⟨gb l a :: pre, cs, ?_, ?_⟩
            · rw [hd]; exact .blank h h1
            · rw [h2]; simp [Nat.add_assoc, Nat.add_comm 1]
          · rw [scan_hash hlt hx h35] at h0 ⊢
            obtain ⟨pre, cs, h1, h2⟩ := ih (a + 1) true out (by omega) (by omega) h0
            refine ⟨35 :: pre, cs, ?_, ?_⟩
            · rw [hd, h35]; exact .hash h1
            · rw [h2]; simp [Nat.add_assoc, Nat.add_comm 1]
          · have hp := run_pos hlt hr
            obtain ⟨t1, t2, t3⟩ := tw_split runsB (l.drop a)
            have hrl : (l.drop a).takeWhile runsB = runAt l a := rfl
            rw [hrl, List.drop_drop] at t1 t3
            rw [hrl] at t2
            have hlen : a + (runAt l a).length ≤ l.length := by
              have := takeWhile_len runsB (l.drop a)
              rw [hrl, List.length_drop] at this
              omega
            obtain ⟨rc1, rc2, rc3⟩ := runS_core (strOfNums (runAt l a)) a
            rw [scan_run hlt hx h h35 hr] at h0 ⊢
            by_cases hc : (runS (strOfNums (runAt l a)) a).2 = 0
            · rw [if_pos hc] at h0 ⊢
              obtain ⟨pre, cs, h1, h2⟩ := ih (a + (runAt l a).length) false _ (by omega) (by omega) h0
              refine ⟨[], ((runS (strOfNums (runAt l a)) 0).1.core, runAt l a ++ pre) :: cs, ?_, ?_⟩
              · have h' := Sc.run (x := runAt l a) (fun e => by rw [e] at hp; simp at hp) t2 t3 (rc2 ▸ hc) h1
                rw [← t1] at h'
                exact h'
              · rw [h2]
                have e : (⟨(runS (strOfNums (runAt l a)) 0).1.core.1, (runS (strOfNums (runAt l a)) 0).1.core.2.1, (runS (strOfNums (runAt l a)) 0).1.core.2.2, (a : Int)⟩ : Tok) = (runS (strOfNums (runAt l a)) a).1 := tok_mk rc1 rc3
                simp only [place, List.length_nil, Nat.add_zero, e, List.length_append, List.append_assoc, List.cons_append, List.nil_append, Nat.add_assoc]
            · rw [if_neg hc] at h0
              exact absurd h0 hc
          · by_cases hs : signS (l.drop a) = 0
            · rw [scan_nosign hlt hx h h35 hr hs] at h0; simp at h0
            · rw [scan_sign hlt hx h h35 hr hs] at h0 ⊢
              have hle := sign_lt hlt
              obtain ⟨pre, cs, h1, h2⟩ := ih (a + signS (l.drop a)) false _ (by omega) (by omega) h0
              have hlen : ((l.drop a).take (signS (l.drop a))).length = signS (l.drop a) := by rw [List.length_take, List.length_drop]; omega
              have e : l.drop a = (l.drop a).take (signS (l.drop a)) ++ l.drop (a + signS (l.drop a)) := by
                rw [← List.drop_drop, List.take_append_drop]
              refine ⟨[], ((3, strOfNums ((l.drop a).take (signS (l.drop a))), 0), (l.drop a).take (signS (l.drop a)) ++ pre) :: cs, ?_, ?_⟩
              · have h' := Sc.sign (x := (l.drop a).take (signS (l.drop a))) (m := l.drop (a + signS (l.drop a))) (fun e => by rw [e] at hlen; exact hs hlen.symm) (by rw [← e, hlen]) h1
                rw [← e] at h'
                exact h'
              · rw [h2]
                simp only [place, List.length_nil, Nat.add_zero, List.length_append, hlen, List.append_assoc, List.cons_append, List.nil_append, Nat.add_assoc]
        · rw [scan_rem hlt hx] at h0 ⊢
          obtain ⟨pre, cs, h1, h2⟩ := ih (a + nx l a) (gb l a != 10) out (by omega) (by omega) h0
          obtain ⟨hv, hl⟩ := V_of_nx hb hx
          have hlen : ((l.drop a).take (nx l a)).length = nx l a := by rw [List.length_take]; omega
          refine ⟨(l.drop a).take (nx l a) ++ pre, cs, ?_, ?_⟩
          · have e : l.drop a = (l.drop a).take (nx l a) ++ l.drop (a + nx l a) := by
              rw [← List.drop_drop, List.take_append_drop]
            have h10 : (gb l a != 10) = (gb ((l.drop a).take (nx l a)) 0 != 10) := by
              rw [gb_take _ _ _ (by omega), gb_drop, Nat.add_zero]
            rw [h10] at h1
            have h' := Sc.remk (x := (l.drop a).take (nx l a)) (by rw [hlen]; exact hv) h1
            rw [← e] at h'
            exact h'
          · rw [h2, List.length_append, hlen]; simp [Nat.add_assoc]
    · rw [scan_end hge, List.drop_eq_nil_of_le hge]
      exact ⟨[], [], .fin _, by simp [place]⟩
/-- From the reading to the scan. -/
theorem scan_of_sc {l : List Int} (hb : Byt l) {m : List Int} {rem : Bool} {pre : List Int} {cs : List (Core × List Int)} (h : Sc m rem pre cs) :
    ∀ (a : Nat) (out : List Tok), a ≤ l.length → l.drop a = m → scanS l a rem out = (out ++ place (a + pre.length) cs ++ [⟨4, ⟨#[]⟩, 0, l.length⟩], 0, 0) := by
  induction h with
  | fin rem =>
    intro a out ha hd
    have : l.length ≤ a := by
      have := congrArg List.length hd
      rw [List.length_drop] at this
      simp at this
      omega
    rw [scan_end this]; simp [place]
  | @remk x m pre cs hv h1 ih =>
    intro a out ha hd
    have hx := V_pos hv
    have hxl : 0 < x.length := List.length_pos_iff.2 hx
    have hl : a + x.length ≤ l.length := by
      have := congrArg List.length hd
      rw [List.length_drop, List.length_append] at this
      omega
    have hn : nx l a = x.length := by
      have := nx_of_V (x := x) (m := m) (by rw [← hd]; exact byt_drop hb a) hv
      rw [← hd] at this
      unfold nx at this ⊢
      rwa [List.drop_zero] at this
    have hg : gb l a = gb x 0 := by
      have : gb (l.drop a) 0 = gb (x ++ m) 0 := by rw [hd]
      rw [gb_drop, Nat.add_zero, gb_append_left hxl] at this
      exact this
    rw [scan_rem (by omega) (by omega), hn, hg, ih (a + x.length) out hl (by rw [← List.drop_drop, hd, List.drop_left]), List.length_append, Nat.add_assoc]
  | @blank c m pre cs hc h1 ih =>
    intro a out ha hd
    have hl : a + 1 ≤ l.length := by
      have := congrArg List.length hd
      rw [List.length_drop, List.length_cons] at this
      omega
    have hg : gb l a = c := by
      have : gb (l.drop a) 0 = gb (c :: m) 0 := by rw [hd]
      rw [gb_drop, Nat.add_zero] at this
      exact this
    have hasc : gb l a < 128 := by rw [hg]; have := (blank_iff c).1 hc; omega
    rw [scan_blank (by omega) (by rw [nx_ascii hb (by omega) hasc]; omega) (by rw [hg]; exact hc), ih (a + 1) out hl (by rw [← List.drop_drop, hd]; rfl), List.length_cons, Nat.add_assoc, Nat.add_comm 1]
  | @hash m pre cs h1 ih =>
    intro a out ha hd
    have hl : a + 1 ≤ l.length := by
      have := congrArg List.length hd
      rw [List.length_drop, List.length_cons] at this
      omega
    have hg : gb l a = 35 := by
      have : gb (l.drop a) 0 = gb (35 :: m) 0 := by rw [hd]
      rw [gb_drop, Nat.add_zero] at this
      exact this
    rw [scan_hash (by omega) (by rw [nx_ascii hb (by omega) (by omega)]; omega) hg, ih (a + 1) out hl (by rw [← List.drop_drop, hd]; rfl), List.length_cons, Nat.add_assoc, Nat.add_comm 1]
  | @run x m pre cs hx hall hhd hc h1 ih =>
    intro a out ha hd
    have hxl : 0 < x.length := List.length_pos_iff.2 hx
    have hl : a + x.length ≤ l.length := by
      have := congrArg List.length hd
      rw [List.length_drop, List.length_append] at this
      omega
    have hra : runAt l a = x := by unfold runAt; rw [hd]; exact takeWhile_all runsB x m hall hhd
    have hg : gb l a = gb x 0 := by
      have : gb (l.drop a) 0 = gb (x ++ m) 0 := by rw [hd]
      rw [gb_drop, Nat.add_zero, gb_append_left hxl] at this
      exact this
    have hr : runsB (gb l a) = true := by rw [hg]; exact hall _ (gb_mem hxl)
    obtain ⟨hb1, hb2, hb3⟩ := runs_asc hr
    obtain ⟨rc1, rc2, rc3⟩ := runS_core (strOfNums x) a
    rw [scan_run (by omega) (by rw [nx_ascii hb (by omega) hb3]; omega) hb1 hb2 hr, hra, if_pos (by rw [rc2]; exact hc), ih (a + x.length) _ hl (by rw [← List.drop_drop, hd, List.drop_left])]
    have e : (⟨(runS (strOfNums x) 0).1.core.1, (runS (strOfNums x) 0).1.core.2.1, (runS (strOfNums x) 0).1.core.2.2, (a : Int)⟩ : Tok) = (runS (strOfNums x) a).1 := tok_mk rc1 rc3
    simp only [place, List.length_nil, Nat.add_zero, e, List.length_append, List.append_assoc, List.cons_append, List.nil_append, Nat.add_assoc]
  | @sign x m pre cs hx hs h1 ih =>
    intro a out ha hd
    have hxl : 0 < x.length := List.length_pos_iff.2 hx
    have hl : a + x.length ≤ l.length := by
      have := congrArg List.length hd
      rw [List.length_drop, List.length_append] at this
      omega
    have hf := sign_first (l := l.drop a) (by rw [hd, hs]; omega)
    rw [gb_drop, Nat.add_zero] at hf
    obtain ⟨f1, f2, f3, f4⟩ := hf
    rw [scan_sign (by omega) (by rw [nx_ascii hb (by omega) f4]; omega) f1 f2 f3 (by rw [hd, hs]; omega), hd, hs, List.take_left, ih (a + x.length) _ hl (by rw [← List.drop_drop, hd, List.drop_left])]
    simp only [place, List.length_nil, Nat.add_zero, List.length_append, List.append_assoc, List.cons_append, List.nil_append, Nat.add_assoc]
/-- What stands between tokens. -/
def seps5 : List (List Int) := [[], [32], [10], [35, 120, 10], [9, 35, 32, 195, 169, 32, 35, 10, 13]]
def weave (f : Nat → List Int) : Nat → List (Core × List Int) → List Int
  | _, [] => []
  | k, (_, c) :: cs => f k ++ (c ++ weave f (k + 1) cs)
theorem sc_sep {s m pre : List Int} {cs : List (Core × List Int)} (hs : s ∈ seps5) (h : Sc m false pre cs) : ∃ pre', Sc (s ++ m) false pre' cs := by
  simp only [seps5, List.mem_cons, List.not_mem_nil, or_false] at hs
  rcases hs with rfl | rfl | rfl | rfl | rfl
  · exact ⟨_, h⟩
  · exact ⟨_, .blank (by decide) h⟩
  · exact ⟨_, .blank (by decide) h⟩
  · have h1 : Sc ([10] ++ m) true ([10] ++ pre) cs := .remk (by simp [V, gb]) h
    have h2 : Sc ([120] ++ ([10] ++ m)) true ([120] ++ ([10] ++ pre)) cs := .remk (by simp [V, gb]) h1
    exact ⟨_, .hash h2⟩
  · have h0 : Sc (13 :: m) false (13 :: pre) cs := .blank (by decide) h
    have h1 : Sc ([10] ++ (13 :: m)) true ([10] ++ (13 :: pre)) cs := .remk (by simp [V, gb]) h0
    have h2 : Sc ([35] ++ ([10] ++ (13 :: m))) true ([35] ++ ([10] ++ (13 :: pre))) cs := .remk (by simp [V, gb]) h1
    have h3 : Sc ([32] ++ ([35] ++ ([10] ++ (13 :: m)))) true ([32] ++ ([35] ++ ([10] ++ (13 :: pre)))) cs := .remk (by simp [V, gb]) h2
    have h4 : Sc ([195, 169] ++ ([32] ++ ([35] ++ ([10] ++ (13 :: m))))) true ([195, 169] ++ ([32] ++ ([35] ++ ([10] ++ (13 :: pre))))) cs := .remk (by simp [V, gb]) h3
    have h5 : Sc ([32] ++ ([195, 169] ++ ([32] ++ ([35] ++ ([10] ++ (13 :: m)))))) true ([32] ++ ([195, 169] ++ ([32] ++ ([35] ++ ([10] ++ (13 :: pre)))))) cs := .remk (by simp [V, gb]) h4
    have h6 := Sc.hash h5
    exact ⟨_, .blank (c := 9) (by decide) h6⟩
theorem Sc.chunk {m : List Int} {rem : Bool} {pre : List Int} {cs : List (Core × List Int)} (h : Sc m rem pre cs) : ∀ c ∈ cs, c.2 ≠ [] := by
  induction h with
  | fin _ => simp
  | remk _ _ ih => exact ih
  | blank _ _ ih => exact ih
  | hash _ ih => exact ih
  | run hx _ _ _ _ ih =>
    intro c hc
    rcases List.mem_cons.1 hc with rfl | hc
    · simp [hx]
    · exact ih c hc
  | sign hx _ _ ih =>
    intro c hc
    rcases List.mem_cons.1 hc with rfl | hc
    · simp [hx]
    · exact ih c hc
theorem sep_head {s : List Int} (hs : s ∈ seps5) : s = [] ∨ ∃ d t, s = d :: t ∧ (d = 32 ∨ d = 10 ∨ d = 35 ∨ d = 9) := by
  simp only [seps5, List.mem_cons, List.not_mem_nil, or_false] at hs
  rcases hs with rfl | rfl | rfl | rfl | rfl
  · exact .inl rfl
  all_goals exact .inr ⟨_, _, rfl, by omega⟩
theorem weave_head {f : Nat → List Int} (hf : ∀ k, f k ∈ seps5) (pre : List Int) (k : Nat) {cs : List (Core × List Int)} (hc : ∀ c ∈ cs, c.2 ≠ []) :
    (pre ++ weave f k cs).head? = (pre ++ flatC cs).head? ∨ ∃ d, (pre ++ weave f k cs).head? = some d ∧ (d = 32 ∨ d = 10 ∨ d = 35 ∨ d = 9) := by
  cases pre with
  | cons p pre => exact .inl rfl
  | nil =>
    cases cs with
    | nil => exact .inl rfl
    | cons c cs =>
      obtain ⟨t, c⟩ := c
      have hne : c ≠ [] := hc (t, c) (by simp)
      simp only [List.nil_append, weave]
      rcases sep_head (hf k) with h | ⟨d, t', h, hd⟩
      · left
        rw [h]
        cases c with
        | nil => exact absurd rfl hne
        | cons x c => rfl
      · right
        rw [h]
        exact ⟨d, rfl, hd⟩
/-- A reading with something between its tokens is a reading of the same tokens. -/
theorem sc_weave {f : Nat → List Int} (hf : ∀ k, f k ∈ seps5) {m : List Int} {rem : Bool} {pre : List Int} {cs : List (Core × List Int)} (h : Sc m rem pre cs) :
    ∀ k, ∃ pre' cs', Sc (pre ++ weave f k cs) rem pre' cs' ∧ (cs'.map fun c => c.1) = cs.map fun c => c.1 := by
  induction h with
  | fin rem => intro k; exact ⟨[], [], .fin _, rfl⟩
  | @remk x m pre cs hv h1 ih =>
    intro k
    obtain ⟨pre', cs', h2, h3⟩ := ih k
    exact ⟨_, cs', by rw [List.append_assoc]; exact .remk hv h2, h3⟩
  | @blank c m pre cs hc h1 ih =>
    intro k
    obtain ⟨pre', cs', h2, h3⟩ := ih k
    exact ⟨_, cs', .blank hc h2, h3⟩
  | @hash m pre cs h1 ih =>
    intro k
    obtain ⟨pre', cs', h2, h3⟩ := ih k
    exact ⟨_, cs', .hash h2, h3⟩
  | @run x m pre cs hx hall hhd hc h1 ih =>
    intro k
    obtain ⟨pre', cs', h2, h3⟩ := ih (k + 1)
    have hh := weave_head hf pre (k + 1) h1.chunk
    rw [← h1.flat] at hh
    have h4 := Sc.run hx hall (fun c hcc => by
      rcases hh with hh | ⟨d, hd, hd2⟩
      · rw [hh] at hcc; exact hhd c hcc
      · rw [hd] at hcc
        injection hcc with hcc
        rw [runs_no]
        omega) hc h2
    obtain ⟨pre'', h5⟩ := sc_sep (hf k) h4
    exact ⟨pre'', _, by simpa only [List.nil_append, weave, List.append_assoc] using h5, by simp [h3]⟩
  | @sign x m pre cs hx hs h1 ih =>
    intro k
    obtain ⟨pre', cs', h2, h3⟩ := ih (k + 1)
    have hh := weave_head hf pre (k + 1) h1.chunk
    rw [← h1.flat] at hh
    have hs' : signS (x ++ (pre ++ weave f (k + 1) cs)) = x.length := by
      generalize pre ++ weave f (k + 1) cs = m' at hh
      match x, hx, hs with
      | [a], _, hs =>
        simp only [List.singleton_append, List.length_singleton] at hs ⊢
        have h0 : ¬ (2 ≤ (a :: m).length ∧ dblB (gb (a :: m) 0) (gb (a :: m) 1) = true) := fun h => by
          unfold signS at hs; rw [if_pos h] at hs; cases hs
        have h1 : a ∈ sgls := by
          unfold signS at hs
          rw [if_neg h0] at hs
          by_cases hm : gb (a :: m) 0 ∈ sgls
          · exact hm
          · rw [if_neg hm] at hs; cases hs
        have h2 : ¬ (2 ≤ (a :: m').length ∧ dblB (gb (a :: m') 0) (gb (a :: m') 1) = true) := fun h => by
          cases m' with
          | nil => simp at h
          | cons d m' =>
            rcases hh with hh | ⟨d', hd, hd2⟩
            · cases m with
              | nil => simp at hh
              | cons e m =>
                simp at hh
                subst hh
                exact h0 ⟨by simp, by simpa [gb] using h.2⟩
            · simp at hd
              subst hd
              have := h.2
              simp [gb, dblB] at this
              omega
        unfold signS
        rw [if_neg h2]
        have : gb (a :: m') 0 = a := rfl
        rw [this, if_pos h1]
      | [a, b], _, hs =>
        have h0 : dblB a b = true := by
          cases hd : dblB a b
          · exfalso
            unfold signS at hs
            rw [if_neg (by simp [gb, hd])] at hs
            split at hs <;> simp at hs
          · rfl
        unfold signS
        rw [if_pos ⟨by simp, by simpa [gb] using h0⟩]
        rfl
      | a :: b :: c :: t, _, hs =>
        have := (sign_bd (a :: b :: c :: t ++ m) (by simp)).1
        rw [hs] at this
        simp at this
    have h4 := Sc.sign hx hs' h2
    obtain ⟨pre'', h5⟩ := sc_sep (hf k) h4
    exact ⟨pre'', _, by simpa only [List.nil_append, weave, List.append_assoc] using h5, by simp [h3]⟩
theorem Sc.strip {m : List Int} {rem : Bool} {pre : List Int} {cs : List (Core × List Int)} (h : Sc m rem pre cs) : Sc (flatC cs) false [] cs := by
  induction h with
  | fin _ => exact .fin _
  | remk _ _ ih => exact ih
  | blank _ _ ih => exact ih
  | hash _ ih => exact ih
  | run hx hall hhd hc h1 ih =>
    have e := (Sc.run hx hall hhd hc h1).flat
    rw [List.nil_append] at e
    rw [← e]
    exact .run hx hall hhd hc h1
  | sign hx hs h1 ih =>
    have e := (Sc.sign hx hs h1).flat
    rw [List.nil_append] at e
    rw [← e]
    exact .sign hx hs h1
theorem weave_len {f : Nat → List Int} (hf : ∀ k, (f k).length ≤ 9) : ∀ (cs : List (Core × List Int)) (k : Nat), (weave f k cs).length ≤ 9 * cs.length + (flatC cs).length
  | [], _ => by simp [weave]
  | (t, c) :: cs, k => by
    have := weave_len hf cs (k + 1)
    have := hf k
    simp only [weave, flatC, List.length_append, List.length_cons, List.flatMap_cons] at *
    omega
theorem weave_snoc (f : Nat → List Int) : ∀ (cs : List (Core × List Int)) (k i : Nat) (c : Core × List Int), cs[i]? = some c → weave f k (cs.take (i + 1)) = weave f k (cs.take i) ++ f (k + i) ++ c.2
  | [], _, _, _, h => by simp at h
  | (t, c) :: cs, k, 0, d, h => by
    simp at h
    subst h
    simp [weave]
  | (t, c) :: cs, k, i + 1, d, h => by
    have := weave_snoc f cs (k + 1) i d (by simpa using h)
    simp only [List.take_succ_cons, weave]
    rw [this, show k + 1 + i = k + (i + 1) by omega]
    simp
theorem place_at : ∀ (cs : List (Core × List Int)) (p i : Nat), i ≤ cs.length → ∃ t, (place p cs ++ [⟨4, ⟨#[]⟩, 0, ((p + (flatC cs).length : Nat) : Int)⟩])[i]? = some t ∧ t.at_ = ((p + (flatC (cs.take i)).length : Nat) : Int)
  | [], p, i, hi => by
    simp at hi
    subst hi
    exact ⟨_, rfl, rfl⟩
  | (t, c) :: cs, p, 0, _ => ⟨_, rfl, rfl⟩
  | (t, c) :: cs, p, i + 1, hi => by
    obtain ⟨u, h1, h2⟩ := place_at cs (p + c.length) i (by simpa using hi)
    have e : p + c.length + (flatC cs).length = p + (flatC ((t, c) :: cs)).length := by simp [flatC]; omega
    rw [e] at h1
    refine ⟨u, by simpa [place] using h1, ?_⟩
    rw [h2]
    congr 1
    simp [flatC]
    omega
theorem flat_split (cs : List (Core × List Int)) (i : Nat) (c : Core × List Int) (h : cs[i]? = some c) (pre : List Int) :
    ((pre ++ flatC cs).drop (pre.length + (flatC (cs.take i)).length)).take c.2.length = c.2 ∧ (flatC (cs.take (i + 1))).length = (flatC (cs.take i)).length + c.2.length ∧ (flatC (cs.take (i + 1))).length ≤ (flatC cs).length := by
  obtain ⟨hi, e⟩ := List.getElem?_eq_some_iff.1 h
  have e1 : cs = cs.take i ++ c :: cs.drop (i + 1) := by
    rw [← e, ← List.drop_eq_getElem_cons hi, List.take_append_drop]
  have e2 : flatC cs = flatC (cs.take i) ++ (c.2 ++ flatC (cs.drop (i + 1))) := by
    conv => lhs; rw [e1]
    simp [flatC]
  have e3 : flatC (cs.take (i + 1)) = flatC (cs.take i) ++ c.2 := by
    rw [List.take_succ_eq_append_getElem hi, e]
    simp [flatC]
  refine ⟨?_, by rw [e3, List.length_append], by rw [e3, e2]; simp⟩
  rw [e2, ← List.append_assoc, ← List.length_append, List.drop_left, List.take_left]
/-- All that the law of blanks needs. -/
theorem blanks_law {l : List Int} (hb : Byt l) {ts : List Tok} {p c : Int} (h : scanS l 0 false [] = (ts, p, c)) (hc : c = 0) : ∃ cs : List (Core × List Int),
    ts.length = cs.length + 1 ∧
    (∀ i, i < cs.length → ∃ (t u : Tok) (A B : Nat) (d : Core × List Int), ts[i]? = some t ∧ ts[i + 1]? = some u ∧ t.at_ = A ∧ u.at_ = B ∧ A < B ∧ B ≤ l.length ∧ cs[i]? = some d ∧ d.2 = (l.drop A).take (B - A)) ∧
    (∀ f : Nat → List Int, (∀ k, f k ∈ seps5) → Byt (weave f 0 cs) ∧ ∃ ts', scanS (weave f 0 cs) 0 false [] = (ts', 0, 0) ∧ ts'.length = ts.length ∧ ∀ i : Nat, (ts'[i]?).map Tok.core = (ts[i]?).map Tok.core) ∧
    (flatC cs).length ≤ l.length := by
  have h0 : (scanS l 0 false []).2.2 = 0 := by rw [h]; exact hc
  obtain ⟨pre, cs, h1, h2⟩ := sc_of_scan hb l.length 0 false [] (by omega) (by omega) h0
  rw [List.drop_zero] at h1
  have hfl := h1.flat
  have hts : ts = place pre.length cs ++ [⟨4, ⟨#[]⟩, 0, l.length⟩] := by
    rw [h] at h2
    injection h2 with h2 _
    rw [h2]; simp
  have hlen : l.length = pre.length + (flatC cs).length := by
    conv => lhs; rw [hfl]
    rw [List.length_append]
  refine ⟨cs, by rw [hts]; simp [place_len], fun i hi => ?_, fun f hf => ?_, by omega⟩
  · obtain ⟨t, ht1, ht2⟩ := place_at cs pre.length i (by omega)
    obtain ⟨u, hu1, hu2⟩ := place_at cs pre.length (i + 1) (by omega)
    rw [← hlen, ← hts] at ht1 hu1
    obtain ⟨q1, q2, q3⟩ := flat_split cs i cs[i] (List.getElem?_eq_getElem hi) pre
    rw [← hfl] at q1
    have hne := List.length_pos_iff.2 (h1.chunk cs[i] (List.getElem_mem hi))
    refine ⟨t, u, _, _, cs[i], ht1, hu1, ht2, hu2, by omega, by omega, List.getElem?_eq_getElem hi, ?_⟩
    rw [q2, show pre.length + ((flatC (cs.take i)).length + cs[i].2.length) - (pre.length + (flatC (cs.take i)).length) = cs[i].2.length by omega, q1]
  · obtain ⟨pre', cs', h3, h4⟩ := sc_weave hf h1.strip 0
    rw [List.nil_append] at h3
    have hfb : Byt (flatC cs) := fun x hx => hb x (by rw [hfl]; simp [hx])
    have hsb : ∀ s ∈ seps5, Byt s := by
      intro s hs
      simp only [seps5, List.mem_cons, List.not_mem_nil, or_false] at hs
      rcases hs with rfl | rfl | rfl | rfl | rfl <;> intro x hx <;> simp at hx <;> omega
    have hwb : ∀ (ds : List (Core × List Int)) (k : Nat), Byt (flatC ds) → Byt (weave f k ds) := by
      intro ds
      induction ds with
      | nil => intro k _ x hx; simp [weave] at hx
      | cons d ds ih =>
        intro k hd x hx
        obtain ⟨t, d⟩ := d
        simp only [weave, List.mem_append] at hx
        rcases hx with hx | hx | hx
        · exact hsb _ (hf k) x hx
        · exact hd x (by simp [flatC, hx])
        · exact ih (k + 1) (fun y hy => hd y (by simp only [flatC, List.flatMap_cons, List.mem_append]; exact .inr hy)) x hx
    have hbb := hwb cs 0 hfb
    have h5 := scan_of_sc hbb h3 0 [] (by omega) (List.drop_zero ..)
    refine ⟨hbb, _, h5, ?_, fun i => ?_⟩
    · have := congrArg List.length h4
      simp at this
      rw [hts]
      simp [place_len, this]
    · rw [hts, ← List.getElem?_map, ← List.getElem?_map]
      simp only [List.nil_append, List.map_append, place_core, h4]
      rfl
end Go.Proofs.Ytegekajbnecdfaa

/- Part 19 of the proof: VAp8, VRAt, VRVars, VKVars, VSc1. Conditions: none. -/
import Derived.Test.YtclehkgnacekkaaB3
import Derived.Test.YtclehkgnacekkaaB8
import Derived.Test.YtclehkgnacekkaaB12
import Derived.Test.YtclehkgnacekkaaB14
import Derived.Test.YtclehkgnacekkaaB16
import Derived.Test.YtclehkgnacekkaaB18
import Derived.IntWalk
set_option linter.all false
set_option linter.unusedVariables false
set_option linter.unusedSimpArgs false
section
namespace Go.Proofs.Ytclehkgnacekkaa.Vm
open Go.RowKit
set_option maxRecDepth 100000
set_option maxHeartbeats 4000000
theorem mk_len (op : Int) (nm : ByteArray) (n : Int) (ks : List Ty) : (Ty.mk op nm n ks).parts.length = 1 + (ks.map fun x => x.parts.length).sum := by
  rw [parts_kids, List.length_cons, List.length_flatMap]
  simp only [Ty.kids]
  omega
theorem sum_le {α : Type} {f g : α → Nat} (B : Nat) : ∀ {l : List α}, (∀ x ∈ l, f x ≤ g x * B) → (l.map f).sum ≤ (l.map g).sum * B
  | [], _ => by simp
  | x :: l, h => by
    have h1 := h x (List.mem_cons_self ..)
    have h2 := sum_le B (l := l) fun y hy => h y (List.mem_cons_of_mem _ hy)
    simp only [List.map_cons, List.sum_cons, Nat.add_mul]
    omega
theorem putP_len (l : List (Int × Ty)) (B : Nat) (hB : 1 ≤ B) (hl : ∀ p ∈ l, p.2.parts.length ≤ B) (t : Ty) : (putP l t).parts.length ≤ t.parts.length * B := by
  induction t using Ty.ind with
  | h t ih =>
    obtain ⟨op, nm, n, ks⟩ := t
    have h0 : 1 ≤ (Ty.mk op nm n ks).parts.length := parts_pos _
    by_cases hop : op = 7 ∨ op = 10
    · rw [putP, if_pos hop]
      cases hp : ofS l n (op == 10) with
      | none => exact Nat.le_mul_of_pos_right _ hB
      | some p =>
        have h1 := hl p (ofS_fit hp).1
        have h2 := canon_len _ p.2 (Nat.le_refl _) (shape_spineAll (fit_shape (ofS_fit hp).2))
        show (canonS p.2).parts.length ≤ _
        rw [h2]
        exact Nat.le_trans h1 (Nat.le_mul_of_pos_left _ h0)
    · rw [putP_node l nm n ks hop, mk_len, mk_len, List.map_map, Nat.add_mul, Nat.one_mul]
      have := sum_le (f := fun x => (putP l x).parts.length) (g := fun x => x.parts.length) B (l := ks) fun x hx => ih x hx
      exact Nat.add_le_add hB this
theorem sorted_all : ∀ (m : Nat) (t : Ty), t.parts.length ≤ m → m ≤ 1048576 → SpineAll t → Thin t → sortSpec t := by
  intro m
  induction m with
  | zero => intro t h; have := parts_pos t; omega
  | succ m ih =>
    intro t hm hm2 hs ht
    by_cases h11 : t.op = 11
    · refine sort_row t h11 hs.self (by omega) (fun f hf => ?_) ?_
      · have h1 := fields_less _ t (Nat.le_refl _) f hf
        have h2 := fields_mem _ t (Nat.le_refl _) f hf
        refine ⟨ih f.2 (by omega) (by omega) (hs.part h2) fun x hx => ht x (parts_trans hx h2), ?_⟩
        rw [canon_len _ f.2 (Nat.le_refl _) (hs.part h2)]
        omega
      · have := spine_parts _ t (Nat.le_refl _) hs.self
        omega
    · have hk : ∀ x ∈ t.kids, sortSpec x := fun x hx => by
        have h1 := (kids_le t).2 x hx
        exact ih x (by omega) (by omega) (hs.kid hx) fun y hy => ht y (by rw [parts_kids]; exact List.mem_cons_of_mem _ (List.mem_flatMap.2 ⟨x, hx, hy⟩))
      have h2 := ht t (by rw [parts_eq]; exact List.mem_cons_self ..)
      obtain ⟨op, nm, n, ks⟩ := t
      match ks, hk, h2 with
      | [], _, _ => exact sort_nil op nm n h11
      | [x], hk, _ => exact sort_one op nm n x h11 (hk x (List.mem_cons_self ..))
      | [x, y], hk, _ => exact sort_two op nm n x y h11 (hk x (List.mem_cons_self ..)) (hk y (List.mem_cons_of_mem _ (List.mem_cons_self ..)))
      | x :: y :: z :: ks, _, h2 => simp [Ty.kids] at h2
def applyP (t : Ty) (l : List (Int × Ty)) : Ty := if rightB t 116 = true then canonS (putP l (canonS t)) else zeroTy
theorem PApply_s (l : List (Int × Ty)) (hl : l.length ≤ 1048576) (hlp : ∀ p ∈ l, Sm p.2) (t : Ty) (ht : Sm t) (hb : rightB t 116 = true → (putP l (canonS t)).parts.length ≤ 1048576) : Spec 19 [.ag (cT t), .one (.sl 5 (rB l))] [.ag (cT (applyP t l))] := by
  have h1 := PRight_s t ht.1 ht.2
  unfold applyP
  by_cases hr : rightB t 116 = true
  · rw [if_pos hr]
    rw [hr] at h1
    have hsh : shapeB wordB t 116 = true := by
      unfold rightB at hr
      simp only [Bool.and_eq_true] at hr
      exact hr.1
    have hc := CanonO_s t ht (by unfold eitherT; rw [hr]; rfl)
    have hcs := canon_shape _ t 116 (Nat.le_refl _) hsh
    have hp := put_s l hl hlp (canonS t) (shape_thin hcs)
    have hps := putP_shape l _ 116 hcs
    have hs := sorted_all 1048576 (putP l (canonS t)) (hb hr) (Nat.le_refl _) (shape_spineAll hps) (shape_thin hps)
    rw [cells_of (canonS (putP l (canonS t)))]
    obtain ⟨a0, a1, a2, a3, ha⟩ := cT_four t
    rw [ha] at h1 hc ⊢
    obtain ⟨B, hB⟩ : ∃ B, B = rB l := ⟨_, rfl⟩
    unfold putSpec at hp
    unfold sortSpec at hs
    rw [← hB] at hp ⊢
    replace hc : SpecO 44 _ _ (ownR (.int .u8 (canonS t).op) (.string (canonS t).name) (.int .i64 (canonS t).n) (rT (canonS t).kids)) := hc
    replace hp : ∀ z, SpecO 52 _ _ (ownR (.int .u8 (putP l (canonS t)).op) (.string (putP l (canonS t)).name) (.int .i64 (putP l (canonS t)).n) (rT (putP l (canonS t)).kids)) := hp
    replace hs : ∀ z, SpecO 51 _ _ (sR (.int .u8 (canonS (putP l (canonS t))).op) (.string (canonS (putP l (canonS t))).name) (.int .i64 (canonS (putP l (canonS t))).n) (rT (canonS (putP l (canonS t))).kids)) := hs
    generalize (canonS (putP l (canonS t))).op = so at *
    generalize (canonS (putP l (canonS t))).name = sm at *
    generalize (canonS (putP l (canonS t))).n = sn at *
    generalize rT (canonS (putP l (canonS t))).kids = sK at *
    generalize (putP l (canonS t)).op = po at *
    generalize (putP l (canonS t)).name = pm at *
    generalize (putP l (canonS t)).n = pn at *
    generalize rT (putP l (canonS t)).kids = pK at *
    generalize (canonS t).op = co at *
    generalize (canonS t).name = cm at *
    generalize (canonS t).n = cn at *
    generalize rT (canonS t).kids = cK at *
    refine spec_of Try.func19 rfl (by kernel_rfl) (by kernel_rfl) (by kernel_rfl) fun qa qb qc qd qe qf qg qh qi qj qk ql qm qo qp qq qs qt qu qv qw qx qy qz va vc vd ve vf vg vh vj vk vl vp vq vr vt vu hA => ?_
    cbv
    repeat ((with_reducible apply next_at hA); cbv)
    refine call_at hA _ h1 rfl ?_
    cbv
    repeat ((with_reducible apply next_at hA); cbv)
    refine callo_at hA [] hc ⟨rfl, rfl, rfl, rfl, rfl, rfl, rfl⟩ ?_
    rintro _ _ ⟨rfl, zz, rfl⟩
    cbv
    refine callo_at hA [2] (hp zz) ⟨rfl, rfl, rfl, rfl, rfl, rfl, rfl⟩ ?_
    rintro _ _ ⟨rfl, zz, rfl⟩
    cbv
    refine callo_at hA [2] (hs zz) ⟨rfl, rfl, rfl, rfl, rfl, rfl, rfl⟩ ?_
    rintro _ _ ⟨rfl, rfl⟩
    cbv
    repeat ((with_reducible apply next_at hA); cbv)
  · have hr : rightB t 116 = false := by simpa using hr
    rw [if_neg (by rw [hr]; simp)]
    rw [hr] at h1
    obtain ⟨a0, a1, a2, a3, ha⟩ := cT_four t
    rw [ha] at h1 ⊢
    obtain ⟨B, hB⟩ : ∃ B, B = rB l := ⟨_, rfl⟩
    rw [← hB]
    unfold zeroTy
    rw [cT, rT]
    refine Spec.sl0 (n := 0) 4 ?_
    refine spec_of Try.func19 rfl (by kernel_rfl) (by kernel_rfl) (by kernel_rfl) fun qa qb qc qd qe qf qg qh qi qj qk ql qm qo qp qq qs qt qu qv qw qx qy qz va vc vd ve vf vg vh vj vk vl vp vq vr vt vu hA => ?_
    cbv
    repeat (first | (with_reducible apply next_at hA; cbv) | (refine call_at hA _ h1 rfl ?_; cbv))
    try cbv
    repeat (first | (with_reducible apply next_at hA; cbv) | (refine call_at hA _ h1 rfl ?_; cbv))
    try simp (maxSteps := 4000000) only [nc] at *
end Go.Proofs.Ytclehkgnacekkaa.Vm
end
section
namespace Go.Proofs.Ytclehkgnacekkaa.Vm
open Go.RowKit
set_option maxRecDepth 100000
set_option maxHeartbeats 4000000
def rI (l : List Int) : List (List D) := l.map fun n => [.sc (.int .i64 n)]
theorem rI_len (l : List Int) : (rI l).length = l.length := by rw [rI, List.length_map]
end Go.Proofs.Ytclehkgnacekkaa.Vm
end
section
namespace Go.Proofs.Ytclehkgnacekkaa.Vm
open Go.RowKit
set_option maxRecDepth 100000
set_option maxHeartbeats 4000000
theorem rI_snoc (l : List Int) (x : Int) : rI (l ++ [x]) = rI l ++ [[.sc (.int .i64 x)]] := by unfold rI; rw [List.map_append]; rfl
end Go.Proofs.Ytclehkgnacekkaa.Vm
end
section
namespace Go.Proofs.Ytclehkgnacekkaa.Vm
open Go.RowKit
set_option maxRecDepth 100000
set_option maxHeartbeats 4000000
def vO (es : List (R × R)) (L : List (List D)) : List O := [.box [.mp 2], .box [.own 3], .mp 3 es, .row true 3 L]
def addI (acc : List Int) (x : Ty) : List Int := if isVar x = true ∧ x.n ∉ acc then acc ++ [x.n] else acc
def metS (acc : List Int) : Int → Option Bool := fun n => if n ∈ acc then some true else none
theorem SAt.add {es : List (R × R)} {acc : List Int} (h : SAt es (metS acc)) (n : Int) : SAt (mset es (ik n) (.one (.sc (.bool true)))) (metS (acc ++ [n])) := by
  have h2 := h.set n true
  have e : updS (metS acc) n true = metS (acc ++ [n]) := by
    funext x
    unfold updS metS
    by_cases hx : x = n
    · subst hx; simp
    · simp [hx]
  rw [e] at h2
  exact h2
theorem vars1_s (x : Ty) (acc : List Int) (es : List (R × R)) (hes : SAt es (metS acc)) (hacc : acc.length ≤ 1048576) :
    SpecO 99 [.ag (ofD (cT x)), .ptr 0 0, .ptr 1 0] (vO es (rI acc)) (fun res os => res = [] ∧ ∃ es', SAt es' (metS (addI acc x)) ∧ os = vO es' (rI (addI acc x))) := by
  obtain ⟨op, nm, n, ks⟩ := x
  have hlk := hes.2 n
  have hmem : (metS acc n).map (fun b => R.one (.sc (.bool b))) = if n ∈ acc then some (R.one (.sc (.bool true))) else none := by unfold metS; by_cases h : n ∈ acc <;> simp [h]
  rw [hmem] at hlk
  have hset := hes.add n
  have hadd : addI acc (.mk op nm n ks) = if ((op == 7) || (op == 10)) = true ∧ n ∉ acc then acc ++ [n] else acc := rfl
  rw [hadd]
  have hsnoc := rI_snoc acc n
  obtain ⟨Q, hQ⟩ : ∃ Q : List V → List O → Prop, Q = (fun res os => res = [] ∧ ∃ es', SAt es' (metS (if ((op == 7) || (op == 10)) = true ∧ n ∉ acc then acc ++ [n] else acc)) ∧ os = vO es' (rI (if ((op == 7) || (op == 10)) = true ∧ n ∉ acc then acc ++ [n] else acc))) := ⟨_, rfl⟩
  rw [← hQ]
  have hQ1 : ((op == 7) || (op == 10)) = true → n ∉ acc → Q [] (vO (mset es (ik n) (.one (.sc (.bool true)))) (rI (acc ++ [n]))) := fun h1 h2 => by
    rw [hQ]
    refine ⟨rfl, mset es (ik n) (.one (.sc (.bool true))), ?_, ?_⟩
    · rw [if_pos ⟨h1, h2⟩]; exact hset
    · rw [if_pos ⟨h1, h2⟩]
  have hQ2 : ((op == 7) || (op == 10)) = false ∨ n ∈ acc → Q [] (vO es (rI acc)) := fun h => by
    have hn : ¬ (((op == 7) || (op == 10)) = true ∧ n ∉ acc) := by
      rintro ⟨h1, h2⟩
      rcases h with h | h
      · rw [h] at h1; cases h1
      · exact h2 h
    rw [hQ]
    refine ⟨rfl, es, ?_, ?_⟩
    · rw [if_neg hn]; exact hes
    · rw [if_neg hn]
  clear hQ hset hmem hadd hes
  obtain ⟨M, hM⟩ : ∃ M, M = rI acc := ⟨_, rfl⟩
  obtain ⟨es2, he2⟩ : ∃ e, e = mset es (ik n) (.one (.sc (.bool true))) := ⟨_, rfl⟩
  have hMl : M.length ≤ 1048576 := by rw [hM, rI_len]; exact hacc
  rw [← hM] at hQ2 ⊢
  rw [hsnoc, ← hM, ← he2] at hQ1
  clear hsnoc
  rw [cT]
  obtain ⟨K, hK⟩ : ∃ K, K = rT ks := ⟨_, rfl⟩
  rw [← hK]
  unfold vO at hQ1 hQ2 ⊢
  unfold ik at hlk he2
  refine speco_of Try.func99 rfl (by kernel_rfl) (by kernel_rfl) (by kernel_rfl) fun qa qb qc qd qe qf qg qh qi qj qk ql qm qo qp qq qs qt qu qv qw qx qy qz va vc vd ve vf vg vh vj vk vl vp vq vr vt vu hA => ?_
  cbv
  repeat ((with_reducible apply next_at hA); cbv)
  obtain ⟨e1, e2, e3, e4, e5, e6, e7, e8, e9⟩ := ar_at hA
  obtain ⟨r1, r2, r3, r4⟩ := row_at hA
  obtain ⟨m1, m2, -⟩ := map_at hA
  have q7 : qj op 7 = (op == 7) := e9 _ _
  have q10 : qj op 10 = (op == 10) := e9 _ _
  have hl : vd es (.one (.sc (.int .i64 n))) = if n ∈ acc then some (R.one (.sc (.bool true))) else none := by rw [m1]; exact hlk
  have hp : ve es (.one (.sc (.int .i64 n))) (.one (.sc (.bool true))) = es2 := by rw [m2, he2]
  have ha : qz M [[.sc (.int .i64 n)]] = M ++ [[.sc (.int .i64 n)]] := r4 _ _
  generalize (op == 7) = b7 at *
  generalize (op == 10) = b10 at *
  by_cases hm : n ∈ acc
  · rw [if_pos hm] at hl
    replace hQ2 := hQ2 (.inr hm)
    cases b7 <;> cases b10
    all_goals
      cbv
      repeat (first | (with_reducible apply next_at hA; cbv) | (rw [q7]; cbv) | (rw [q10]; cbv) | (rw [hl]; cbv))
      try cbv
      repeat (first | (with_reducible apply next_at hA; cbv) | (rw [q7]; cbv) | (rw [q10]; cbv) | (rw [hl]; cbv))
      try simp (maxSteps := 4000000) only [nc] at *
      exact keep_is hA [0, 1, 2, 3] ⟨rfl, rfl, rfl, rfl, rfl, rfl, rfl, rfl⟩ hQ2
  · rw [if_neg hm] at hl
    cases b7 <;> cases b10
    · replace hQ2 := hQ2 (.inl rfl)
      cbv
      repeat (first | (with_reducible apply next_at hA; cbv) | (rw [q7]; cbv) | (rw [q10]; cbv) | (rw [hl]; cbv))
      try cbv
      repeat (first | (with_reducible apply next_at hA; cbv) | (rw [q7]; cbv) | (rw [q10]; cbv) | (rw [hl]; cbv))
      try simp (maxSteps := 4000000) only [nc] at *
      exact keep_is hA [0, 1, 2, 3] ⟨rfl, rfl, rfl, rfl, rfl, rfl, rfl, rfl⟩ hQ2
    all_goals
      replace hQ1 := hQ1 rfl hm
      rw [← ha] at hQ1
      cbv
      repeat (first | (with_reducible apply next_at hA; cbv) | (rw [q7]; cbv) | (rw [q10]; cbv) | (rw [hl]; cbv) | (rw [hp]; cbv) | (refine lit_at hA true ?_; cbv) | (refine room_at hA (by simp only [List.length_cons, List.length_nil]; omega) ?_; cbv))
      try cbv
      repeat (first | (with_reducible apply next_at hA; cbv) | (rw [q7]; cbv) | (rw [q10]; cbv) | (rw [hl]; cbv) | (rw [hp]; cbv) | (refine lit_at hA true ?_; cbv) | (refine room_at hA (by simp only [List.length_cons, List.length_nil]; omega) ?_; cbv))
      try simp (maxSteps := 4000000) only [nc] at *
      exact keep_is hA [0, 1, 2, 3] ⟨rfl, rfl, rfl, rfl, rfl, rfl, rfl, rfl⟩ hQ1
theorem varsL_append : ∀ (a b : List Ty) (acc : List Int), varsL (a ++ b) acc = varsL b (varsL a acc)
  | [], b, acc => rfl
  | x :: a, b, acc => by rw [List.cons_append, varsL, varsL]; exact varsL_append a b _
theorem partsL_take {ks : List Ty} {k : Nat} {x : Ty} (h : ks[k]? = some x) : partsL (ks.take (k + 1)) = partsL (ks.take k) ++ x.parts := by
  rw [partsL_flat, partsL_flat, (partsL_snoc ks k x h).2]
theorem each_s : ∀ (t : Ty) (acc : List Int) (es : List (R × R)), SAt es (metS acc) → acc.length + t.parts.length ≤ 1048576 →
    SpecO 98 [.ag (ofD (cT t)), .cl 99 [0, 1]] (vO es (rI acc)) (fun res os => res = [] ∧ ∃ es', SAt es' (metS (varsL t.parts acc)) ∧ os = vO es' (rI (varsL t.parts acc))) := by
  intro t
  induction t using Ty.ind with
  | h t ih =>
    intro acc es hes hN
    have hcl := vars1_s t acc es hes (by omega)
    have hkl := kids_le t
    have hpe : t.parts = t :: partsL t.kids := parts_eq t
    have hpl : t.parts.length = 1 + (partsL t.kids).length := by rw [hpe, List.length_cons]; omega
    have hvl : varsL t.parts acc = varsL (partsL t.kids) (addI acc t) := by rw [hpe, varsL]; rfl
    have hal : (addI acc t).length ≤ acc.length + 1 := by unfold addI; split <;> simp
    rw [hvl]
    obtain ⟨Q, hQ⟩ : ∃ Q : List V → List O → Prop, Q = (fun res os => res = [] ∧ ∃ es', SAt es' (metS (varsL (partsL t.kids) (addI acc t))) ∧ os = vO es' (rI (varsL (partsL t.kids) (addI acc t)))) := ⟨_, rfl⟩
    rw [← hQ]
    have hQ1 : ∀ es', SAt es' (metS (varsL (partsL t.kids) (addI acc t))) → Q [] (vO es' (rI (varsL (partsL t.kids) (addI acc t)))) := fun es' h => by rw [hQ]; exact ⟨rfl, es', h, rfl⟩
    clear hQ hvl hpe
    generalize addI acc t = ac1 at *
    obtain ⟨op, nm, n, ks⟩ := t
    simp only [Ty.kids] at hkl ih hpl hQ1
    have hxp : ∀ k, k ≤ ks.length → (partsL (ks.take k)).length ≤ (partsL ks).length := fun k _ => by
      conv => rhs; rw [← List.take_append_drop k ks]
      rw [partsL_flat, partsL_flat, List.flatMap_append, List.length_append]
      omega
    rw [cT] at hcl ⊢
    obtain ⟨K, hK⟩ : ∃ K, K = rT ks := ⟨_, rfl⟩
    rw [← hK] at hcl ⊢
    obtain ⟨M, hM⟩ : ∃ M, M = rI acc := ⟨_, rfl⟩
    rw [← hM] at hcl ⊢
    unfold vO at hcl hQ1 ⊢
    refine speco_of Try.func98 rfl (by kernel_rfl) (by kernel_rfl) (by kernel_rfl) fun qa qb qc qd qe qf qg qh qi qj qk ql qm qo qp qq qs qt qu qv qw qx qy qz va vc vd ve vf vg vh vj vk vl vp vq vr vt vu hA => ?_
    cbv
    repeat ((with_reducible apply next_at hA); cbv)
    obtain ⟨e1, e2, e3, e4, e5, e6, e7, e8, e9⟩ := ar_at hA
    obtain ⟨r1, r2, r3, r4⟩ := row_at hA
    refine callo_at hA [0, 1, 2, 3] hcl ⟨rfl, rfl, rfl, rfl, rfl, rfl, rfl⟩ ?_
    rintro res os2 ⟨rfl, es1, hes1, rfl⟩
    obtain ⟨M1, hM1⟩ : ∃ M, M = rI ac1 := ⟨_, rfl⟩
    rw [← hM1]
    cbv
    repeat ((with_reducible apply next_at hA); cbv)
    refine loop_at hA (γ := Int × List (R × R) × List (List D)) (fun x => [(12, vi .i64 x.1)]) (fun x => [(2, .mp 3 x.2.1), (3, .row true 3 x.2.2)])
      (fun x => ∃ k : Nat, x.1 = (k : Int) ∧ k ≤ ks.length ∧ SAt x.2.1 (metS (varsL (partsL (ks.take k)) ac1)) ∧ x.2.2 = rI (varsL (partsL (ks.take k)) ac1)) (fun x => ks.length - x.1.toNat) (0, es1, M1) ?_ ?_ ?_
    · exact ⟨0, rfl, Nat.zero_le _, by rw [List.take_zero, partsL, varsL]; exact hes1, by rw [List.take_zero, partsL, varsL]; exact hM1⟩
    · cbv
    · intro x hinv
      obtain ⟨z, es2, M2⟩ := x
      cbv
      repeat ((with_reducible apply next_at hA); cbv)
      try simp (maxSteps := 4000000) only [nc] at *
      obtain ⟨k, hz, hk, hes2, hM2⟩ := hinv
      have hlen : qw K = (ks.length : Int) := by rw [r1, hK, rT_len]
      have hlt : qh z (qw K) = decide (k < ks.length) := by rw [e7, hlen, hz]; exact decide_eq_decide.2 (by omega)
      by_cases h9 : k < ks.length
      · rw [decide_eq_true h9] at hlt
        obtain ⟨x, hx⟩ : ∃ x, ks[k]? = some x := ⟨_, List.getElem?_eq_getElem h9⟩
        have hvl2 := varsL_len (partsL (ks.take k)) ac1
        have hx1 := hxp (k + 1) (by omega)
        rw [partsL_take hx, List.length_append] at hx1
        have hstep : varsL (partsL (ks.take (k + 1))) ac1 = varsL x.parts (varsL (partsL (ks.take k)) ac1) := by rw [partsL_take hx, varsL_append]
        have hsp := ih x (List.mem_of_getElem? hx) _ es2 hes2 (by omega)
        rw [← hM2, ← hstep] at hsp
        obtain ⟨M3, hM3⟩ : ∃ M, M = rI (varsL (partsL (ks.take (k + 1))) ac1) := ⟨_, rfl⟩
        rw [← hM3] at hsp
        obtain ⟨x0, x1, x2, x3, hxx⟩ := cT_four x
        have g1 : qx K z = some [x0, x1, x2, x3] := by rw [r2, hz, if_pos (by omega), hK, Int.toNat_natCast, rT_get hx, hxx]
        have hz1 : qa .i64 (qb z 1) = ((k + 1 : Nat) : Int) := by rw [e1, e2, hz, IntWalk.i64_in _ (by omega)]; omega
        have hmu : ks.length - (qa .i64 (qb z 1)).toNat < ks.length - z.toNat := by rw [hz1, hz]; omega
        rw [hxx] at hsp
        unfold vO at hsp
        rw [hlt]
        cbv
        repeat (first | (with_reducible apply next_at hA; cbv) | (rw [g1]; cbv))
        refine callo_at hA [0, 1, 2, 3] hsp ⟨rfl, rfl, rfl, rfl, rfl, rfl, rfl⟩ ?_
        rintro res os2 ⟨rfl, es3, hes3, rfl⟩
        cbv
        repeat ((with_reducible apply next_at hA); cbv)
        refine ⟨(qa .i64 (qb z 1), es3, M3), ⟨k + 1, hz1, h9, hes3, hM3⟩, hmu, ?_⟩
        cbv
      · rw [decide_eq_false h9] at hlt
        rw [hlt]
        rw [List.take_of_length_le (by omega)] at hes2 hM2
        replace hQ1 := hQ1 es2 hes2
        rw [← hM2] at hQ1
        cbv
        repeat ((with_reducible apply next_at hA); cbv)
        exact keep_is hA [0, 1, 2, 3] ⟨rfl, rfl, rfl, rfl, rfl, rfl, rfl, rfl⟩ hQ1
theorem Spec.one0 {f : Nat} {rs : List R} {n : Nat} (m : Nat) (h : Spec f rs [.one (.sl n [])]) : Spec f rs [.one (.sl m [])] := h.mono fun I w v hv => AtD.empty m hv
theorem PVars_s (t : Ty) (ht : Sm t) : Spec 45 [.ag (cT t)] [.one (.sl 1 (rI (if eitherT t = true then varsS t else [])))] := by
  have h1 := either_s t ht.1 ht.2
  have hb : (rightB t 116 || rightB t 114) = eitherT t := rfl
  rw [hb] at h1
  by_cases he : eitherT t = true
  · rw [if_pos he]
    have h2 := canonP_s _ t (Nat.le_refl _) ht.1 (either_spine he)
    have h3 := each_s (canonS t) [] [] ⟨SAt.nil.1, fun n => by rw [SAt.nil.2]; rfl⟩ (by rw [canon_len _ t (Nat.le_refl _) (either_spine he)]; simpa using ht.1)
    rw [show varsL (canonS t).parts [] = varsS t from rfl] at h3
    rw [he] at h1
    obtain ⟨L, hL⟩ : ∃ L, L = rI (varsS t) := ⟨_, rfl⟩
    rw [← hL] at h3 ⊢
    obtain ⟨a0, a1, a2, a3, ha⟩ := cT_four t
    obtain ⟨c0, c1, c2, c3, hc⟩ := cT_four (canonS t)
    rw [ha] at h1 h2 ⊢
    rw [hc] at h2 h3
    unfold vO at h3
    refine spec_of Try.func45 rfl (by kernel_rfl) (by kernel_rfl) (by kernel_rfl) fun qa qb qc qd qe qf qg qh qi qj qk ql qm qo qp qq qs qt qu qv qw qx qy qz va vc vd ve vf vg vh vj vk vl vp vq vr vt vu hA => ?_
    cbv
    repeat (first | (refine call_at hA _ h1 rfl ?_; cbv) | (refine ownbox_at hA 1 0 3 true rfl rfl ?_; cbv) | (refine call_at hA _ h2 rfl ?_; cbv) | (with_reducible apply next_at hA; cbv))
    refine callo_at hA [4, 1, 3, 2] h3 ⟨rfl, rfl, rfl, rfl, rfl, rfl, rfl⟩ ?_
    rintro res os2 ⟨rfl, es3, hes3, rfl⟩
    cbv
    repeat ((with_reducible apply next_at hA); cbv)
  · have he : eitherT t = false := by simpa using he
    rw [he, if_neg (by simp)]
    rw [he] at h1
    obtain ⟨a0, a1, a2, a3, ha⟩ := cT_four t
    rw [ha] at h1 ⊢
    refine Spec.one0 (n := 0) 1 ?_
    refine spec_of Try.func45 rfl (by kernel_rfl) (by kernel_rfl) (by kernel_rfl) fun qa qb qc qd qe qf qg qh qi qj qk ql qm qo qp qq qs qt qu qv qw qx qy qz va vc vd ve vf vg vh vj vk vl vp vq vr vt vu hA => ?_
    cbv
    repeat (first | (with_reducible apply next_at hA; cbv) | (refine call_at hA _ h1 rfl ?_; cbv))
    try cbv
    repeat (first | (with_reducible apply next_at hA; cbv) | (refine call_at hA _ h1 rfl ?_; cbv))
    try simp (maxSteps := 4000000) only [nc] at *
end Go.Proofs.Ytclehkgnacekkaa.Vm
end
section
namespace Go.Proofs.Ytclehkgnacekkaa.Vm
open Go.RowKit
set_option maxRecDepth 100000
set_option maxHeartbeats 4000000
theorem shape_part {W : ByteArray → Bool} {t : Ty} : ∀ {s : Int}, shapeB W t s = true → ∀ x ∈ t.parts, ∃ c, shapeB W x c = true := by
  induction t using Ty.ind with
  | h t ih =>
    intro s h x hx
    rw [parts_kids] at hx
    rcases List.mem_cons.1 hx with rfl | hx
    · exact ⟨s, h⟩
    · obtain ⟨y, hy, hxy⟩ := List.mem_flatMap.1 hx
      obtain ⟨k, hk, h1, h2, h3, h4, h5, h6⟩ := shape_parts h
      obtain ⟨c, hc⟩ := shapes_mem W _ _ h6 y hy
      exact ih y hy hc x hxy
theorem word_size {nm : ByteArray} (h : wordB nm = true) : nm.size ≤ 32 := by
  unfold wordB at h
  rw [Bool.and_eq_true] at h
  exact of_decide_eq_true h.1
theorem shape_name {t : Ty} {s : Int} (h : shapeB wordB t s = true) : t.name.size ≤ 32 := by
  obtain ⟨k, hk, h1, h2, h3, -⟩ := shape_parts h
  split at h3
  · exact word_size h3
  · have h4 : t.name.toList = [] := of_decide_eq_true h3
    have h5 : t.name.data.toList = [] := by rw [← ByteArray.toList_eq]; exact h4
    have h6 : t.name.size = t.name.data.toList.length := by rw [Array.length_toList]; rfl
    rw [h6, h5]
    simp
theorem sm_of {t : Ty} {s : Int} (h : shapeB wordB t s = true) (hN : t.parts.length ≤ 1048576) : Sm t := ⟨hN, fun x hx => by
  obtain ⟨c, hc⟩ := shape_part h x hx
  have := shape_name hc
  omega⟩
theorem once_sub {t u : Ty} (h : onceB t = true) (hu : ∀ x ∈ u.parts, x ∈ t.parts ∨ x.op = 11) : onceB u = true := by
  refine once_yes fun x hx y hy => ?_
  cases hc : clashB x y with
  | false => rfl
  | true =>
    have hc' := hc
    unfold clashB at hc'
    simp only [Bool.and_eq_true, beq_iff_eq] at hc'
    have h1 := (hu x hx).resolve_right (by omega)
    have h2 := (hu y hy).resolve_right (by omega)
    rw [once_no h1 h2 hc] at h
    cases h
def Ok1 (s : Int) (t : Ty) : Prop := rightB t s = true ∧ Cn t ∧ t.parts.length ≤ 1048576
theorem Ok1.sm {t : Ty} {s : Int} (h : Ok1 s t) : Sm t := sm_of (right_shape h.1).1 h.2.2
theorem Ok1.shape {t : Ty} {s : Int} (h : Ok1 s t) : shapeB wordB t s = true := (right_shape h.1).1
theorem Ok1.part {t x : Ty} {s c : Int} (h : Ok1 s t) (hx : x ∈ t.parts) (hc : Cn x) (hs : shapeB wordB x c = true) : Ok1 c x := by
  refine ⟨?_, hc, Nat.le_trans (part_len hx) h.2.2⟩
  unfold rightB
  rw [hs, once_sub (right_shape h.1).2 fun y hy => .inl (parts_trans hy hx)]
  rfl
theorem kid_part {t x : Ty} (h : x ∈ t.kids) : x ∈ t.parts := by
  rw [parts_kids]
  exact List.mem_cons_of_mem _ (List.mem_flatMap.2 ⟨x, h, by rw [parts_eq]; exact List.mem_cons_self ..⟩)
theorem Ok1.field {t : Ty} (h : Ok1 114 t) {f : ByteArray × Ty} (hf : f ∈ fieldsS t) : Ok1 116 f.2 :=
  h.part (fields_mem _ t (Nat.le_refl _) f hf) ((cn_fields h.shape h.2.1).2 f hf) ((fields_shape h.shape).1 f hf).2
theorem rowS_part {tl : Ty} : ∀ {fs : List (ByteArray × Ty)} {x : Ty}, x ∈ (rowS fs tl).parts → x.op = 11 ∨ (∃ f ∈ fs, x ∈ f.2.parts) ∨ x ∈ tl.parts
  | [], x, h => .inr (.inr h)
  | f :: fs, x, h => by
    rw [rowS_op_ne, parts_kids] at h
    rcases List.mem_cons.1 h with rfl | h
    · exact .inl rfl
    · simp only [Ty.kids, List.flatMap_cons, List.flatMap_nil, List.append_nil, List.mem_append] at h
      rcases h with h | h
      · exact .inr (.inl ⟨f, List.mem_cons_self .., h⟩)
      · rcases rowS_part h with h | ⟨g, hg, h⟩ | h
        · exact .inl h
        · exact .inr (.inl ⟨g, List.mem_cons_of_mem _ hg, h⟩)
        · exact .inr (.inr h)
theorem map_cF_self {l : List (ByteArray × Ty)} (h : ∀ f ∈ l, Cn f.2) : l.map cF = l := by
  conv => rhs; rw [← List.map_id l]
  refine List.map_congr_left fun f hf => ?_
  show (f.1, canonS f.2) = f
  rw [h f hf]
theorem sub_parts {l m : List (ByteArray × Ty)} (h : l.Sublist m) : fldParts l ≤ fldParts m := by
  induction h with
  | slnil => exact Nat.le_refl _
  | cons a _ ih => simp only [fldParts, List.map_cons, List.sum_cons] at ih ⊢; omega
  | cons_cons a _ ih => simp only [fldParts, List.map_cons, List.sum_cons] at ih ⊢; omega
theorem Ok1.rest {t : Ty} (h : Ok1 114 t) {left : List (ByteArray × Ty)} (hl : left.Sublist (fieldsS t)) : Ok1 114 (rowS left (tailS t)) := by
  have hte := tail_end h.shape
  have hcf := cn_fields h.shape h.2.1
  have hsp := (shape_spineAll h.shape).self
  have hsh : shapeB wordB (rowS left (tailS t)) 114 = true := rowS_shape (fields_shape h.shape).2 fun f hf => (fields_shape h.shape).1 f (hl.subset hf)
  refine ⟨?_, ?_, ?_⟩
  · unfold rightB
    rw [hsh, once_sub (right_shape h.1).2 fun y hy => ?_]
    · rfl
    · rcases rowS_part hy with h1 | ⟨f, hf, h1⟩ | h1
      · exact .inr h1
      · exact .inl (parts_trans h1 (fields_mem _ t (Nat.le_refl _) f (hl.subset hf)))
      · exact .inl (parts_trans h1 (tail_mem hsp))
  · show canonS _ = _
    rw [canon_rowS (hcf.1.sublist hl) hte.1 hte.2.1, map_cF_self fun f hf => hcf.2 f (hl.subset hf)]
  · rw [rowS_parts]
    have h1 := spine_parts _ t (Nat.le_refl _) hsp
    have h2 : fldParts left ≤ fldParts (fieldsS t) := by
      exact sub_parts hl
    have := h.2.2
    omega
def esT (c : List (Int × Ty)) : List (R × R) := c.map fun p => (ik p.1, R.ag (cT p.2))
theorem esT_get (n : Int) : ∀ c : List (Int × Ty), mget (esT c) (ik n) = (c.find? fun p => p.1 == n).map fun p => R.ag (cT p.2)
  | [] => rfl
  | p :: c => by
    show (match rEq (ik p.1) (ik n) with | true => _ | false => mget (esT c) (ik n)) = _
    rw [rEq_ik, esT_get n c]
    cases h : p.1 == n with
    | true => rw [List.find?_cons_of_pos (by exact h)]; rfl
    | false => rw [List.find?_cons_of_neg (by simp [h])]
theorem esT_set (n : Int) (x : Ty) : ∀ c : List (Int × Ty), (c.find? fun p => p.1 == n) = none → mset (esT c) (ik n) (.ag (cT x)) = esT (c ++ [(n, x)])
  | [], _ => rfl
  | p :: c, h => by
    rw [List.find?_cons] at h
    split at h
    · cases h
    · rename_i hp
      have hp : (p.1 == n) = false := by simpa using hp
      show (match rEq (ik p.1) (ik n) with | true => _ | false => (ik p.1, R.ag (cT p.2)) :: mset (esT c) (ik n) (.ag (cT x))) = _
      rw [rEq_ik, hp, esT_set n x c h]
      rfl
def CB (c : List (Int × Ty)) : Prop := ∀ p ∈ c, Ok1 116 p.2 ∨ Ok1 114 p.2
def BindQ (o : Option (List (Int × Ty))) (res : List V) (os : List O) : Prop := (∃ c', o = some c' ∧ res = [vb true] ∧ os = [.mp 3 (esT c')]) ∨ (o = none ∧ res = [vb false] ∧ ∃ es', os = [.mp 3 es'])
theorem ok_same {x y : Ty} (hx : Ok1 116 x ∨ Ok1 114 x) (hy : Ok1 116 y ∨ Ok1 114 y) : sameB x y = alikeB x y ∧ Sm x ∧ Sm y := by
  have key : ∀ {z : Ty}, Ok1 116 z ∨ Ok1 114 z → eitherT z = true ∧ canonS z = z ∧ Sm z := fun {z} h => by
    rcases h with h | h
    · exact ⟨by unfold eitherT; rw [h.1]; rfl, h.2.1, h.sm⟩
    · exact ⟨by unfold eitherT; rw [h.1, Bool.or_true], h.2.1, h.sm⟩
  obtain ⟨a1, a2, a3⟩ := key hx
  obtain ⟨b1, b2, b3⟩ := key hy
  refine ⟨?_, a3, b3⟩
  unfold sameB
  rw [a1, b1, a2, b2]
  rfl
theorem moreC_cb {c c' : List (Int × Ty)} {n : Int} {x : Ty} (h : moreC c n x = some c') (hc : CB c) (hx : Ok1 116 x ∨ Ok1 114 x) : CB c' := by
  unfold moreC at h
  split at h
  · split at h
    · injection h with h; subst h; exact hc
    · cases h
  · injection h with h
    subst h
    intro p hp
    rcases List.mem_append.1 hp with hp | hp
    · exact hc p hp
    · simp at hp; subst hp; exact hx
theorem bind_s (c : List (Int × Ty)) (n : Int) (x : Ty) (hc : CB c) (hx : Ok1 116 x ∨ Ok1 114 x) : SpecO 94 [.ag [.mp 0], vi .i64 n, .ag (ofD (cT x))] [.mp 3 (esT c)] (BindQ (moreC c n x)) := by
  have hg := esT_get n c
  unfold moreC
  cases hf : c.find? fun p => p.1 == n with
  | none =>
    rw [hf] at hg
    have hset := esT_set n x c hf
    obtain ⟨Q, hQ⟩ : ∃ Q, Q = BindQ (some (c ++ [(n, x)])) := ⟨_, rfl⟩
    have hq : Q [vb true] [.mp 3 (esT (c ++ [(n, x)]))] := by rw [hQ]; exact .inl ⟨_, rfl, rfl, rfl⟩
    simp only
    rw [← hQ]
    clear hQ
    generalize esT (c ++ [(n, x)]) = E2 at *
    generalize esT c = E at *
    obtain ⟨x0, x1, x2, x3, hxx⟩ := cT_four x
    rw [hxx] at hset ⊢
    unfold ik at hg hset
    refine speco_of Try.func94 rfl (by kernel_rfl) (by kernel_rfl) (by kernel_rfl) fun qa qb qc qd qe qf qg qh qi qj qk ql qm qo qp qq qs qt qu qv qw qx qy qz va vc vd ve vf vg vh vj vk vl vp vq vr vt vu hA => ?_
    cbv
    repeat ((with_reducible apply next_at hA); cbv)
    obtain ⟨m1, m2, -⟩ := map_at hA
    rw [← m1] at hg
    rw [← m2] at hset
    simp only [Option.map_none] at hg
    cbv
    repeat (first | (with_reducible apply next_at hA; cbv) | (rw [hg]; cbv) | (rw [hset]; cbv))
    try cbv
    repeat (first | (with_reducible apply next_at hA; cbv) | (rw [hg]; cbv) | (rw [hset]; cbv))
    try simp (maxSteps := 4000000) only [nc] at *
    exact keep_is hA [0] ⟨rfl, rfl, rfl, rfl, rfl, rfl, rfl, rfl⟩ hq
  | some p =>
    rw [hf] at hg
    have hpm := List.mem_of_find?_eq_some hf
    obtain ⟨hsm, s1, s2⟩ := ok_same (hc p hpm) hx
    have hS := Same_s p.2 x s1 s2
    rw [hsm] at hS
    simp only
    obtain ⟨Q, hQ⟩ : ∃ Q, Q = BindQ (if alikeB p.2 x = true then some c else none) := ⟨_, rfl⟩
    have hq : Q [vb (alikeB p.2 x)] [.mp 3 (esT c)] := by
      rw [hQ]
      cases alikeB p.2 x with
      | true => exact .inl ⟨_, rfl, rfl, rfl⟩
      | false => exact .inr ⟨rfl, rfl, _, rfl⟩
    rw [← hQ]
    clear hQ
    generalize esT c = E at *
    generalize alikeB p.2 x = bb at *
    obtain ⟨x0, x1, x2, x3, hxx⟩ := cT_four x
    obtain ⟨y0, y1, y2, y3, hyy⟩ := cT_four p.2
    simp only [Option.map_some] at hg
    rw [hxx] at hS ⊢
    rw [hyy] at hS hg
    unfold ik at hg
    refine speco_of Try.func94 rfl (by kernel_rfl) (by kernel_rfl) (by kernel_rfl) fun qa qb qc qd qe qf qg qh qi qj qk ql qm qo qp qq qs qt qu qv qw qx qy qz va vc vd ve vf vg vh vj vk vl vp vq vr vt vu hA => ?_
    cbv
    repeat ((with_reducible apply next_at hA); cbv)
    obtain ⟨m1, m2, -⟩ := map_at hA
    rw [← m1] at hg
    cbv
    repeat (first | (with_reducible apply next_at hA; cbv) | (rw [hg]; cbv) | (refine call_at hA _ hS rfl ?_; cbv))
    try cbv
    repeat (first | (with_reducible apply next_at hA; cbv) | (rw [hg]; cbv) | (refine call_at hA _ hS rfl ?_; cbv))
    try simp (maxSteps := 4000000) only [nc] at *
    exact keep_is hA [0] ⟨rfl, rfl, rfl, rfl, rfl, rfl, rfl, rfl⟩ hq
end Go.Proofs.Ytclehkgnacekkaa.Vm
end

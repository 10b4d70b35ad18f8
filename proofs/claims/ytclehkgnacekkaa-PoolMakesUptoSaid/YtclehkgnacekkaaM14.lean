/- Part 14 of the proof: VPRight4, VKSame, VRAt, VRVars, VKVars, VPo1, VRd, VPo3, VPoL, VPo9, VPo2, VPoM, VPo4, VPo5, VPo6, VLike, VPo7. Conditions: none. -/
import Derived.Test.YtclehkgnacekkaaM3
import Derived.Test.YtclehkgnacekkaaM4
import Derived.Test.YtclehkgnacekkaaM6
import Derived.Test.YtclehkgnacekkaaM7
import Derived.Test.YtclehkgnacekkaaM8
import Derived.Test.YtclehkgnacekkaaM12
import Derived.Test.YtclehkgnacekkaaM13
import Derived.IntWalk
set_option linter.all false
set_option linter.unusedVariables false
set_option linter.unusedSimpArgs false
section
namespace Go.Proofs.Ytclehkgnacekkaa.Vm
open Go.RowKit
set_option maxRecDepth 100000
set_option maxHeartbeats 4000000
theorem asks_none {op : Int} (h : asks op = none) : kidsS op = none := by
  unfold asks at h
  unfold kidsS
  repeat' split at h
  all_goals first | (cases h; done) | skip
  rename_i h1 h2 h3 h4 h5 h6 h7
  rw [if_neg (by omega), if_neg h2, if_neg h3, if_neg h7]
theorem asks_head {op : Int} {kn : Int} {a b : Bool} (h : asks op = some (kn, a, b)) (nm : ByteArray) (n : Int) (ks : List Ty) (row : Bool) :
    headB wordB (.mk op nm n ks) (sI row) = hd2 row (decide (8 ≤ op)) (decide ((ks.length : Int) = kn)) a (wordB nm) (decide (nm.toList = [])) (decide (n < 0)) b (n == 0) ∧ (∃ kk, kidsS op = some kk ∧ (kk.length : Int) = kn ∧ ∀ (k : Nat) (c : Int), kk[k]? = some c → sI (orB (op == 5) (orB (op == 6) (nmF (op == 11) (k == 1) false))) = c) ∧
      (b = true ∧ (vbl (.mk op nm n ks) = some (n, decide (op = 10))) ∧ (op = 10 ∨ op = 7) ∨ b = false ∧ vbl (.mk op nm n ks) = none) := by
  have key : ∀ (i : Int) (kk : List Int), op = i → kidsS i = some kk → (kk.length : Int) = kn → (∀ (k : Nat) (c : Int), kk[k]? = some c → sI (orB (i == 5) (orB (i == 6) (nmF (i == 11) (k == 1) false))) = c) → a = (i == 11) → b = ((i == 7) || (i == 10)) →
      headB wordB (.mk op nm n ks) (sI row) = hd2 row (decide (8 ≤ op)) (decide ((ks.length : Int) = kn)) a (wordB nm) (decide (nm.toList = [])) (decide (n < 0)) b (n == 0) ∧ (∃ kk, kidsS op = some kk ∧ (kk.length : Int) = kn ∧ ∀ (k : Nat) (c : Int), kk[k]? = some c → sI (orB (op == 5) (orB (op == 6) (nmF (op == 11) (k == 1) false))) = c) := by
    rintro i kk rfl h1 h2 h3 rfl rfl
    refine ⟨?_, kk, h1, h2, h3⟩
    rw [head_hd, h1]
    have hk := kidsTx_is h1
    have e1 : decide (ks.length = (kidsTx op).size) = decide ((ks.length : Int) = kn) := by
      have : kk.length = (kidsTx op).size := by rw [hk, List.length_map, btl_size]
      exact decide_eq_decide.2 (by omega)
    have e2 : (decide (8 ≤ op) == (sI row == 114)) = (row == decide (8 ≤ op)) := by cases row <;> cases decide (8 ≤ op) <;> rfl
    unfold hdF hd2
    rw [e1, e2]
    simp only [Option.isSome_some, Bool.true_and, Bool.or_assoc]
    cases (op == 11) <;> rfl
  have two : ∀ {l : List Int} {P : Nat → Int → Prop} {x y : Int}, l = [x, y] → P 0 x → P 1 y → ∀ (k : Nat) (c : Int), l[k]? = some c → P k c := by
    rintro l P x y rfl h0 h1 k c h
    match k, h with
    | 0, h => cases h; exact h0
    | 1, h => cases h; exact h1
    | k + 2, h => simp at h
  have one : ∀ {l : List Int} {P : Nat → Int → Prop} {x : Int}, l = [x] → P 0 x → ∀ (k : Nat) (c : Int), l[k]? = some c → P k c := by
    rintro l P x rfl h0 k c h
    match k, h with
    | 0, h => cases h; exact h0
    | k + 1, h => simp at h
  have zero : ∀ {P : Nat → Int → Prop}, ∀ (k : Nat) (c : Int), ([] : List Int)[k]? = some c → P k c := fun k c h => by simp at h
  unfold asks at h
  repeat' split at h
  all_goals first | (cases h; done) | skip
  all_goals
    cases h
    rename_i h
    first
    | (rcases h with h | h | h <;> subst h <;> exact ⟨(key _ _ rfl rfl rfl zero rfl rfl).1, (key _ _ rfl rfl rfl zero rfl rfl).2, .inr ⟨rfl, rfl⟩⟩)
    | (rcases h with h | h <;> subst h <;> first | exact ⟨(key _ _ rfl rfl rfl zero rfl rfl).1, (key _ _ rfl rfl rfl zero rfl rfl).2, .inr ⟨rfl, rfl⟩⟩ | exact ⟨(key _ _ rfl rfl rfl (one rfl rfl) rfl rfl).1, (key _ _ rfl rfl rfl (one rfl rfl) rfl rfl).2, .inr ⟨rfl, rfl⟩⟩)
    | (subst h; exact ⟨(key _ _ rfl rfl rfl zero rfl rfl).1, (key _ _ rfl rfl rfl zero rfl rfl).2, .inl ⟨rfl, rfl, by decide⟩⟩)
    | (subst h; exact ⟨(key _ _ rfl rfl rfl (two rfl rfl rfl) rfl rfl).1, (key _ _ rfl rfl rfl (two rfl rfl rfl) rfl rfl).2, .inr ⟨rfl, rfl⟩⟩)
theorem right_s : ∀ (t : Ty), t.parts.length ≤ 1048576 → (∀ x ∈ t.parts, x.name.size ≤ 1048576) → ∀ (row : Bool) (es : List (R × R)) (s : Int → Option Bool), SAt es s →
    SpecO 93 [.mp 0, .ag (ofD (cT t)), vb row] [.mp 3 es] (RightQ (shapeB wordB t (sI row) && (meetL t.parts s).isSome) (meetL t.parts s)) := by
  intro t
  induction t using Ty.ind with
  | h t ih =>
    intro hN hnm row es s hes
    have hkl := kids_le t
    have hself := hnm t (by rw [parts_eq]; exact List.mem_cons_self ..)
    have hkn : ∀ x ∈ t.kids, ∀ y ∈ x.parts, y.name.size ≤ 1048576 := fun x hx y hy => hnm y (by rw [parts_kids]; exact List.mem_cons_of_mem _ (List.mem_flatMap.2 ⟨x, hx, hy⟩))
    have ih2 : ∀ x ∈ t.kids, ∀ (row : Bool) (es : List (R × R)) (s : Int → Option Bool), SAt es s → SpecO 93 [.mp 0, .ag (ofD (cT x)), vb row] [.mp 3 es] (RightQ (shapeB wordB x (sI row) && (meetL x.parts s).isSome) (meetL x.parts s)) := fun x hx => ih x hx (by have := hkl.2 x hx; omega) (hkn x hx)
    have hsh := shape_eq wordB t (sI row)
    have hpm : meetL t.parts s = match vbl t with | none => meetL (partsL t.kids) s | some p => if s p.1 = some (!p.2) then none else meetL (partsL t.kids) (updS s p.1 p.2) := by
      rw [parts_eq, meetL]
      cases vbl t <;> rfl
    obtain ⟨op, nm, n, ks⟩ := t
    simp only [Ty.kids, Ty.op] at hkl ih2 hsh hpm
    have hself : nm.size ≤ 1048576 := hself
    generalize hbb : (shapeB wordB (.mk op nm n ks) (sI row) && (meetL (Ty.mk op nm n ks).parts s).isSome) = b
    generalize hFF : meetL (Ty.mk op nm n ks).parts s = F at *
    rw [cT]
    have hb : Try.f93.body = some (.seq (seqL2 (Try.f93.body.getD .skip)) (.seq (seqL2 (seqR2 (Try.f93.body.getD .skip))) (.seq (seqL2 (seqR2 (seqR2 (Try.f93.body.getD .skip)))) (.seq (seqL2 (seqR2 (seqR2 (seqR2 (Try.f93.body.getD .skip))))) (seqR2 (seqR2 (seqR2 (seqR2 (Try.f93.body.getD .skip))))))))) := by kernel_rfl
    refine speco_of Try.func93 hb (by kernel_rfl) (by kernel_rfl) (by kernel_rfl) fun qa qb qc qd qe qf qg qh qi qj qk ql qm qo qp qs qt qu qv qx qy qz va vc vd ve vf vg vh vj vk vl vm vn vo vp vq vr vt hA => ?_
    refine pre_right op nm n (rT ks) row es _ _ ?_ ?_ qa qb qc qd qe qf qg qh qi qj qk ql qm qo qp qs qt qu qv qx qy qz va vc vd ve vf vg vh vj vk vl vm vn vo vp vq vr vt hA
    · intro kn a c hask j12 j13 j14 j15 j16 j17 j18 j19 j20 j21 j22 j23 j24 j25 j26 j27 j28 j29 j30 j31
      obtain ⟨hh, ⟨kk, hkk1, hkk2, hkk3⟩, hv⟩ := asks_head hask nm n ks row
      rw [hkk1] at hsh
      have hsh : shapeB wordB (.mk op nm n ks) (sI row) = (headB wordB (.mk op nm n ks) (sI row) && shapesB wordB ks kk) := hsh
      rw [hh] at hsh
      have hbody := rest_right op nm n ks row es s kn a c j12 j13 j14 j15 j16 j17 j18 j19 j20 j21 j22 j23 j24 j25 j26 j27 j28 j29 j30 j31 kk b F hes hself (by omega) (fun h => by omega) hkk3 (fun h => by rw [← hbb, hsh, h, Bool.true_and]) (fun h => by rw [← hbb, hsh, h, Bool.false_and, Bool.false_and]) (fun h => ?_) ih2 qa qb qc qd qe qf qg qh qi qj qk ql qm qo qp qs qt qu qv qx qy qz va vc vd ve vf vg vh vj vk vl vm vn vo vp vq vr vt hA
      · rw [hA] at hbody ⊢
        exact hbody
      · rw [hpm]
        rcases hv with ⟨rfl, hv, ho⟩ | ⟨rfl, hv⟩
        · rw [hv]
          have hr : decide (op = 10) = row := by
            unfold hd2 at h
            have h1 : (row == decide (8 ≤ op)) = true := by revert h; cases (row == decide (8 ≤ op)) <;> simp
            rw [beq_iff_eq] at h1
            rw [h1]
            rcases ho with rfl | rfl <;> rfl
          rw [hr]
          rfl
        · rw [hv]
          rfl
    · intro hn st ho h6
      have hk := asks_none hn
      have hbf : b = false := by
        rw [← hbb, hsh]
        unfold headB
        rw [show (Ty.mk op nm n ks).op = op from rfl, hk]
        rfl
      show vo 1 (RightQ b F) [getN st.t 6] st
      rw [h6]
      exact keep_is hA [0] ⟨rfl, rfl, rfl, rfl, by rw [ho]; rfl, rfl, rfl, rfl⟩ ⟨es, rfl, hes.1, by rw [hbf], fun h => by rw [hbf] at h; cases h⟩
theorem right_is (t : Ty) (row : Bool) : (shapeB wordB t (sI row) && (meetL t.parts fun _ => none).isSome) = rightB t (sI row) := by rw [once_meet]; rfl
theorem PRight_s (t : Ty) (hN : t.parts.length ≤ 1048576) (hnm : ∀ x ∈ t.parts, x.name.size ≤ 1048576) : Spec 42 [.ag (cT t)] [.one (.sc (.bool (rightB t 116)))] := by
  have h1 := right_s t hN hnm false [] (fun _ => none) SAt.nil
  rw [right_is] at h1
  have e : rightB t (sI false) = rightB t 116 := rfl
  rw [e] at h1
  generalize rightB t 116 = b at *
  generalize meetL t.parts (fun _ => none) = F at *
  obtain ⟨c0, c1, c2, c3, hc⟩ : ∃ c0 c1 c2 c3, cT t = [c0, c1, c2, c3] := by obtain ⟨op, nm, n, ks⟩ := t; exact ⟨_, _, _, _, by rw [cT]⟩
  rw [hc] at h1 ⊢
  refine spec_of Try.func42 rfl (by kernel_rfl) (by kernel_rfl) (by kernel_rfl) fun qa qb qc qd qe qf qg qh qi qj qk ql qm qo qp qs qt qu qv qx qy qz va vc vd ve vf vg vh vj vk vl vm vn vo vp vq vr vt hA => ?_
  cbv
  repeat ((with_reducible apply next_at hA); cbv)
  refine callo_at hA [1] h1 ⟨rfl, rfl, rfl, rfl, rfl, rfl, rfl⟩ ?_
  rintro res os2 ⟨es', rfl, hk', rfl, hm'⟩
  cbv
  repeat ((with_reducible apply next_at hA); cbv)
theorem PRow_s (t : Ty) (hN : t.parts.length ≤ 1048576) (hnm : ∀ x ∈ t.parts, x.name.size ≤ 1048576) : Spec 54 [.ag (cT t)] [.one (.sc (.bool (rightB t 114)))] := by
  have h1 := right_s t hN hnm true [] (fun _ => none) SAt.nil
  rw [right_is] at h1
  have e : rightB t (sI true) = rightB t 114 := rfl
  rw [e] at h1
  generalize rightB t 114 = b at *
  generalize meetL t.parts (fun _ => none) = F at *
  obtain ⟨c0, c1, c2, c3, hc⟩ : ∃ c0 c1 c2 c3, cT t = [c0, c1, c2, c3] := by obtain ⟨op, nm, n, ks⟩ := t; exact ⟨_, _, _, _, by rw [cT]⟩
  rw [hc] at h1 ⊢
  refine spec_of Try.func54 rfl (by kernel_rfl) (by kernel_rfl) (by kernel_rfl) fun qa qb qc qd qe qf qg qh qi qj qk ql qm qo qp qs qt qu qv qx qy qz va vc vd ve vf vg vh vj vk vl vm vn vo vp vq vr vt hA => ?_
  cbv
  repeat ((with_reducible apply next_at hA); cbv)
  refine callo_at hA [1] h1 ⟨rfl, rfl, rfl, rfl, rfl, rfl, rfl⟩ ?_
  rintro res os2 ⟨es', rfl, hk', rfl, hm'⟩
  cbv
  repeat ((with_reducible apply next_at hA); cbv)
theorem either_s (t : Ty) (hN : t.parts.length ≤ 1048576) (hnm : ∀ x ∈ t.parts, x.name.size ≤ 1048576) : Spec 96 [.ag (cT t)] [.one (.sc (.bool (rightB t 116 || rightB t 114)))] := by
  have h1 := PRight_s t hN hnm
  have h2 := PRow_s t hN hnm
  generalize rightB t 116 = q1 at *
  generalize rightB t 114 = q2 at *
  obtain ⟨c0, c1, c2, c3, hc⟩ : ∃ c0 c1 c2 c3, cT t = [c0, c1, c2, c3] := by obtain ⟨op, nm, n, ks⟩ := t; exact ⟨_, _, _, _, by rw [cT]⟩
  rw [hc] at h1 h2 ⊢
  refine spec_of Try.func96 rfl (by kernel_rfl) (by kernel_rfl) (by kernel_rfl) fun qa qb qc qd qe qf qg qh qi qj qk ql qm qo qp qs qt qu qv qx qy qz va vc vd ve vf vg vh vj vk vl vm vn vo vp vq vr vt hA => ?_
  cbv
  repeat ((with_reducible apply next_at hA); cbv)
  refine call_at hA _ h1 ?_ ?_
  · rfl
  cases q1
  · cbv
    repeat ((with_reducible apply next_at hA); cbv)
    refine call_at hA _ h2 ?_ ?_
    · rfl
    cbv
    repeat ((with_reducible apply next_at hA); cbv)
  · cbv
    repeat ((with_reducible apply next_at hA); cbv)
end Go.Proofs.Ytclehkgnacekkaa.Vm
end
section
namespace Go.Proofs.Ytclehkgnacekkaa.Vm
open Go.RowKit
set_option maxRecDepth 100000
set_option maxHeartbeats 4000000
def eitherT (t : Ty) : Bool := rightB t 116 || rightB t 114
def Sm (t : Ty) : Prop := t.parts.length ≤ 1048576 ∧ ∀ x ∈ t.parts, x.name.size ≤ 1048576
theorem right_shape {t : Ty} {s : Int} (h : rightB t s = true) : shapeB wordB t s = true ∧ onceB t = true := by
  unfold rightB at h
  rwa [Bool.and_eq_true] at h
theorem either_shape {t : Ty} (h : eitherT t = true) : ∃ s, shapeB wordB t s = true := by
  unfold eitherT at h
  rw [Bool.or_eq_true] at h
  rcases h with h | h
  · exact ⟨_, (right_shape h).1⟩
  · exact ⟨_, (right_shape h).1⟩
theorem either_spine {t : Ty} (h : eitherT t = true) : SpineAll t := by
  obtain ⟨s, h⟩ := either_shape h
  exact shape_spineAll h
theorem Spec.mono {f : Nat} {rs q q' : List R} (h : Spec f rs q) (hq : ∀ I w v, AtRes I w v q → AtRes I w v q') : Spec f rs q' :=
  ⟨h.1, fun I w args h1 h2 => (h.2 I w args h1 h2).mono fun e w' ⟨v, e1, e2, e3⟩ => ⟨v, e1, hq _ _ _ e2, e3⟩⟩
theorem AtD.empty {I : Nat → Nat → Prop} {w : World} {v : Value} {n : Nat} (m : Nat) (h : AtD I w v (.sl n [])) : AtD I w v (.sl m []) := by
  generalize hr : ([] : List (List D)) = rows at h
  cases h with
  | nil A cap sz => exact .nil _ _ _
  | sl b off cap sz rows us => subst hr; exact .nil _ _ _
theorem AtDs.last {I : Nat → Nat → Prop} {w : World} {us : List Value} {xs : List D} {x y : D} (h : AtDs I w us (xs ++ [x])) (hx : ∀ u, AtD I w u x → AtD I w u y) : AtDs I w us (xs ++ [y]) := by
  refine ⟨by have := h.1; simpa using this, fun i u d hu hd => ?_⟩
  rcases Nat.lt_or_ge i xs.length with hlt | hge
  · rw [List.getElem?_append_left hlt] at hd
    exact h.2 i u d hu (by rw [List.getElem?_append_left hlt]; exact hd)
  · rw [List.getElem?_append_right hge] at hd
    obtain e : i - xs.length = 0 := by
      have := (List.getElem?_eq_some_iff.1 hd).1
      simp at this
      omega
    rw [e] at hd
    simp at hd
    subst hd
    exact hx u (h.2 i u x hu (by rw [List.getElem?_append_right hge, e]; rfl))
theorem Spec.sl0 {f : Nat} {rs : List R} {a b c : D} {n : Nat} (m : Nat) (h : Spec f rs [.ag [a, b, c, .sl n []]]) : Spec f rs [.ag [a, b, c, .sl m []]] := h.mono fun I w v hv => by
  obtain ⟨us, rfl, h2⟩ := hv
  exact ⟨us, rfl, AtDs.last (xs := [a, b, c]) h2 fun u hu => hu.empty m⟩
theorem Canon_s (t : Ty) (ht : Sm t) : Spec 44 [.ag (cT t)] [.ag (cT (if eitherT t = true then canonS t else zeroTy))] := by
  have h1 := either_s t ht.1 ht.2
  have hb : (rightB t 116 || rightB t 114) = eitherT t := rfl
  rw [hb] at h1
  by_cases he : eitherT t = true
  · rw [if_pos he]
    have h2 := canonP_s _ t (Nat.le_refl _) ht.1 (either_spine he)
    rw [he] at h1
    obtain ⟨a0, a1, a2, a3, ha⟩ := cT_four t
    obtain ⟨c0, c1, c2, c3, hc⟩ := cT_four (canonS t)
    rw [ha] at h1 h2
    rw [hc] at h2
    rw [ha, hc]
    refine spec_of Try.func44 rfl (by kernel_rfl) (by kernel_rfl) (by kernel_rfl) fun qa qb qc qd qe qf qg qh qi qj qk ql qm qo qp qs qt qu qv qx qy qz va vc vd ve vf vg vh vj vk vl vm vn vo vp vq vr vt hA => ?_
    cbv
    repeat (first | (with_reducible apply next_at hA; cbv) | (refine call_at hA _ h1 rfl ?_; cbv) | (refine call_at hA _ h2 rfl ?_; cbv))
    try cbv
    repeat (first | (with_reducible apply next_at hA; cbv) | (refine call_at hA _ h1 rfl ?_; cbv) | (refine call_at hA _ h2 rfl ?_; cbv))
    try simp (maxSteps := 4000000) only [nc] at *
  · have he : eitherT t = false := by simpa using he
    rw [he, if_neg (by simp)]
    rw [he] at h1
    obtain ⟨a0, a1, a2, a3, ha⟩ := cT_four t
    rw [ha] at h1 ⊢
    unfold zeroTy
    rw [cT, rT]
    refine Spec.sl0 (n := 0) 4 ?_
    refine spec_of Try.func44 rfl (by kernel_rfl) (by kernel_rfl) (by kernel_rfl) fun qa qb qc qd qe qf qg qh qi qj qk ql qm qo qp qs qt qu qv qx qy qz va vc vd ve vf vg vh vj vk vl vm vn vo vp vq vr vt hA => ?_
    cbv
    repeat (first | (with_reducible apply next_at hA; cbv) | (refine call_at hA _ h1 rfl ?_; cbv))
    try cbv
    repeat (first | (with_reducible apply next_at hA; cbv) | (refine call_at hA _ h1 rfl ?_; cbv))
    try simp (maxSteps := 4000000) only [nc] at *
end Go.Proofs.Ytclehkgnacekkaa.Vm
end
section
namespace Go.Proofs.Ytclehkgnacekkaa.Vm
open Go.RowKit
set_option maxRecDepth 100000
set_option maxHeartbeats 4000000
def rI (l : List Int) : List (List D) := l.map fun n => [.sc (.int .i64 n)]
theorem rI_len (l : List Int) : (rI l).length = l.length := by rw [rI, List.length_map]
theorem rI_get {l : List Int} {k : Nat} {x : Int} (h : l[k]? = some x) : (rI l)[k]? = some [.sc (.int .i64 x)] := by rw [rI, List.getElem?_map, h]; rfl
end Go.Proofs.Ytclehkgnacekkaa.Vm
end
section
namespace Go.Proofs.Ytclehkgnacekkaa.Vm
open Go.RowKit
set_option maxRecDepth 100000
set_option maxHeartbeats 4000000
theorem rI_snoc (l : List Int) (x : Int) : rI (l ++ [x]) = rI l ++ [[.sc (.int .i64 x)]] := by unfold rI; rw [List.map_append]; rfl
end Go.Proofs.Ytclehkgnacekkaa.Vm
end
section
namespace Go.Proofs.Ytclehkgnacekkaa.Vm
open Go.RowKit
set_option maxRecDepth 100000
set_option maxHeartbeats 4000000
def metS (acc : List Int) : Int → Option Bool := fun n => if n ∈ acc then some true else none
theorem SAt.add {es : List (R × R)} {acc : List Int} (h : SAt es (metS acc)) (n : Int) : SAt (mset es (ik n) (.one (.sc (.bool true)))) (metS (acc ++ [n])) := by
  have h2 := h.set n true
  have e : updS (metS acc) n true = metS (acc ++ [n]) := by
    funext x
    unfold updS metS
    by_cases hx : x = n
    · subst hx; simp
    · simp [hx]
  rw [e] at h2
  exact h2
end Go.Proofs.Ytclehkgnacekkaa.Vm
end
section
namespace Go.Proofs.Ytclehkgnacekkaa.Vm
open Go.RowKit
set_option maxRecDepth 100000
set_option maxHeartbeats 4000000
structure Cel where
  op : Int
  name : ByteArray
  a : Int
  b : Int
  num : Int
  lev : Int
def vrB (op : Int) : Bool := (op == 7) || (op == 10)
def cC (c : Cel) : List D := [.sc (.int .u8 c.op), .sc (.string c.name), .sc (.int .i64 c.a), .sc (.int .i64 c.b), .sc (.int .i64 c.num), .sc (.int .i64 c.lev), .sc (.int .i64 (-1))]
def kR (op : Int) (nm : ByteArray) (a b : Int) : R := .ag [.sc (.int .u8 op), .sc (.string nm), .sc (.int .i64 a), .sc (.int .i64 b)]
def fndF : Nat → List Cel → List (R × R)
  | _, [] => []
  | i, c :: l => if vrB c.op = true then fndF (i + 1) l else (kR c.op c.name c.a c.b, ik i) :: fndF (i + 1) l
def vrsF : Nat → List Cel → List (R × R)
  | _, [] => []
  | i, c :: l => if vrB c.op = true then (ik c.num, ik i) :: vrsF (i + 1) l else vrsF (i + 1) l
def nxtF (cs : List Cel) : Int := cs.foldl (fun n c => if vrB c.op = true then max n (IntKind.i64.wrap (c.num + 1)) else n) 0
def PO (cs : List Cel) : List O := [.box [.own 1, .mp 2, .mp 3, vi .i64 (nxtF cs)], .row false 108 (cs.map cC), .mp 105 (fndF 0 cs), .mp 3 (vrsF 0 cs)]
def keyIs (op : Int) (nm : ByteArray) (a b : Int) (c : Cel) : Bool := !vrB c.op && c.op == op && decide (c.name = nm) && c.a == a && c.b == b
def numIs (n : Int) (c : Cel) : Bool := vrB c.op && c.num == n
theorem dEq_str (x y : ByteArray) : dEq (.sc (.string x)) (.sc (.string y)) = decide (x = y) := by
  show bytesEq x.data.toList y.data.toList = _
  rw [bytesEq_is]
  by_cases h : x = y
  · subst h; simp
  · rw [decide_eq_false h]
    refine beq_eq_false_iff_ne.2 fun e => h ?_
    obtain ⟨⟨a⟩⟩ := x
    obtain ⟨⟨b⟩⟩ := y
    simp only at e
    rw [e]
theorem dEq_int (k : IntKind) (x y : Int) : dEq (.sc (.int k x)) (.sc (.int k y)) = (x == y) := intEq_is x y
theorem rEq_kR (op : Int) (nm : ByteArray) (a b op' : Int) (nm' : ByteArray) (a' b' : Int) : rEq (kR op nm a b) (kR op' nm' a' b') = ((op == op') && decide (nm = nm') && (a == a') && (b == b')) := by
  show (match dEq (.sc (.int .u8 op)) (.sc (.int .u8 op')) with | true => (match dEq (.sc (.string nm)) (.sc (.string nm')) with | true => (match dEq (.sc (.int .i64 a)) (.sc (.int .i64 a')) with | true => (match dEq (.sc (.int .i64 b)) (.sc (.int .i64 b')) with | true => true | false => false) | false => false) | false => false) | false => false) = _
  rw [dEq_int, dEq_str, dEq_int, dEq_int]
  cases op == op' <;> cases decide (nm = nm') <;> cases a == a' <;> cases b == b' <;> rfl
theorem fnd_get (op : Int) (nm : ByteArray) (a b : Int) : ∀ (cs : List Cel) (i : Nat), mget (fndF i cs) (kR op nm a b) = (cs.findIdx? (keyIs op nm a b)).map fun j => ik ((i + j : Nat) : Int)
  | [], i => rfl
  | c :: cs, i => by
    rw [fndF, List.findIdx?_cons]
    unfold keyIs
    cases hv : vrB c.op with
    | true =>
      rw [if_pos rfl, fnd_get op nm a b cs (i + 1)]
      simp only [Bool.not_true, Bool.false_and, Bool.false_eq_true, if_false]
      show _ = Option.map _ (Option.map _ (cs.findIdx? (keyIs op nm a b)))
      rw [Option.map_map]
      congr 1
      funext j
      show ik ((i + 1 + j : Nat) : Int) = ik ((i + (j + 1) : Nat) : Int)
      congr 1
      omega
    | false =>
      rw [if_neg (by simp)]
      show (match rEq (kR c.op c.name c.a c.b) (kR op nm a b) with | true => _ | false => mget (fndF (i + 1) cs) (kR op nm a b)) = _
      rw [rEq_kR, fnd_get op nm a b cs (i + 1)]
      simp only [Bool.not_false, Bool.true_and]
      cases (c.op == op && decide (c.name = nm) && c.a == a && c.b == b) with
      | true => rfl
      | false =>
        simp only [Bool.false_eq_true, if_false]
        show _ = Option.map _ (Option.map _ (cs.findIdx? (keyIs op nm a b)))
        rw [Option.map_map]
        congr 1
        funext j
        show ik ((i + 1 + j : Nat) : Int) = ik ((i + (j + 1) : Nat) : Int)
        congr 1
        omega
theorem vrs_get (n : Int) : ∀ (cs : List Cel) (i : Nat), mget (vrsF i cs) (ik n) = (cs.findIdx? (numIs n)).map fun j => ik ((i + j : Nat) : Int)
  | [], i => rfl
  | c :: cs, i => by
    rw [vrsF, List.findIdx?_cons]
    unfold numIs
    cases hv : vrB c.op with
    | false =>
      rw [if_neg (by simp), vrs_get n cs (i + 1)]
      simp only [Bool.false_and, Bool.false_eq_true, if_false]
      show _ = Option.map _ (Option.map _ (cs.findIdx? (numIs n)))
      rw [Option.map_map]
      congr 1
      funext j
      show ik ((i + 1 + j : Nat) : Int) = ik ((i + (j + 1) : Nat) : Int)
      congr 1
      omega
    | true =>
      rw [if_pos rfl]
      show (match rEq (ik c.num) (ik n) with | true => _ | false => mget (vrsF (i + 1) cs) (ik n)) = _
      rw [rEq_ik, vrs_get n cs (i + 1)]
      simp only [Bool.true_and]
      cases c.num == n with
      | true => rfl
      | false =>
        simp only [Bool.false_eq_true, if_false]
        show _ = Option.map _ (Option.map _ (cs.findIdx? (numIs n)))
        rw [Option.map_map]
        congr 1
        funext j
        show ik ((i + 1 + j : Nat) : Int) = ik ((i + (j + 1) : Nat) : Int)
        congr 1
        omega
theorem mset_new (r q : R) : ∀ es : List (R × R), mget es r = none → mset es r q = es ++ [(r, q)]
  | [], _ => rfl
  | (k, v) :: es, h => by
    rw [mget] at h
    rw [mset]
    cases hk : rEq k r with
    | true => rw [hk] at h; cases h
    | false =>
      rw [hk] at h
      simp only at h ⊢
      rw [mset_new r q es h]
      rfl
theorem fndF_snoc (c : Cel) : ∀ (cs : List Cel) (i : Nat), fndF i (cs ++ [c]) = fndF i cs ++ (if vrB c.op = true then [] else [(kR c.op c.name c.a c.b, ik ((i + cs.length : Nat) : Int))])
  | [], i => by rw [List.nil_append, fndF, fndF]; cases vrB c.op <;> rfl
  | d :: cs, i => by
    rw [List.cons_append, fndF, fndF_snoc c cs (i + 1), fndF]
    have e : i + 1 + cs.length = i + (d :: cs).length := by rw [List.length_cons]; omega
    rw [e]
    split <;> rfl
theorem vrsF_snoc (c : Cel) : ∀ (cs : List Cel) (i : Nat), vrsF i (cs ++ [c]) = vrsF i cs ++ (if vrB c.op = true then [(ik c.num, ik ((i + cs.length : Nat) : Int))] else [])
  | [], i => by rw [List.nil_append, vrsF, vrsF]; cases vrB c.op <;> rfl
  | d :: cs, i => by
    rw [List.cons_append, vrsF, vrsF_snoc c cs (i + 1), vrsF]
    have e : i + 1 + cs.length = i + (d :: cs).length := by rw [List.length_cons]; omega
    rw [e]
    split <;> rfl
theorem nxtF_snoc (c : Cel) (cs : List Cel) : nxtF (cs ++ [c]) = if vrB c.op = true then max (nxtF cs) (IntKind.i64.wrap (c.num + 1)) else nxtF cs := by
  unfold nxtF
  rw [List.foldl_append]
  rfl
theorem rC_get {cs : List Cel} {i : Nat} {c : Cel} (h : cs[i]? = some c) : (cs.map cC)[i]? = some (cC c) := by rw [List.getElem?_map, h]; rfl
theorem pvar_s (op : Int) : Spec 73 [.one (.sc (.int .u8 op))] [.one (.sc (.bool (vrB op)))] := by
  unfold vrB
  generalize h1 : (op == 7) = b1
  generalize h2 : (op == 10) = b2
  refine spec_of Try.func73 rfl (by kernel_rfl) (by kernel_rfl) (by kernel_rfl) fun qa qb qc qd qe qf qg qh qi qj qk ql qm qo qp qs qt qu qv qx qy qz va vc vd ve vf vg vh vj vk vl vm vn vo vp vq vr vt hA => ?_
  obtain ⟨e1, e2, e3, e4, e5, e6, e7, e8, e9⟩ := ar_at hA
  have q1 : qj op 7 = b1 := by rw [e9, ← h1]
  have q2 : qj op 10 = b2 := by rw [e9, ← h2]
  cases b1 <;> cases b2
  all_goals
    cbv
    repeat (first | (with_reducible apply next_at hA; cbv) | (rw [q1]; cbv) | (rw [q2]; cbv))
    try cbv
    repeat (first | (with_reducible apply next_at hA; cbv) | (rw [q1]; cbv) | (rw [q2]; cbv))
    try simp (maxSteps := 4000000) only [nc] at *
theorem prow_s (op : Int) : Spec 65 [.one (.sc (.int .u8 op))] [.one (.sc (.bool (decide (8 ≤ op))))] := by
  generalize h1 : decide (8 ≤ op) = b1
  refine spec_of Try.func65 rfl (by kernel_rfl) (by kernel_rfl) (by kernel_rfl) fun qa qb qc qd qe qf qg qh qi qj qk ql qm qo qp qs qt qu qv qx qy qz va vc vd ve vf vg vh vj vk vl vm vn vo vp vq vr vt hA => ?_
  cbv
  repeat ((with_reducible apply next_at hA); cbv)
  obtain ⟨e1, e2, e3, e4, e5, e6, e7, e8, e9⟩ := ar_at hA
  have q1 : qi 8 op = b1 := by rw [e8, ← h1]
  cbv
  repeat (first | (with_reducible apply next_at hA; cbv) | (rw [q1]; cbv))
  try cbv
  repeat (first | (with_reducible apply next_at hA; cbv) | (rw [q1]; cbv))
  try simp (maxSteps := 4000000) only [nc] at *
def putC (op : Int) (nm : ByteArray) (a b : Int) (cs : List Cel) : Nat × List Cel := match cs.findIdx? (keyIs op nm a b) with
  | some j => (j, cs)
  | none => (cs.length, cs ++ [⟨op, nm, a, b, 0, 0⟩])
def varC (op n lev : Int) (cs : List Cel) : Nat × List Cel := match cs.findIdx? (numIs n) with
  | some j => (j, cs)
  | none => (cs.length, cs ++ [⟨op, ⟨#[]⟩, -1, -1, n, lev⟩])
def kidC (a : Int) : List Int := if a = -1 then [] else [a]
def kidsC (c : Cel) : List Int := kidC c.a ++ kidC c.b
def PQ (F W : List (R × R)) (N : Int) (C : List (List D)) : List O := [.box [.own 1, .mp 2, .mp 3, vi .i64 N], .row false 108 C, .mp 105 F, .mp 3 W]
theorem PO_eq (cs : List Cel) : PO cs = PQ (fndF 0 cs) (vrsF 0 cs) (nxtF cs) (cs.map cC) := rfl
end Go.Proofs.Ytclehkgnacekkaa.Vm
end
section
namespace Go.Proofs.Ytclehkgnacekkaa.Vm
open Go.RowKit
def plainO : List O → Bool
  | [] => true
  | .box _ :: l => plainO l
  | .row _ _ _ :: l => plainO l
  | .mp _ _ :: l => plainO l
  | _ => false
theorem plainO_at : ∀ {l : List O}, plainO l = true → ∀ {i : Nat} {o : O}, l[i]? = some o → (∃ cs, o = .box cs) ∨ (∃ z e r, o = .row z e r) ∨ ∃ k es, o = .mp k es
  | [], _, i, o, h => by simp at h
  | x :: l, hp, i, o, h => by
    cases x with
    | box cs => cases i with
      | zero => simp at h; exact .inl ⟨cs, h.symm⟩
      | succ i => exact plainO_at (l := l) hp (i := i) (by simpa using h)
    | row z e r => cases i with
      | zero => simp at h; exact .inr (.inl ⟨z, e, r, h.symm⟩)
      | succ i => exact plainO_at (l := l) hp (i := i) (by simpa using h)
    | mp k es => cases i with
      | zero => simp at h; exact .inr (.inr ⟨k, es, h.symm⟩)
      | succ i => exact plainO_at (l := l) hp (i := i) (by simpa using h)
    | _ => cases hp
def selfK (k : Nat) : Option O → V
  | some (.row _ _ _) => .own k
  | _ => .jk
def selfV (os : List O) : List V := (List.range os.length).map fun k => selfK k os[k]?
theorem specs_of_sound {f : Nat} {vs : List V} {os : List O} {Q : List V → Prop} (hos : plainO os = true) (h : SoundO f vs os fun x o' ks => ks = [] ∧ o' = os ∧ ∃ res, x = pkgV res ∧ Q res) : SpecS f vs os (fun res o2 => Q res ∧ o2 = os) := by
  refine ⟨h.1, fun I w g args hrel => ?_⟩
  have hargs : AtVs I w g args vs := hrel.tmp
  have hself : AtVs I w g ((List.range os.length).map fun k => gv (g k)) (selfV os) := by
    refine ⟨by unfold selfV; simp, fun i u c hu hc => ?_⟩
    unfold selfV at hc
    rw [List.getElem?_map] at hu hc
    cases hr : (List.range os.length)[i]? with
    | none => rw [hr] at hu; cases hu
    | some k =>
      rw [hr] at hu hc
      simp only [Option.map_some, Option.some.injEq] at hu hc
      subst hu
      subst hc
      have hk : k < os.length := by
        have := List.mem_of_getElem? hr
        simpa using this
      cases ho : os[k]? with
      | none => exact AtV.jk _
      | some o =>
        cases o with
        | row z e rows =>
          obtain ⟨us, hw, _⟩ := hrel.obj k _ ho
          have e := own_gv hw
          obtain ⟨A, cap, hs⟩ := own_slice hw
          show AtV I w g (gv (g k)) (.own k)
          rw [e, hs]
          exact .own _ _ _ _ (by rw [e, hs])
        | box cs => exact AtV.jk _
        | mp kt es => exact AtV.jk _
        | kl js => exact AtV.jk _
        | it P => exact AtV.jk _
        | dead => exact AtV.jk _
  have hrel' : RelI I (Xof g os) ⟨w, g, os.length, []⟩ I g ⟨vs ++ selfV os, os⟩ { tmps := (args ++ (List.range os.length).map fun k => gv (g k)).toArray, defers := [] } w :=
    ⟨hrel.im, hrel.lt, hrel.fr, hrel.kp, hrel.lo, hrel.st, hrel.obj, hrel.dis, hrel.out, hargs.append hself, rfl⟩
  refine (h.2 I (Xof g os) ⟨w, g, os.length, []⟩ I g _ _ w args hrel' hargs).mono ?_
  rintro e w' ⟨v, x, o', ks, I', g', rfl, h', hv, rfl, rfl, res, rfl, hQ⟩
  obtain ⟨us, rfl, hus⟩ := unpkg hv
  refine ⟨us, res, _, I', g', rfl, ⟨⟨hQ, rfl⟩, fun i hi => ?_⟩, ⟨h'.im, h'.lt, h'.fr, h'.kp, h'.lo, h'.st, h'.obj, h'.dis, h'.out, hus, rfl⟩⟩
  have ho : o'[i]? = some o'[i] := List.getElem?_eq_getElem hi
  rcases plainO_at hos ho with ⟨cs, e⟩ | ⟨z, et, r, e⟩ | ⟨k, es, e⟩
  · rw [e] at ho
    obtain ⟨b, us, t, h1, _⟩ := hrel.obj i _ ho
    exact h'.st i hi (by show isRef (g i) = true; rw [h1]; rfl)
  · rw [e] at ho
    obtain ⟨us1, hw1, _⟩ := hrel.obj i _ ho
    obtain ⟨us2, hw2, _⟩ := h'.obj i _ ho
    have e2 : AtVs I' w' g' (args ++ (List.range o'.length).map fun k => gv (g k)) (vs ++ selfV o') := h'.tmp
    have e3 := e2.2 (args.length + i) (gv (g i)) (.own i) (by rw [List.getElem?_append_right (by omega)]; simp [hi]) (by
      rw [hargs.1, List.getElem?_append_right (by omega)]
      unfold selfV
      simp [hi, e, selfK])
    rw [← own_gv hw1, ← own_gv hw2]
    exact e3.unown.1.symm
  · rw [e] at ho
    obtain ⟨b, us, t, h1, _⟩ := hrel.obj i _ ho
    exact h'.st i hi (by show isRef (g i) = true; rw [h1]; rfl)
def coerV (os : List O) (x : V) : V := match toR os x with | some r => resR r | none => x
def coerL (os : List O) : List V → List V
  | [] => []
  | x :: l => coerV os x :: coerL os l
theorem coer_at {I0 : Nat → Nat → Prop} {X : Nat → Prop} {w0 : W0} {I : Nat → Nat → Prop} {g : Nat → Value} {s : S} {a : Act} {w : World} (h : RelI I0 X w0 I g s a w) : ∀ {us : List Value} {vs : List V}, AtVs I w g us vs → AtVs I w g us (coerL s.o vs)
  | us, [], hv => hv
  | us, x :: vs, hv => by
    obtain ⟨u, us', rfl, h1, h2⟩ := hv.uncons
    refine .cons ?_ (coer_at h h2)
    unfold coerV
    split
    · rename_i r hr
      exact resR_at g (toR_at h h1 hr)
    · exact h1
def doneR (n : Nat) (K : List V → List O → Prop) (res : List V) (s : S) : Prop := match getO (trimK 0 s.o) n with
  | .kl [] => match low3 n (pkgV (coerL s.o res)) with | true => K (coerL s.o res) (takeO n (trimK 0 s.o)) | false => False
  | _ => False
def retR (a : Ar) (n : Nat) (K : List V → List O → Prop) (l : List ResultVar) : Vm.X → S → Prop
  | .exit _, _ => False
  | .normal, s => resO a s l (fun vs => doneR n K vs s)
  | .ret, s => resO a s l (fun vs => doneR n K vs s)
theorem rin_ok {f : Nat} {fn : Func} {c : Code} {vs : List V} {o : List O} {Q : List V → Prop} (ho : plainO o = true) (hf : Try.prog.funcs[f]? = some fn) (hb : fn.body = some c) (hn : (fn.name != "runtime.NumGoroutine") = true) (hc : okCode Try.prog c = true) (hr : okRes fn.results.toList = true)
    (h : exec real c (startI vs o (fn.ntmps - lenL vs)) (fun x s => retR real (lenO o) (fun res o' => o' = o ∧ Q res) fn.results.toList x s)) : SoundO f vs o fun x o' ks => ks = [] ∧ o' = o ∧ ∃ res, x = pkgV res ∧ Q res := by
  refine ⟨by unfold fnOk; rw [hf]; simp only [hn, hb]; rfl, ?_⟩
  intro I0 X w0 I g t a w us hrel hv
  refine calls_of_wp hf hb ?_
  have hsz : us.toArray.size = lenL vs := by rw [lenL_is]; simp [hv.1]
  rw [hsz]
  obtain ⟨g', hg, hgn, h1⟩ := hrel.rebase hv
  have hstart : RelI I (Xof g' (snocO o (.kl []))) ⟨w, g', o.length + 1, []⟩ I g' (startI vs o (fn.ntmps - lenL vs)) { tmps := us.toArray ++ Array.replicate (fn.ntmps - lenL vs) undef, defers := [] } w := by
    refine ⟨h1.im, h1.lt, h1.fr, h1.kp, h1.lo, h1.st, h1.obj, h1.dis, h1.out, ?_, rfl⟩
    show AtVs I w _ (us.toArray ++ Array.replicate (fn.ntmps - lenL vs) undef).toList (appV vs (uns (fn.ntmps - lenL vs)))
    rw [appV_is, Array.toList_append, uns_is]
    refine AtVs.append h1.tmp ?_
    rw [Array.toList_replicate]
    refine ⟨by simp, fun i u c hu hc => ?_⟩
    rw [List.getElem?_replicate] at hu hc
    split at hu
    · rename_i hi
      rw [if_pos hi] at hc
      injection hu with hu
      injection hc with hc
      subst hu; subst hc
      exact .tu [] [] rfl fun i u c hu _ => by simp at hu
    · cases hu
  refine exec_ok c _ _ _ _ _ hc ⟨I, _, hstart⟩ h fun e s' a' w' hrel2 hk => ?_
  have key : resO real s' fn.results.toList (fun res => doneR (lenO o) (fun res o' => o' = o ∧ Q res) res s') → a'.defers = [] ∧ ∃ v, (results fn a'.tmps).run Try.prog w' = .ok v w' ∧ ∃ v' x o' ks I' g', Ending.returned v = .returned v' ∧ RelI I0 X w0 I' g' ⟨killTs ks t, o'⟩ a w' ∧ AtV I' w' g' v' x ∧ ks = [] ∧ o' = o ∧ ∃ res, x = pkgV res ∧ Q res := fun hk => by
    obtain ⟨I2, g2, h2⟩ := hrel2
    obtain ⟨us2, res, r1, r2, r3⟩ := resultsO_at h2 hr hk
    unfold doneR at r3
    split at r3 <;> try exact r3.elim
    rename_i hks
    split at r3 <;> try exact r3.elim
    rename_i hlow
    obtain ⟨r4, hQ⟩ := r3
    have hks' := getO_some hks (by simp)
    rw [lenO_is] at hks' r4 hlow
    rw [takeO_is] at r4
    have h2' := h2.trimKl
    obtain ⟨hcut, h3⟩ := hrel.unbase hg hgn h2' hks'
    have e : ((trimK 0 s'.o).set o.length .dead).take o.length = o := by
      rw [List.take_set_of_le (Nat.le_refl _), r4]
    have h4 := h3.trim (n := o.length) hrel.lo (by show o.length ≤ ((trimK 0 s'.o).set _ _).length; rw [List.length_set, trimK_len]; have := h2.lo; show o.length ≤ s'.o.length; have h5 : o.length + 1 ≤ s'.o.length := h2.lo; omega) hcut (by show lowO _ (((trimK 0 s'.o).set _ _).take _) = true; rw [e]; have := hrel.low; exact this)
    have h5 : (⟨killTs [] t, ((trimK 0 s'.o).set o.length .dead).take o.length⟩ : S) = ⟨t, o⟩ := by rw [e]; rfl
    refine ⟨h2.dfr, _, r1, pkg us2, pkgV (coerL s'.o res), o, [], I2, cutG o.length g2, rfl, ?_, low3_at (fun k hk => if_pos hk) (pkg_at' (coer_at h2 r2)) hlow, rfl, rfl, _, rfl, hQ⟩
    show RelI I0 X w0 I2 _ ⟨t, o⟩ a w'
    rw [← h5]
    exact h4
  cases e with
  | normal => exact key hk
  | exit i => exact hk.elim
  | ret => exact key hk
theorem specr_of {f : Nat} {fn : Func} {c : Code} {vs : List V} {os : List O} {Q : List V → Prop} (hf : Try.prog.funcs[f]? = some fn) (hb : fn.body = some c) (hn : (fn.name != "runtime.NumGoroutine") = true) (hc : okCode Try.prog c = true) (hr : okRes fn.results.toList = true) (hos : plainO os = true)
    (h : ∀ qa qb qc qd qe qf qg qh qi qj qk ql qm qo qp qs qt qu qv qx qy qz va vc vd ve vf vg vh vj vk vl vm vn vo vp vq vr vt, Ar.mk qa qb qc qd qe qf qg qh qi qj qk ql qm qo qp qs qt qu qv qx qy qz va vc vd ve vf vg vh vj vk vl vm vn vo vp vq vr vt = real → ∀ K : List V → List O → Prop, (∀ res, Q res → K res os) → exec (Ar.mk qa qb qc qd qe qf qg qh qi qj qk ql qm qo qp qs qt qu qv qx qy qz va vc vd ve vf vg vh vj vk vl vm vn vo vp vq vr vt) c (startI vs os (fn.ntmps - lenL vs)) (fun x s => retR (Ar.mk qa qb qc qd qe qf qg qh qi qj qk ql qm qo qp qs qt qu qv qx qy qz va vc vd ve vf vg vh vj vk vl vm vn vo vp vq vr vt) (lenO os) K fn.results.toList x s)) : SpecS f vs os (fun res o2 => Q res ∧ o2 = os) :=
  specs_of_sound hos (rin_ok hos hf hb hn hc hr (h _ _ _ _ _ _ _ _ _ _ _ _ _ _ _ _ _ _ _ _ _ _ _ _ _ _ _ _ _ _ _ _ _ _ _ _ _ _ _ (show Ar.mk real.wrap real.add real.sub real.mul real.quo real.rem real.bits real.lt real.le real.eq real.nz real.seq real.slt real.bytes real.cat real.fits real.slen real.sget real.ssub real.nat real.len real.get real.sub2 real.app real.set real.room real.mlook real.mput real.rep real.call real.calld real.callo real.new real.lit real.keep real.next real.ext real.reg real.loop = real from rfl) _ fun res hq => ⟨rfl, hq⟩))
theorem soundq_of {f : Nat} {vs vs' : List V} {os' : List O} {o : List O} {ks : List Nat} {r : List V} (h : SpecS f vs' os' (fun res o2 => res = r ∧ o2 = os')) (hs : SubOk ks vs' os' vs ⟨[], o⟩) (hb : backO ks (upOs ks (lenO o) os') o = o) : SoundQ f vs o (pkgV (upT ks (lenO o) r)) := by
  have h1 := sound_specs h hs
  refine ⟨h1.1, fun I0 X w0 I g t a w us hrel hv => (h1.2 I0 X w0 I g t a w us hrel hv).mono ?_⟩
  rintro e w' ⟨v, x, o', ks', I', g', rfl, h2, h3, rfl, res, os2, ⟨rfl, rfl⟩, rfl, rfl⟩
  rw [hb] at h2
  exact ⟨_, I', g', rfl, h2, h3⟩
section
variable {qa : IntKind → Int → Int} {qb : Int → Int → Int} {qc : Int → Int → Int} {qd : Int → Int → Int} {qe : Int → Int → Int} {qf : Int → Int → Int} {qg : BinOp → IntKind → Int → IntKind → Int → Option Int} {qh : Int → Int → Bool} {qi : Int → Int → Bool} {qj : Int → Int → Bool} {qk : Int → Prop → Prop} {ql : List UInt8 → List UInt8 → Bool} {qm : List UInt8 → List UInt8 → Bool} {qo : ByteArray → List UInt8} {qp : ByteArray → ByteArray → ByteArray} {qs : ByteArray → ByteArray → Prop → Prop} {qt : ByteArray → Int} {qu : ByteArray → Int → Option Int} {qv : ByteArray → Int → Int → Option ByteArray} {qx : Int → Nat → Option Nat} {qy : List (List D) → Int} {qz : List (List D) → Int → Option (List D)} {va : List (List D) → Int → Int → Option (List (List D))} {vc : List (List D) → List (List D) → List (List D)} {vd : List (List D) → Int → List D → List (List D)} {ve : List (List D) → List (List D) → Prop → Prop} {vf : List (R × R) → R → Option R} {vg : List (R × R) → R → R → List (R × R)} {vh : Int → List D → (List (List D) → Prop) → Prop} {vj : Nat → List R → (List R → Prop) → Prop} {vk : Nat → List V → List O → (V → Prop) → Prop} {vl : Nat → List V → S → (V → S → Prop) → Prop} {vm : Nat → (Bool → Prop) → Prop} {vn : Nat → (Bool → Prop) → Prop} {vo : Nat → (List V → List O → Prop) → List V → S → Prop} {vp : (S → Prop) → S → Prop} {vq : Op → Option Nat → S → (S → Prop) → Prop} {vr : Array Oper → S → (S → Prop) → Prop} {vt : Code → (S → (X → S → Prop) → Prop) → S → (X → S → Prop) → Prop}
theorem rd_at (hA : Ar.mk qa qb qc qd qe qf qg qh qi qj qk ql qm qo qp qs qt qu qv qx qy qz va vc vd ve vf vg vh vj vk vl vm vn vo vp vq vr vt = real) {f : Nat} {vs : List V} {s : S} {K : V → S → Prop} (ks : List Nat) {vs' : List V} {os' : List O} {Q : List V → Prop} (h : SpecS f vs' os' (fun res o2 => Q res ∧ o2 = os')) (hs : SubOk ks vs' os' vs s) (hb : backO ks (upOs ks (lenO s.o) os') s.o = s.o) (hK : ∀ res, Q res → K (pkgV (upT ks (lenO s.o) res)) s) : vl f vs s K :=
  calls_at hA ks h hs fun res os2 ⟨hq, e⟩ => by subst e; rw [hb]; exact hK res hq
theorem rdq_at (hA : Ar.mk qa qb qc qd qe qf qg qh qi qj qk ql qm qo qp qs qt qu qv qx qy qz va vc vd ve vf vg vh vj vk vl vm vn vo vp vq vr vt = real) {f : Nat} {vs : List V} {o : List O} {K : V → Prop} (ks : List Nat) {vs' : List V} {os' : List O} {r : List V} (h : SpecS f vs' os' (fun res o2 => res = r ∧ o2 = os')) (hs : SubOk ks vs' os' vs ⟨[], o⟩) (hb : backO ks (upOs ks (lenO o) os') o = o) (hK : K (pkgV (upT ks (lenO o) r))) : vk f vs o K := by
  have e : vk = real.calld := congrArg Ar.calld hA
  rw [e]
  exact ⟨_, soundq_of h hs hb, hK⟩
end
end Go.Proofs.Ytclehkgnacekkaa.Vm
end
section
namespace Go.Proofs.Ytclehkgnacekkaa.Vm
open Go.RowKit
set_option maxRecDepth 100000
set_option maxHeartbeats 4000000
def RdP (f : Nat) (vs : List V) (cs : List Cel) (res : List V) : Prop := SpecS f vs (PO cs) (fun r os => r = res ∧ os = PO cs)
theorem has9_s (r : Int) (cs : List Cel) : RdP 59 [.ptr 0 0, vi .i64 r] cs [vb (decide (0 ≤ r ∧ r < cs.length))] := by
  unfold RdP PO
  have hl : (cs.map cC).length = cs.length := by rw [List.length_map]
  generalize fndF 0 cs = F at *
  generalize vrsF 0 cs = W at *
  generalize nxtF cs = N at *
  generalize cs.map cC = C at *
  generalize hb : decide (0 ≤ r ∧ r < cs.length) = b
  refine specr_of Try.func59 rfl (by kernel_rfl) (by kernel_rfl) (by kernel_rfl) rfl fun qa qb qc qd qe qf qg qh qi qj qk ql qm qo qp qs qt qu qv qx qy qz va vc vd ve vf vg vh vj vk vl vm vn vo vp vq vr vt hA K hK => ?_
  obtain ⟨e1, e2, e3, e4, e5, e6, e7, e8, e9⟩ := ar_at hA
  obtain ⟨r1, r2, r3, r4⟩ := row_at hA
  by_cases h1 : 0 ≤ r
  · have q1 : qi 0 r = true := by rw [e8]; exact decide_eq_true h1
    have q2 : qh r (qy C) = b := by rw [e7, r1, hl, ← hb]; exact decide_eq_decide.2 (by omega)
    cbv
    repeat (first | (with_reducible apply next_at hA; cbv) | (rw [q1]; cbv) | (rw [q2]; cbv))
    try cbv
    repeat (first | (with_reducible apply next_at hA; cbv) | (rw [q1]; cbv) | (rw [q2]; cbv))
    try simp (maxSteps := 4000000) only [nc] at *
    exact hK _ rfl
  · have q1 : qi 0 r = false := by rw [e8]; exact decide_eq_false h1
    obtain rfl : b = false := by rw [← hb]; exact decide_eq_false (by omega)
    cbv
    repeat (first | (with_reducible apply next_at hA; cbv) | (rw [q1]; cbv))
    try cbv
    repeat (first | (with_reducible apply next_at hA; cbv) | (rw [q1]; cbv))
    try simp (maxSteps := 4000000) only [nc] at *
    exact hK _ rfl
theorem cC_get {cs : List Cel} {r : Int} (h0 : 0 ≤ r) (h1 : r < cs.length) : ∃ c, cs[r.toNat]? = some c ∧ (cs.map cC)[r.toNat]? = some [.sc (.int .u8 c.op), .sc (.string c.name), .sc (.int .i64 c.a), .sc (.int .i64 c.b), .sc (.int .i64 c.num), .sc (.int .i64 c.lev), .sc (.int .i64 (-1))] := by
  obtain ⟨c, hc⟩ : ∃ c, cs[r.toNat]? = some c := ⟨_, List.getElem?_eq_getElem (by omega)⟩
  exact ⟨c, hc, rC_get hc⟩
theorem find9_s (r : Int) (cs : List Cel) (h0 : 0 ≤ r) (h1 : r < cs.length) : RdP 72 [.ptr 0 0, vi .i64 r] cs [vi .i64 r] := by
  obtain ⟨c, hc, hC⟩ := cC_get h0 h1
  unfold RdP PO
  generalize fndF 0 cs = F at *
  generalize vrsF 0 cs = W at *
  generalize nxtF cs = N at *
  generalize cs.map cC = C at *
  refine specr_of Try.func72 rfl (by kernel_rfl) (by kernel_rfl) (by kernel_rfl) rfl fun qa qb qc qd qe qf qg qh qi qj qk ql qm qo qp qs qt qu qv qx qy qz va vc vd ve vf vg vh vj vk vl vm vn vo vp vq vr vt hA K hK => ?_
  obtain ⟨r1, r2, r3, r4⟩ := row_at hA
  obtain ⟨e1, e2, e3, e4, e5, e6, e7, e8, e9⟩ := ar_at hA
  have qq : qj (-1) (-1) = true := by rw [e9]; rfl
  have hg : qz C r = some [.sc (.int .u8 c.op), .sc (.string c.name), .sc (.int .i64 c.a), .sc (.int .i64 c.b), .sc (.int .i64 c.num), .sc (.int .i64 c.lev), .sc (.int .i64 (-1))] := by rw [r2, if_pos h0]; exact hC
  generalize c.op = c0 at *
  generalize c.name = c1 at *
  generalize c.a = c2 at *
  generalize c.b = c3 at *
  generalize c.num = c4 at *
  generalize c.lev = c5 at *
  cbv
  repeat ((with_reducible apply next_at hA); cbv)
  refine loop_at hA (γ := Unit) (fun _ => [(5, vi .i64 r)]) (fun _ => []) (fun _ => True) (fun _ => 0) () trivial ?_ ?_
  · cbv
  intro _ _
  cbv
  repeat (first | (with_reducible apply next_at hA; cbv) | (rw [hg]; cbv) | (rw [qq]; cbv))
  try cbv
  repeat (first | (with_reducible apply next_at hA; cbv) | (rw [hg]; cbv) | (rw [qq]; cbv))
  try simp (maxSteps := 4000000) only [nc] at *
  refine loop_at hA (γ := Unit) (fun _ => [(1, vi .i64 r)]) (fun _ => [(1, .row false 108 C)]) (fun _ => True) (fun _ => 0) () trivial ?_ ?_
  · cbv
  intro _ _
  cbv
  repeat (first | (with_reducible apply next_at hA; cbv) | (rw [hg]; cbv) | (rw [qq]; cbv))
  try cbv
  repeat (first | (with_reducible apply next_at hA; cbv) | (rw [hg]; cbv) | (rw [qq]; cbv))
  try simp (maxSteps := 4000000) only [nc] at *
  exact hK _ rfl
theorem at9_s (r : Int) (cs : List Cel) (h0 : 0 ≤ r) (h1 : r < cs.length) : RdP 66 [.ptr 0 0, vi .i64 r] cs [.el 1 r 7 0] := by
  have hfi := find9_s r cs h0 h1
  obtain ⟨c, hc, hC⟩ := cC_get h0 h1
  unfold RdP PO at *
  generalize fndF 0 cs = F at *
  generalize vrsF 0 cs = W at *
  generalize nxtF cs = N at *
  generalize cs.map cC = C at *
  refine specr_of Try.func66 rfl (by kernel_rfl) (by kernel_rfl) (by kernel_rfl) rfl fun qa qb qc qd qe qf qg qh qi qj qk ql qm qo qp qs qt qu qv qx qy qz va vc vd ve vf vg vh vj vk vl vm vn vo vp vq vr vt hA K hK => ?_
  obtain ⟨r1, r2, r3, r4⟩ := row_at hA
  have hg : qz C r = some [.sc (.int .u8 c.op), .sc (.string c.name), .sc (.int .i64 c.a), .sc (.int .i64 c.b), .sc (.int .i64 c.num), .sc (.int .i64 c.lev), .sc (.int .i64 (-1))] := by rw [r2, if_pos h0]; exact hC
  generalize c.op = c0 at *
  generalize c.name = c1 at *
  generalize c.a = c2 at *
  generalize c.b = c3 at *
  generalize c.num = c4 at *
  generalize c.lev = c5 at *
  cbv
  repeat ((with_reducible apply next_at hA); cbv)
  refine rdq_at hA [0, 1, 2, 3] hfi ⟨rfl, rfl, rfl, rfl, rfl, rfl, rfl⟩ rfl ?_
  cbv
  repeat (first | (with_reducible apply next_at hA; cbv) | (rw [hg]; cbv))
  try cbv
  repeat (first | (with_reducible apply next_at hA; cbv) | (rw [hg]; cbv))
  try simp (maxSteps := 4000000) only [nc] at *
  exact hK _ rfl
theorem kids9_s (r : Int) (c : Cel) (C : List (List D)) (h0 : 0 ≤ r) (hC : C[r.toNat]? = some (cC c)) : SpecS 112 [.el 0 r 7 0] [.row false 108 C] (fun res os => res = [.d (.sl 1 (rI (kidsC c)))] ∧ os = [.row false 108 C]) := by
  rw [show cC c = [.sc (.int .u8 c.op), .sc (.string c.name), .sc (.int .i64 c.a), .sc (.int .i64 c.b), .sc (.int .i64 c.num), .sc (.int .i64 c.lev), .sc (.int .i64 (-1))] from rfl] at hC
  unfold kidsC
  generalize c.op = c0 at *
  generalize c.name = c1 at *
  generalize c.a = c2 at *
  generalize c.b = c3 at *
  generalize c.num = c4 at *
  generalize c.lev = c5 at *
  obtain ⟨L1, hL1⟩ : ∃ L1, L1 = rI (kidC c2) := ⟨_, rfl⟩
  obtain ⟨L2, hL2⟩ : ∃ L2, L2 = rI (kidC c2 ++ kidC c3) := ⟨_, rfl⟩
  rw [← hL2]
  refine specr_of Try.func112 rfl (by kernel_rfl) (by kernel_rfl) (by kernel_rfl) rfl fun qa qb qc qd qe qf qg qh qi qj qk ql qm qo qp qs qt qu qv qx qy qz va vc vd ve vf vg vh vj vk vl vm vn vo vp vq vr vt hA K hK => ?_
  obtain ⟨r1, r2, r3, r4⟩ := row_at hA
  obtain ⟨e1, e2, e3, e4, e5, e6, e7, e8, e9⟩ := ar_at hA
  obtain ⟨m1, m2, m3, m4⟩ := map_at hA
  have hg : qz C r = some [.sc (.int .u8 c0), .sc (.string c1), .sc (.int .i64 c2), .sc (.int .i64 c3), .sc (.int .i64 c4), .sc (.int .i64 c5), .sc (.int .i64 (-1))] := by rw [r2, if_pos h0]; exact hC
  have hne : ∀ x : Int, qj x (-1) = decide (x = -1) := fun x => by rw [e9]; rfl
  cbv
  with_reducible apply next_at hA
  cbv
  refine own_at hA 3 46 true rfl ?_
  cbv
  cbv
  repeat (first | (with_reducible apply next_at hA; cbv) | (rw [hg]; cbv))
  try cbv
  repeat (first | (with_reducible apply next_at hA; cbv) | (rw [hg]; cbv))
  try simp (maxSteps := 4000000) only [nc] at *
  refine loop_at hA (γ := Int × List (List D)) (fun x => [(17, vi .i64 x.1), (3, .own 2)]) (fun x => [(1, .kl [2]), (2, .row true 46 x.2)]) (fun x => (x.1 = 0 ∧ x.2 = []) ∨ (x.1 = 1 ∧ x.2 = L1) ∨ (x.1 = 2 ∧ x.2 = L2)) (fun x => 2 - x.1.toNat) (0, []) ?_ ?_ ?_
  · exact .inl ⟨rfl, rfl⟩
  · cbv
  rintro ⟨z, L⟩ hinv
  cbv
  repeat ((with_reducible apply next_at hA); cbv)
  have q0 : qh 0 2 = true := by rw [e7]; rfl
  have q1 : qh 1 2 = true := by rw [e7]; rfl
  have q2 : qh 2 2 = false := by rw [e7]; rfl
  have n0 : qx 0 2 = some 0 := by rw [m3]; rfl
  have n1 : qx 1 2 = some 1 := by rw [m3]; rfl
  have w0 : qa .i64 (qb 0 1) = 1 := by rw [e1, e2]; rfl
  have w1 : qa .i64 (qb 1 1) = 2 := by rw [e1, e2]; rfl
  rcases hinv with ⟨hz, hL⟩ | ⟨hz, hL⟩ | ⟨hz, hL⟩
  all_goals
    replace hz : z = _ := hz
    replace hL : L = _ := hL
    subst hz
    subst hL
  · by_cases hc : c2 = -1
    · have t1 : qj c2 (-1) = true := by rw [hne]; exact decide_eq_true hc
      have hl : L1 = [] := by rw [hL1]; unfold kidC; rw [if_pos hc]; rfl
      cbv
      repeat (first | (with_reducible apply next_at hA; cbv) | (rw [q0]; cbv) | (rw [n0]; cbv) | (rw [t1]; cbv) | (rw [w0]; cbv))
      try cbv
      repeat (first | (with_reducible apply next_at hA; cbv) | (rw [q0]; cbv) | (rw [n0]; cbv) | (rw [t1]; cbv) | (rw [w0]; cbv))
      try simp (maxSteps := 4000000) only [nc] at *
      refine ⟨(1, []), .inr (.inl ⟨rfl, hl.symm⟩), (by show 2 - (1 : Int).toNat < 2 - (0 : Int).toNat; decide), ?_⟩
      cbv
    · have t1 : qj c2 (-1) = false := by rw [hne]; exact decide_eq_false hc
      have hl : L1 = [[.sc (.int .i64 c2)]] := by rw [hL1]; unfold kidC; rw [if_neg hc]; rfl
      cbv
      repeat (first | (with_reducible apply next_at hA; cbv) | (rw [q0]; cbv) | (rw [n0]; cbv) | (rw [t1]; cbv) | (rw [w0]; cbv) | (refine lit_at hA true ?_; cbv) | (refine room_at hA (by simp only [List.length_cons, List.length_nil]; omega) ?_; cbv))
      try cbv
      repeat (first | (with_reducible apply next_at hA; cbv) | (rw [q0]; cbv) | (rw [n0]; cbv) | (rw [t1]; cbv) | (rw [w0]; cbv) | (refine lit_at hA true ?_; cbv) | (refine room_at hA (by simp only [List.length_cons, List.length_nil]; omega) ?_; cbv))
      try simp (maxSteps := 4000000) only [nc] at *
      refine ⟨(1, vc [] [[.sc (.int .i64 c2)]]), .inr (.inl ⟨rfl, by show vc [] _ = L1; rw [r4, hl]; rfl⟩), (by show 2 - (1 : Int).toNat < 2 - (0 : Int).toNat; decide), ?_⟩
      cbv
  · have hLl : L.length ≤ 1 := by rw [hL1, rI_len]; unfold kidC; split <;> simp
    by_cases hc : c3 = -1
    · have t1 : qj c3 (-1) = true := by rw [hne]; exact decide_eq_true hc
      have hl : L2 = L := by rw [hL2, hL1]; unfold kidC; rw [if_pos hc, List.append_nil]
      cbv
      repeat (first | (with_reducible apply next_at hA; cbv) | (rw [q1]; cbv) | (rw [n1]; cbv) | (rw [t1]; cbv) | (rw [w1]; cbv))
      try cbv
      repeat (first | (with_reducible apply next_at hA; cbv) | (rw [q1]; cbv) | (rw [n1]; cbv) | (rw [t1]; cbv) | (rw [w1]; cbv))
      try simp (maxSteps := 4000000) only [nc] at *
      refine ⟨(2, L), .inr (.inr ⟨rfl, hl.symm⟩), (by show 2 - (2 : Int).toNat < 2 - (1 : Int).toNat; decide), ?_⟩
      cbv
    · have t1 : qj c3 (-1) = false := by rw [hne]; exact decide_eq_false hc
      have hl : L2 = L ++ [[.sc (.int .i64 c3)]] := by rw [hL2, hL1]; unfold kidC; rw [if_neg hc]; simp [rI]
      cbv
      repeat (first | (with_reducible apply next_at hA; cbv) | (rw [q1]; cbv) | (rw [n1]; cbv) | (rw [t1]; cbv) | (rw [w1]; cbv) | (refine lit_at hA true ?_; cbv) | (refine room_at hA (by simp only [List.length_cons, List.length_nil]; omega) ?_; cbv))
      try cbv
      repeat (first | (with_reducible apply next_at hA; cbv) | (rw [q1]; cbv) | (rw [n1]; cbv) | (rw [t1]; cbv) | (rw [w1]; cbv) | (refine lit_at hA true ?_; cbv) | (refine room_at hA (by simp only [List.length_cons, List.length_nil]; omega) ?_; cbv))
      try simp (maxSteps := 4000000) only [nc] at *
      refine ⟨(2, vc L [[.sc (.int .i64 c3)]]), .inr (.inr ⟨rfl, by show vc L _ = L2; rw [r4, hl]⟩), (by show 2 - (2 : Int).toNat < 2 - (1 : Int).toNat; decide), ?_⟩
      cbv
  · cbv
    rw [q2]
    cbv
    with_reducible apply next_at hA
    cbv
    refine reado_at hA 2 2 (.sl 1 L) rfl rfl ?_
    cbv
    exact hK _ rfl
end Go.Proofs.Ytclehkgnacekkaa.Vm
end
section
namespace Go.Proofs.Ytclehkgnacekkaa.Vm
def kA : List Int → Int
  | [] => -1
  | a :: _ => a
def kB : List Int → Int
  | _ :: b :: _ => b
  | _ => -1
mutual
def addF (lev : Int) : Ty → List Cel → Nat × List Cel
  | .mk op nm n ks, cs => if vrB op = true then varC op n lev cs else putC op nm (kA (addL lev ks cs).1) (kB (addL lev ks cs).1) (addL lev ks cs).2
def addL (lev : Int) : List Ty → List Cel → List Int × List Cel
  | [], cs => ([], cs)
  | t :: ts, cs => (((addF lev t cs).1 : Int) :: (addL lev ts (addF lev t cs).2).1, (addL lev ts (addF lev t cs).2).2)
end
theorem find_idx {α : Type} (p : α → Bool) : ∀ cs : List α, (cs.findIdx? p = none ∧ cs.find? p = none ∧ ∀ c ∈ cs, p c = false) ∨ ∃ j c, cs.findIdx? p = some j ∧ cs[j]? = some c ∧ cs.find? p = some c ∧ p c = true
  | [] => .inl ⟨rfl, rfl, by simp⟩
  | c :: cs => by
    rw [List.findIdx?_cons, List.find?_cons]
    cases h : p c with
    | true => exact .inr ⟨0, c, rfl, rfl, rfl, h⟩
    | false =>
      rcases find_idx p cs with ⟨h1, h2, h3⟩ | ⟨j, d, h1, h2, h3, h4⟩
      · exact .inl ⟨by simp [h1], h2, fun d hd => by rcases List.mem_cons.1 hd with rfl | hd; exact h; exact h3 d hd⟩
      · exact .inr ⟨j + 1, d, by simp [h1], by simpa using h2, h3, h4⟩
structure Wf (cs : List Cel) : Prop where
  key : ∀ (i j : Nat) (c d : Cel), cs[i]? = some c → cs[j]? = some d → vrB c.op = false → vrB d.op = false → c.op = d.op → c.name = d.name → c.a = d.a → c.b = d.b → i = j
  num : ∀ (i j : Nat) (c d : Cel), cs[i]? = some c → cs[j]? = some d → vrB c.op = true → vrB d.op = true → c.num = d.num → i = j
  leaf : ∀ c ∈ cs, vrB c.op = true → c.name = ⟨#[]⟩ ∧ c.a = -1 ∧ c.b = -1
  nonv : ∀ c ∈ cs, vrB c.op = false → c.num = 0
  low : ∀ c ∈ cs, (c.a = -1 ∨ (0 ≤ c.a ∧ c.a < cs.length)) ∧ (c.b = -1 ∨ (0 ≤ c.b ∧ c.b < cs.length)) ∧ (c.a = -1 → c.b = -1)
theorem wf_nil : Wf [] := ⟨by simp, by simp, by simp, by simp, by simp⟩
mutual
def Is (cs : List Cel) : Ty → Int → Prop
  | .mk op nm n ks, r => ∃ c, 0 ≤ r ∧ cs[r.toNat]? = some c ∧ c.op = op ∧ c.name = nm ∧ c.num = n ∧ IsL cs ks (kidsC c)
def IsL (cs : List Cel) : List Ty → List Int → Prop
  | [], [] => True
  | t :: ts, r :: rs => Is cs t r ∧ IsL cs ts rs
  | [], _ :: _ => False
  | _ :: _, [] => False
end
theorem Is_eq (cs : List Cel) (t : Ty) (r : Int) : Is cs t r ↔ ∃ c, 0 ≤ r ∧ cs[r.toNat]? = some c ∧ c.op = t.op ∧ c.name = t.name ∧ c.num = t.n ∧ IsL cs t.kids (kidsC c) := by
  obtain ⟨op, nm, n, ks⟩ := t
  rw [Is]
  rfl
theorem IsL_fa (cs : List Cel) : ∀ (ts : List Ty) (rs : List Int), IsL cs ts rs ↔ ts.length = rs.length ∧ ∀ (i : Nat) (t : Ty) (r : Int), ts[i]? = some t → rs[i]? = some r → Is cs t r
  | [], [] => by rw [IsL]; simp
  | [], _ :: _ => by rw [IsL]; simp
  | _ :: _, [] => by rw [IsL]; simp
  | t :: ts, r :: rs => by
    rw [IsL, IsL_fa cs ts rs]
    constructor
    · rintro ⟨h1, h2, h3⟩
      refine ⟨by simp [h2], fun i u s hu hs => ?_⟩
      cases i with
      | zero => simp only [List.getElem?_cons_zero, Option.some.injEq] at hu hs; subst hu; subst hs; exact h1
      | succ i => exact h3 i u s (by simpa using hu) (by simpa using hs)
    · rintro ⟨h1, h2⟩
      exact ⟨h2 0 t r rfl rfl, by simpa using h1, fun i u s hu hs => h2 (i + 1) u s (by simpa using hu) (by simpa using hs)⟩
theorem Is.mono {cs : List Cel} (e : List Cel) (t : Ty) : ∀ r, Is cs t r → Is (cs ++ e) t r := by
  induction t using Ty.ind with
  | h t ih =>
    intro r h
    rw [Is_eq] at h ⊢
    obtain ⟨c, h0, h1, h2, h3, h4, h5⟩ := h
    refine ⟨c, h0, ?_, h2, h3, h4, ?_⟩
    · rw [List.getElem?_append_left (List.getElem?_eq_some_iff.1 h1).1]; exact h1
    · rw [IsL_fa] at h5 ⊢
      exact ⟨h5.1, fun i u s hu hs => ih u (List.mem_of_getElem? hu) s (h5.2 i u s hu hs)⟩
theorem get_of_len {α β : Type} {a : List α} {b : List β} (h : a.length = b.length) {i : Nat} {x : α} (hx : a[i]? = some x) : ∃ y, b[i]? = some y := ⟨_, List.getElem?_eq_getElem (h ▸ (List.getElem?_eq_some_iff.1 hx).1)⟩
theorem Is.fn {cs : List Cel} (t : Ty) : ∀ r u, Is cs t r → Is cs u r → t = u := by
  induction t using Ty.ind with
  | h t ih =>
    intro r u h g
    rw [Is_eq] at h g
    obtain ⟨c, h0, h1, h2, h3, h4, h5⟩ := h
    obtain ⟨d, g0, g1, g2, g3, g4, g5⟩ := g
    rw [h1] at g1
    cases g1
    rw [IsL_fa] at h5 g5
    have hk : t.kids = u.kids := by
      refine List.ext_getElem? fun i => ?_
      cases hx : t.kids[i]? with
      | none =>
        have := List.getElem?_eq_none_iff.1 hx
        exact (List.getElem?_eq_none_iff.2 (by omega)).symm
      | some x =>
        obtain ⟨y, hy⟩ := get_of_len (show t.kids.length = u.kids.length by omega) hx
        obtain ⟨s, hs⟩ := get_of_len h5.1 hx
        rw [hy, ih x (List.mem_of_getElem? hx) s y (h5.2 i x s hx hs) (g5.2 i y s hy hs)]
    rw [Ty.eta t, Ty.eta u, hk, ← h2, ← h3, ← h4, g2, g3, g4]
theorem Is.part {cs : List Cel} (t : Ty) : ∀ r, Is cs t r → ∀ x ∈ t.parts, ∃ s, Is cs x s := by
  induction t using Ty.ind with
  | h t ih =>
    intro r h x hx
    rw [parts_kids] at hx
    rcases List.mem_cons.1 hx with rfl | hx
    · exact ⟨r, h⟩
    · rw [Is_eq] at h
      obtain ⟨c, h0, h1, h2, h3, h4, h5⟩ := h
      rw [IsL_fa] at h5
      obtain ⟨k, hk, hxk⟩ := List.mem_flatMap.1 hx
      obtain ⟨i, hi⟩ := List.mem_iff_getElem?.1 hk
      obtain ⟨s, hs⟩ := get_of_len h5.1 hi
      exact ih k hk s (h5.2 i k s hi hs) x hxk
theorem Is.once {cs : List Cel} (hw : Wf cs) {t : Ty} {r : Int} (h : Is cs t r) : onceB t = true := by
  unfold onceB
  rw [List.all_eq_true]
  intro x hx
  rw [List.all_eq_true]
  intro y hy
  obtain ⟨p, hp⟩ := h.part _ _ x hx
  obtain ⟨q, hq⟩ := h.part _ _ y hy
  rw [Is_eq] at hp hq
  obtain ⟨c, h0, h1, h2, h3, h4, h5⟩ := hp
  obtain ⟨d, g0, g1, g2, g3, g4, g5⟩ := hq
  unfold clashB
  cases e : (x.op == 7) && ((y.op == 10) && (x.n == y.n)) with
  | false => rfl
  | true =>
    simp only [Bool.and_eq_true, beq_iff_eq] at e
    have := hw.num _ _ c d h1 g1 (by rw [h2, e.1]; rfl) (by rw [g2, e.2.1]; rfl) (by rw [h4, g4, e.2.2])
    rw [this, g1] at h1
    cases h1
    omega
def hasN (cs : List Cel) (n : Int) : Prop := ∃ c ∈ cs, vrB c.op = true ∧ c.num = n
def OkC (σ : Int → Int) (cs : List Cel) : Prop := ∀ c ∈ cs, vrB c.op = true → c.op = σ c.num
def OkT (σ : Int → Int) (t : Ty) : Prop := ∀ x ∈ t.parts, x.kids.length ≤ 2 ∧ (vrB x.op = true → x.name = ⟨#[]⟩ ∧ x.kids = [] ∧ x.op = σ x.n) ∧ (vrB x.op = false → x.n = 0)
structure Step (σ : Int → Int) (cs cs' : List Cel) (N : Int → Prop) (k : Nat) : Prop where
  wf : Wf cs'
  ok : OkC σ cs'
  ext : ∃ e, cs' = cs ++ e ∧ e.length ≤ k
  nums : ∀ n, hasN cs' n ↔ hasN cs n ∨ N n
theorem Step.refl {σ : Int → Int} {cs : List Cel} (hw : Wf cs) (ho : OkC σ cs) : Step σ cs cs (fun _ => False) 0 := ⟨hw, ho, ⟨[], by simp, Nat.le_refl _⟩, by simp⟩
theorem Step.trans {σ : Int → Int} {a b c : List Cel} {N M : Int → Prop} {k l : Nat} (h : Step σ a b N k) (g : Step σ b c M l) : Step σ a c (fun n => N n ∨ M n) (k + l) := by
  obtain ⟨e, he, hl⟩ := h.ext
  obtain ⟨f, hf, hm⟩ := g.ext
  exact ⟨g.wf, g.ok, ⟨e ++ f, by rw [hf, he, List.append_assoc], by rw [List.length_append]; omega⟩, fun n => by rw [g.nums, h.nums]; exact or_assoc⟩
theorem Step.weak {σ : Int → Int} {a b : List Cel} {N M : Int → Prop} {k l : Nat} (h : Step σ a b N k) (hN : ∀ n, N n ↔ M n) (hk : k ≤ l) : Step σ a b M l := by
  obtain ⟨e, he, hl⟩ := h.ext
  exact ⟨h.wf, h.ok, ⟨e, he, by omega⟩, fun n => by rw [h.nums, hN]⟩
theorem Step.len {σ : Int → Int} {a b : List Cel} {N : Int → Prop} {k : Nat} (h : Step σ a b N k) : a.length ≤ b.length ∧ b.length ≤ a.length + k := by
  obtain ⟨e, he, hl⟩ := h.ext
  rw [he, List.length_append]
  omega
theorem Step.is {σ : Int → Int} {a b : List Cel} {N : Int → Prop} {k : Nat} (h : Step σ a b N k) {t : Ty} {r : Int} (hi : Is a t r) : Is b t r := by
  obtain ⟨e, he, hl⟩ := h.ext
  rw [he]
  exact hi.mono e t r
theorem get_snoc {α : Type} {l : List α} {x y : α} {i : Nat} (h : (l ++ [x])[i]? = some y) : l[i]? = some y ∨ (i = l.length ∧ y = x) := by
  rcases Nat.lt_or_ge i l.length with h1 | h1
  · rw [List.getElem?_append_left h1] at h; exact .inl h
  · rw [List.getElem?_append_right h1] at h
    have : i - l.length = 0 := by
      have := (List.getElem?_eq_some_iff.1 h).1
      simp at this
      omega
    rw [this] at h
    simp at h
    exact .inr ⟨by omega, h.symm⟩
theorem wf_snoc {cs : List Cel} (hw : Wf cs) (c : Cel) (hk : vrB c.op = false → ∀ d ∈ cs, keyIs c.op c.name c.a c.b d = false) (hn : vrB c.op = true → ∀ d ∈ cs, numIs c.num d = false) (hl : vrB c.op = true → c.name = ⟨#[]⟩ ∧ c.a = -1 ∧ c.b = -1) (hz : vrB c.op = false → c.num = 0)
    (hlo : (c.a = -1 ∨ (0 ≤ c.a ∧ c.a < cs.length)) ∧ (c.b = -1 ∨ (0 ≤ c.b ∧ c.b < cs.length)) ∧ (c.a = -1 → c.b = -1)) : Wf (cs ++ [c]) := by
  have hK : ∀ d ∈ cs, vrB c.op = false → vrB d.op = false → c.op = d.op → c.name = d.name → c.a = d.a → c.b = d.b → False := fun d hd h1 h2 h3 h4 h5 h6 => by
    have := hk h1 d hd
    unfold keyIs at this
    simp [h2, ← h3, ← h4, ← h5, ← h6, h1] at this
  have hM : ∀ d ∈ cs, vrB c.op = true → vrB d.op = true → c.num = d.num → False := fun d hd h1 h2 h3 => by
    have := hn h1 d hd
    unfold numIs at this
    simp [h2, ← h3] at this
  refine ⟨fun i j x y hx hy h1 h2 h3 h4 h5 h6 => ?_, fun i j x y hx hy h1 h2 h3 => ?_, fun d hd => ?_, fun d hd => ?_, fun d hd => ?_⟩
  · rcases get_snoc hx with hx2 | ⟨hi, ex⟩ <;> rcases get_snoc hy with hy2 | ⟨hj, ey⟩
    · exact hw.key i j x y hx2 hy2 h1 h2 h3 h4 h5 h6
    · subst ey; exact (hK x (List.mem_of_getElem? hx2) h2 h1 h3.symm h4.symm h5.symm h6.symm).elim
    · subst ex; exact (hK y (List.mem_of_getElem? hy2) h1 h2 h3 h4 h5 h6).elim
    · omega
  · rcases get_snoc hx with hx2 | ⟨hi, ex⟩ <;> rcases get_snoc hy with hy2 | ⟨hj, ey⟩
    · exact hw.num i j x y hx2 hy2 h1 h2 h3
    · subst ey; exact (hM x (List.mem_of_getElem? hx2) h2 h1 h3.symm).elim
    · subst ex; exact (hM y (List.mem_of_getElem? hy2) h1 h2 h3).elim
    · omega
  · rcases List.mem_append.1 hd with hd | hd
    · exact hw.leaf d hd
    · simp only [List.mem_singleton] at hd; subst hd; exact hl
  · rcases List.mem_append.1 hd with hd | hd
    · exact hw.nonv d hd
    · simp only [List.mem_singleton] at hd; subst hd; exact hz
  · rw [List.length_append, List.length_singleton]
    rcases List.mem_append.1 hd with hd | hd
    · have := hw.low d hd
      refine ⟨?_, ?_, this.2.2⟩ <;> omega
    · simp only [List.mem_singleton] at hd
      subst hd
      refine ⟨?_, ?_, hlo.2.2⟩ <;> omega
theorem put_step {σ : Int → Int} {cs : List Cel} (hw : Wf cs) (ho : OkC σ cs) (op : Int) (nm : ByteArray) (a b : Int) (hop : vrB op = false) (hlo : (a = -1 ∨ (0 ≤ a ∧ a < cs.length)) ∧ (b = -1 ∨ (0 ≤ b ∧ b < cs.length)) ∧ (a = -1 → b = -1)) :
    Step σ cs (putC op nm a b cs).2 (fun _ => False) 1 ∧ ∃ c, (putC op nm a b cs).2[(putC op nm a b cs).1]? = some c ∧ c.op = op ∧ c.name = nm ∧ c.a = a ∧ c.b = b ∧ c.num = 0 := by
  unfold putC
  rcases find_idx (keyIs op nm a b) cs with ⟨h1, h2, h3⟩ | ⟨j, c, h1, h2, h3, h4⟩
  · rw [h1]
    refine ⟨⟨wf_snoc hw _ (fun _ => h3) (fun h => absurd h (by simp [hop])) (fun h => absurd h (by simp [hop])) (fun _ => rfl) hlo, fun c hc hv => ?_, ⟨_, rfl, Nat.le_refl _⟩, fun n => ?_⟩, _, List.getElem?_concat_length, rfl, rfl, rfl, rfl, rfl⟩
    · rcases List.mem_append.1 hc with hc | hc
      · exact ho c hc hv
      · simp only [List.mem_singleton] at hc; subst hc; simp [hop] at hv
    · unfold hasN
      constructor
      · rintro ⟨c, hc, hv, he⟩
        rcases List.mem_append.1 hc with hc | hc
        · exact .inl ⟨c, hc, hv, he⟩
        · simp only [List.mem_singleton] at hc; subst hc; simp [hop] at hv
      · rintro (⟨c, hc, hv, he⟩ | h)
        · exact ⟨c, List.mem_append_left _ hc, hv, he⟩
        · exact h.elim
  · rw [h1]
    have hk := h4
    unfold keyIs at hk
    simp only [Bool.and_eq_true, beq_iff_eq, decide_eq_true_eq, Bool.not_eq_true'] at hk
    exact ⟨(Step.refl hw ho).weak (fun _ => Iff.rfl) (by omega), c, h2, hk.1.1.1.2, hk.1.1.2, hk.1.2, hk.2, hw.nonv c (List.mem_of_getElem? h2) hk.1.1.1.1⟩
theorem var_step {σ : Int → Int} {cs : List Cel} (hw : Wf cs) (ho : OkC σ cs) (op n lev : Int) (hop : vrB op = true) (hs : op = σ n) :
    Step σ cs (varC op n lev cs).2 (fun m => m = n) 1 ∧ ∃ c, (varC op n lev cs).2[(varC op n lev cs).1]? = some c ∧ c.op = op ∧ c.name = ⟨#[]⟩ ∧ c.a = -1 ∧ c.b = -1 ∧ c.num = n := by
  unfold varC
  rcases find_idx (numIs n) cs with ⟨h1, h2, h3⟩ | ⟨j, c, h1, h2, h3, h4⟩
  · rw [h1]
    refine ⟨⟨wf_snoc hw _ (fun h => absurd h (by simp [hop])) (fun _ => h3) (fun _ => ⟨rfl, rfl, rfl⟩) (fun h => absurd h (by simp [hop])) ⟨.inl rfl, .inl rfl, fun _ => rfl⟩, fun c hc hv => ?_, ⟨_, rfl, Nat.le_refl _⟩, fun m => ?_⟩, _, List.getElem?_concat_length, rfl, rfl, rfl, rfl, rfl⟩
    · rcases List.mem_append.1 hc with hc | hc
      · exact ho c hc hv
      · simp only [List.mem_singleton] at hc; subst hc; exact hs
    · unfold hasN
      constructor
      · rintro ⟨c, hc, hv, he⟩
        rcases List.mem_append.1 hc with hc | hc
        · exact .inl ⟨c, hc, hv, he⟩
        · simp only [List.mem_singleton] at hc; subst hc; exact .inr he.symm
      · rintro (⟨c, hc, hv, he⟩ | h)
        · exact ⟨c, List.mem_append_left _ hc, hv, he⟩
        · exact ⟨_, List.mem_append_right _ (List.mem_singleton.2 rfl), hop, h.symm⟩
  · rw [h1]
    have hk := h4
    unfold numIs at hk
    simp only [Bool.and_eq_true, beq_iff_eq] at hk
    have hm := List.mem_of_getElem? h2
    have hle := hw.leaf c hm hk.1
    have h0 := Step.refl hw ho
    refine ⟨⟨hw, ho, ⟨[], by simp, by simp⟩, fun m => ⟨.inl, ?_⟩⟩, c, h2, by rw [ho c hm hk.1, hk.2, ← hs], hle.1, hle.2.1, hle.2.2, hk.2⟩
    rintro (h | h)
    · exact h
    · exact ⟨c, hm, hk.1, by rw [hk.2, h]⟩
def hasT (t : Ty) (n : Int) : Prop := ∃ x ∈ t.parts, vrB x.op = true ∧ x.n = n
theorem OkT.kid {σ : Int → Int} {t x : Ty} (h : OkT σ t) (hx : x ∈ t.kids) : OkT σ x := fun y hy => h y (by rw [parts_kids]; exact List.mem_cons_of_mem _ (List.mem_flatMap.2 ⟨x, hx, hy⟩))
theorem OkT.self {σ : Int → Int} {t : Ty} (h : OkT σ t) : t.kids.length ≤ 2 ∧ (vrB t.op = true → t.name = ⟨#[]⟩ ∧ t.kids = [] ∧ t.op = σ t.n) ∧ (vrB t.op = false → t.n = 0) := h t (by rw [parts_eq]; exact List.mem_cons_self ..)
theorem addL_step {σ : Int → Int} (lev : Int) : ∀ (ts : List Ty), (∀ t ∈ ts, ∀ cs, Wf cs → OkC σ cs → Step σ cs (addF lev t cs).2 (hasT t) t.parts.length ∧ Is (addF lev t cs).2 t (addF lev t cs).1) →
    ∀ cs, Wf cs → OkC σ cs → Step σ cs (addL lev ts cs).2 (fun n => ∃ t ∈ ts, hasT t n) (ts.flatMap Ty.parts).length ∧ IsL (addL lev ts cs).2 ts (addL lev ts cs).1
  | [], _, cs, hw, ho => by
    rw [addL, IsL]
    exact ⟨(Step.refl hw ho).weak (fun n => by simp) (by simp), trivial⟩
  | t :: ts, h, cs, hw, ho => by
    rw [addL]
    have h1 := h t (List.mem_cons_self ..) cs hw ho
    have h2 := addL_step lev ts (fun u hu => h u (List.mem_cons_of_mem _ hu)) (addF lev t cs).2 h1.1.wf h1.1.ok
    refine ⟨(h1.1.trans h2.1).weak (fun n => by simp) (by simp), ?_⟩
    rw [IsL]
    exact ⟨h2.1.is h1.2, h2.2⟩
theorem kidC_lo {a : Int} {n : Nat} (h : 0 ≤ a ∧ a < n) : kidC a = [a] := by unfold kidC; rw [if_neg (by omega)]
theorem Is.lt {cs : List Cel} {t : Ty} {r : Int} (h : Is cs t r) : 0 ≤ r ∧ r < cs.length := by
  rw [Is_eq] at h
  obtain ⟨c, h0, h1, -⟩ := h
  have := (List.getElem?_eq_some_iff.1 h1).1
  omega
theorem put_kids {cs : List Cel} {ts : List Ty} {rs : List Int} (h : IsL cs ts rs) (h2 : ts.length ≤ 2) : ((kA rs = -1 ∨ (0 ≤ kA rs ∧ kA rs < cs.length)) ∧ (kB rs = -1 ∨ (0 ≤ kB rs ∧ kB rs < cs.length)) ∧ (kA rs = -1 → kB rs = -1)) ∧ kidC (kA rs) ++ kidC (kB rs) = rs := by
  match ts, rs with
  | [], [] => exact ⟨⟨.inl rfl, .inl rfl, fun _ => rfl⟩, rfl⟩
  | [t], [r] =>
    rw [IsL] at h
    have h1 := h.1.lt
    exact ⟨⟨.inr h1, .inl rfl, fun _ => rfl⟩, by rw [show kA [r] = r from rfl, kidC_lo h1]; rfl⟩
  | [t, u], [r, s] =>
    rw [IsL, IsL] at h
    have h1 := h.1.lt
    have h3 := h.2.1.lt
    exact ⟨⟨.inr h1, .inr h3, fun e => by change r = -1 at e; omega⟩, by rw [show kA [r, s] = r from rfl, show kB [r, s] = s from rfl, kidC_lo h1, kidC_lo h3]; rfl⟩
  | [], _ :: _ => rw [IsL] at h; exact h.elim
  | _ :: _, [] => rw [IsL] at h; exact h.elim
  | [_], _ :: _ :: _ => rw [IsL, IsL] at h; exact h.2.elim
  | _ :: _ :: _, [_] => rw [IsL, IsL] at h; exact h.2.elim
  | [_, _], _ :: _ :: _ :: _ => rw [IsL, IsL, IsL] at h; exact h.2.2.elim
  | _ :: _ :: _ :: _, _ :: _ :: _ => simp at h2
theorem addF_eq (lev : Int) (t : Ty) (cs : List Cel) : addF lev t cs = if vrB t.op = true then varC t.op t.n lev cs else putC t.op t.name (kA (addL lev t.kids cs).1) (kB (addL lev t.kids cs).1) (addL lev t.kids cs).2 := by
  obtain ⟨op, nm, n, ks⟩ := t
  rw [addF]
  rfl
theorem add_step {σ : Int → Int} (lev : Int) (t : Ty) : OkT σ t → ∀ cs, Wf cs → OkC σ cs → Step σ cs (addF lev t cs).2 (hasT t) t.parts.length ∧ Is (addF lev t cs).2 t (addF lev t cs).1 := by
  induction t using Ty.ind with
  | h t ih =>
    intro hT cs hw ho
    rw [addF_eq]
    obtain ⟨hl, hv, hnv⟩ := hT.self
    have hpl : t.parts.length = 1 + (t.kids.flatMap Ty.parts).length := by rw [parts_kids, List.length_cons]; omega
    cases hop : vrB t.op with
    | true =>
      rw [if_pos rfl]
      obtain ⟨hnm, hk, hs⟩ := hv hop
      obtain ⟨h1, c, h2, h3, h4, h5, h6, h7⟩ := var_step hw ho t.op t.n lev hop hs
      refine ⟨h1.weak (fun n => ?_) (by omega), ?_⟩
      · unfold hasT
        rw [parts_kids, hk]
        simp only [List.flatMap_nil, List.mem_singleton]
        exact ⟨fun h => ⟨t, rfl, hop, h.symm⟩, fun ⟨x, hx, _, h⟩ => by rw [← h, hx]⟩
      · rw [Is_eq]
        refine ⟨c, Int.natCast_nonneg _, by rw [Int.toNat_natCast]; exact h2, h3, by rw [h4, hnm], h7, ?_⟩
        rw [hk, show kidsC c = [] by unfold kidsC kidC; rw [if_pos h5, if_pos h6]; rfl, IsL]
        trivial
    | false =>
      rw [if_neg (by simp)]
      obtain ⟨g1, g2⟩ := addL_step (σ := σ) lev t.kids (fun x hx cs hw ho => ih x hx (hT.kid hx) cs hw ho) cs hw ho
      obtain ⟨k1, k2⟩ := put_kids g2 hl
      generalize addL lev t.kids cs = R at *
      obtain ⟨h1, c, h2, h3, h4, h5, h6, h7⟩ := put_step g1.wf g1.ok t.op t.name (kA R.1) (kB R.1) hop k1
      refine ⟨(g1.trans h1).weak (fun n => ?_) (by omega), ?_⟩
      · unfold hasT
        constructor
        · rintro (⟨k, hk, x, hx, hv, he⟩ | h)
          · exact ⟨x, by rw [parts_kids]; exact List.mem_cons_of_mem _ (List.mem_flatMap.2 ⟨k, hk, hx⟩), hv, he⟩
          · exact h.elim
        · rintro ⟨x, hx, hvx, he⟩
          rw [parts_kids] at hx
          rcases List.mem_cons.1 hx with e | hx
          · rw [e, hop] at hvx; cases hvx
          · obtain ⟨k, hk, hx⟩ := List.mem_flatMap.1 hx
            exact .inl ⟨k, hk, x, hx, hvx, he⟩
      · rw [Is_eq]
        refine ⟨c, Int.natCast_nonneg _, by rw [Int.toNat_natCast]; exact h2, h3, h4, by rw [h7, hnv hop], ?_⟩
        rw [show kidsC c = R.1 by unfold kidsC; rw [h5, h6]; exact k2]
        rw [IsL_fa] at g2 ⊢
        exact ⟨g2.1, fun i u s hu hs => h1.is (g2.2 i u s hu hs)⟩
end Go.Proofs.Ytclehkgnacekkaa.Vm
end
section
namespace Go.Proofs.Ytclehkgnacekkaa.Vm
open Go.RowKit
set_option maxRecDepth 100000
set_option maxHeartbeats 4000000
theorem tree9_s (cs : List Cel) (t : Ty) : ∀ r : Int, Is cs t r → t.parts.length ≤ 1048576 → RdP 60 [.ptr 0 0, vi .i64 r] cs [.ag (ofD (cT t))] := by
  induction t using Ty.ind with
  | h t ih =>
    intro r hi hN
    have hkl := kids_le t
    have hlt0 := hi.lt
    have hat := at9_s r cs hlt0.1 hlt0.2
    rw [Is_eq] at hi
    obtain ⟨c, h0, hc, h2, h3, h4, h5⟩ := hi
    rw [IsL_fa] at h5
    obtain ⟨op, nm, n, ks⟩ := t
    simp only [Ty.kids, Ty.op, Ty.name, Ty.n] at *
    have hkd := kids9_s r c (cs.map cC) h0 (rC_get hc)
    have hih : ∀ (k : Nat) (x : Ty) (z : Int), ks[k]? = some x → (kidsC c)[k]? = some z → RdP 60 [.ptr 0 0, vi .i64 z] cs [.ag (ofD (cT x))] := fun k x z hx hz => ih x (List.mem_of_getElem? hx) z (h5.2 k x z hx hz) (by have := hkl.2 x (List.mem_of_getElem? hx); omega)
    have hC := rC_get hc
    rw [show cC c = [.sc (.int .u8 c.op), .sc (.string c.name), .sc (.int .i64 c.a), .sc (.int .i64 c.b), .sc (.int .i64 c.num), .sc (.int .i64 c.lev), .sc (.int .i64 (-1))] from rfl, h2, h3, h4] at hC
    generalize hkc : kidsC c = kc at *
    have hlen := h5.1
    clear ih h5 h2 h3 h4 hc
    generalize c.a = c2 at *
    generalize c.b = c3 at *
    generalize c.lev = c5 at *
    clear hkc
    rw [cT]
    obtain ⟨Q, hQ⟩ : ∃ Q, Q = rT ks := ⟨_, rfl⟩
    obtain ⟨L, hL⟩ : ∃ L, L = rI kc := ⟨_, rfl⟩
    rw [← hQ]
    rw [← hL] at hkd
    unfold RdP at *
    rw [PO_eq] at *
    generalize fndF 0 cs = F at *
    generalize vrsF 0 cs = W at *
    generalize nxtF cs = N at *
    generalize cs.map cC = C at *
    unfold PQ at *
    refine specr_of Try.func60 rfl (by kernel_rfl) (by kernel_rfl) (by kernel_rfl) rfl fun qa qb qc qd qe qf qg qh qi qj qk ql qm qo qp qs qt qu qv qx qy qz va vc vd ve vf vg vh vj vk vl vm vn vo vp vq vr vt hA K hK => ?_
    obtain ⟨e1, e2, e3, e4, e5, e6, e7, e8, e9⟩ := ar_at hA
    obtain ⟨r1, r2, r3, r4⟩ := row_at hA
    have hg : qz C r = some [.sc (.int .u8 op), .sc (.string nm), .sc (.int .i64 c2), .sc (.int .i64 c3), .sc (.int .i64 n), .sc (.int .i64 c5), .sc (.int .i64 (-1))] := by rw [r2, if_pos h0]; exact hC
    cbv
    repeat ((with_reducible apply next_at hA); cbv)
    refine rd_at hA [0, 1, 2, 3] hat ⟨rfl, rfl, rfl, rfl, rfl, rfl, rfl⟩ rfl ?_
    rintro _ rfl
    cbv
    repeat (first | (with_reducible apply next_at hA; cbv) | (rw [hg]; cbv))
    try cbv
    repeat (first | (with_reducible apply next_at hA; cbv) | (rw [hg]; cbv))
    try simp (maxSteps := 4000000) only [nc] at *
    refine rd_at hA [1] hkd ⟨rfl, rfl, rfl, rfl, rfl, rfl, rfl⟩ rfl ?_
    rintro _ rfl
    cbv
    repeat (first | (refine ownbox_at hA 6 3 25 true rfl rfl ?_; cbv) | (with_reducible apply next_at hA; cbv))
    refine loop_at hA (γ := Int × List (List D)) (fun x => [(30, vi .i64 x.1)]) (fun x => [(4, .kl [7]), (7, .row true 25 x.2)]) (fun x => ∃ k : Nat, x.1 = (k : Int) ∧ k ≤ ks.length ∧ x.2 = rT (ks.take k)) (fun x => ks.length - x.1.toNat) (0, []) ?_ ?_ ?_
    · exact ⟨0, rfl, Nat.zero_le _, rfl⟩
    · cbv
    · rintro ⟨z, M⟩ hinv
      cbv
      repeat ((with_reducible apply next_at hA); cbv)
      try simp (maxSteps := 4000000) only [nc] at *
      obtain ⟨k, hz, hk, hM⟩ := hinv
      replace hz : z = (k : Int) := hz
      replace hM : M = rT (ks.take k) := hM
      have hlt : qh z (qy L) = decide (k < ks.length) := by rw [e7, r1, hL, rI_len, ← hlen, hz]; exact decide_eq_decide.2 (by omega)
      by_cases h9 : k < ks.length
      · rw [decide_eq_true h9] at hlt
        obtain ⟨x, hx⟩ : ∃ x, ks[k]? = some x := ⟨_, List.getElem?_eq_getElem h9⟩
        obtain ⟨y, hy⟩ : ∃ y, kc[k]? = some y := get_of_len hlen hx
        have hspx := hih k x y hx hy
        have hsn := rT_snoc hx
        have gx : qz L z = some [.sc (.int .i64 y)] := by rw [r2, hz, if_pos (by omega), hL, show ((k : Int)).toNat = k by omega, rI_get hy]
        obtain ⟨v0, v1, v2, v3, hvv⟩ := cT_four x
        rw [hvv] at hsn hspx
        have hz1 : qa .i64 (qb z 1) = ((k + 1 : Nat) : Int) := by rw [e1, e2, hz, IntWalk.i64_in _ (by omega)]; omega
        have hmu : ks.length - (qa .i64 (qb z 1)).toNat < ks.length - z.toNat := by rw [hz1, hz]; omega
        have hnew : vc M [[v0, v1, v2, v3]] = rT (ks.take (k + 1)) := by rw [r4, hsn, hM]
        have hMl : M.length ≤ 1048576 := by rw [hM, rT_len, List.length_take]; omega
        rw [hlt]
        cbv
        repeat (first | (with_reducible apply next_at hA; cbv) | (rw [gx]; cbv) | (refine rdq_at hA [0, 1, 2, 3] hspx ⟨rfl, rfl, rfl, rfl, rfl, rfl, rfl⟩ rfl ?_; cbv) | (refine rd_at hA [0, 1, 2, 3] hspx ⟨rfl, rfl, rfl, rfl, rfl, rfl, rfl⟩ rfl ?_; rintro _ rfl; cbv) | (refine lit_at hA true ?_; cbv) | (refine room_at hA (by simp only [List.length_cons, List.length_nil]; omega) ?_; cbv))
        try cbv
        repeat (first | (with_reducible apply next_at hA; cbv) | (rw [gx]; cbv) | (refine rdq_at hA [0, 1, 2, 3] hspx ⟨rfl, rfl, rfl, rfl, rfl, rfl, rfl⟩ rfl ?_; cbv) | (refine rd_at hA [0, 1, 2, 3] hspx ⟨rfl, rfl, rfl, rfl, rfl, rfl, rfl⟩ rfl ?_; rintro _ rfl; cbv) | (refine lit_at hA true ?_; cbv) | (refine room_at hA (by simp only [List.length_cons, List.length_nil]; omega) ?_; cbv))
        try simp (maxSteps := 4000000) only [nc] at *
        refine ⟨(qa .i64 (qb z 1), vc M [[v0, v1, v2, v3]]), ⟨k + 1, hz1, h9, hnew⟩, hmu, ?_⟩
        cbv
      · rw [decide_eq_false h9] at hlt
        have hM2 : M = Q := by rw [hM, hQ, List.take_of_length_le (by omega)]
        rw [hlt]
        cbv
        repeat ((with_reducible apply next_at hA); cbv)
        rw [hM2]
        exact hK _ rfl
end Go.Proofs.Ytclehkgnacekkaa.Vm
end
section
namespace Go.Proofs.Ytclehkgnacekkaa.Vm
open Go.RowKit
set_option maxRecDepth 100000
set_option maxHeartbeats 4000000
theorem put9_s (op : Int) (nm : ByteArray) (a b : Int) (hop : vrB op = false) (cs : List Cel) (hN : cs.length < 1048576) :
    SpecO 67 [.ptr 0 0, .ag [vi .u8 op, vs nm, vi .i64 a, vi .i64 b]] (PO cs) (fun res os => res = [vi .i64 ((putC op nm a b cs).1 : Nat)] ∧ os = PO (putC op nm a b cs).2) := by
  have hg := fnd_get op nm a b cs 0
  unfold putC
  cases hf : cs.findIdx? (keyIs op nm a b) with
  | some j =>
    rw [hf] at hg
    simp only [Option.map_some, Nat.zero_add] at hg
    simp only
    unfold PO
    generalize fndF 0 cs = F at *
    generalize vrsF 0 cs = W at *
    generalize nxtF cs = N at *
    generalize cs.map cC = C at *
    unfold ik kR at hg
    obtain ⟨z, hz⟩ : ∃ z, z = ((j : Nat) : Int) := ⟨_, rfl⟩
    rw [← hz] at hg ⊢
    refine speco_of Try.func67 rfl (by kernel_rfl) (by kernel_rfl) (by kernel_rfl) fun qa qb qc qd qe qf qg qh qi qj qk ql qm qo qp qs qt qu qv qx qy qz va vc vd ve vf vg vh vj vk vl vm vn vo vp vq vr vt hA => ?_
    obtain ⟨m1, m2, -⟩ := map_at hA
    rw [← m1] at hg
    cbv
    repeat (first | (with_reducible apply next_at hA; cbv) | (rw [hg]; cbv))
    try cbv
    repeat (first | (with_reducible apply next_at hA; cbv) | (rw [hg]; cbv))
    try simp (maxSteps := 4000000) only [nc] at *
    exact keep_is hA [0, 1, 2, 3] ⟨rfl, rfl, rfl, rfl, rfl, rfl, rfl, rfl⟩ ⟨rfl, rfl⟩
  | none =>
    rw [hf] at hg
    simp only [Option.map_none] at hg
    have hset := mset_new (kR op nm a b) (ik ((cs.length : Nat) : Int)) (fndF 0 cs) hg
    have hs1 := fndF_snoc ⟨op, nm, a, b, 0, 0⟩ cs 0
    have hs2 := vrsF_snoc ⟨op, nm, a, b, 0, 0⟩ cs 0
    have hs3 := nxtF_snoc ⟨op, nm, a, b, 0, 0⟩ cs
    simp only [hop, Bool.false_eq_true, if_false, Nat.zero_add, List.append_nil] at hs1 hs2 hs3
    rw [← hs1] at hset
    simp only
    unfold PO
    rw [hs2, hs3, List.map_append]
    show SpecO _ _ _ (fun res os => res = [vi .i64 (cs.length : Nat)] ∧ os = [.box [.own 1, .mp 2, .mp 3, vi .i64 (nxtF cs)], .row false 108 (cs.map cC ++ [[.sc (.int .u8 op), .sc (.string nm), .sc (.int .i64 a), .sc (.int .i64 b), .sc (.int .i64 0), .sc (.int .i64 0), .sc (.int .i64 (-1))]]), _, _])
    have hl : (cs.map cC).length = cs.length := by rw [List.length_map]
    generalize fndF 0 (cs ++ _) = F2 at *
    generalize fndF 0 cs = F at *
    generalize vrsF 0 cs = W at *
    generalize nxtF cs = N at *
    generalize cs.map cC = C at *
    unfold ik kR at hset
    unfold kR at hg
    obtain ⟨z, hz⟩ : ∃ z, z = ((cs.length : Nat) : Int) := ⟨_, rfl⟩
    rw [← hz] at hset ⊢
    refine speco_of Try.func67 rfl (by kernel_rfl) (by kernel_rfl) (by kernel_rfl) fun qa qb qc qd qe qf qg qh qi qj qk ql qm qo qp qs qt qu qv qx qy qz va vc vd ve vf vg vh vj vk vl vm vn vo vp vq vr vt hA => ?_
    obtain ⟨m1, m2, -⟩ := map_at hA
    obtain ⟨r1, r2, r3, r4⟩ := row_at hA
    rw [← m1] at hg
    rw [← m2] at hset
    have hlen : qy C = z := by rw [r1, hl, hz]
    cbv
    repeat (first | (with_reducible apply next_at hA; cbv) | (rw [hg]; cbv) | (rw [hlen]; cbv) | (rw [hset]; cbv) | (refine room_at hA (by simp only [List.length_cons, List.length_nil]; omega) ?_; cbv))
    try cbv
    repeat (first | (with_reducible apply next_at hA; cbv) | (rw [hg]; cbv) | (rw [hlen]; cbv) | (rw [hset]; cbv) | (refine room_at hA (by simp only [List.length_cons, List.length_nil]; omega) ?_; cbv))
    try simp (maxSteps := 4000000) only [nc] at *
    cbv
    cbv
    repeat (first | (with_reducible apply next_at hA; cbv) | (rw [hg]; cbv) | (rw [hlen]; cbv) | (rw [hset]; cbv) | (refine room_at hA (by simp only [List.length_cons, List.length_nil]; omega) ?_; cbv))
    try cbv
    repeat (first | (with_reducible apply next_at hA; cbv) | (rw [hg]; cbv) | (rw [hlen]; cbv) | (rw [hset]; cbv) | (refine room_at hA (by simp only [List.length_cons, List.length_nil]; omega) ?_; cbv))
    try simp (maxSteps := 4000000) only [nc] at *
    rw [r4]
    exact keep_is hA [0, 1, 2, 3] ⟨rfl, rfl, rfl, rfl, rfl, rfl, rfl, rfl⟩ ⟨rfl, rfl⟩
theorem variable9_s (op n lev : Int) (hop : vrB op = true) (cs : List Cel) (hN : cs.length < 1048576) :
    SpecO 77 [.ptr 0 0, vi .u8 op, vi .i64 n, vi .i64 lev] (PO cs) (fun res os => res = [vi .i64 ((varC op n lev cs).1 : Nat)] ∧ os = PO (varC op n lev cs).2) := by
  have hg := vrs_get n cs 0
  unfold varC
  cases hf : cs.findIdx? (numIs n) with
  | some j =>
    rw [hf] at hg
    simp only [Option.map_some, Nat.zero_add] at hg
    simp only
    unfold PO
    generalize fndF 0 cs = F at *
    generalize vrsF 0 cs = W at *
    generalize nxtF cs = N at *
    generalize cs.map cC = C at *
    unfold ik at hg
    obtain ⟨z, hz⟩ : ∃ z, z = ((j : Nat) : Int) := ⟨_, rfl⟩
    rw [← hz] at hg ⊢
    refine speco_of Try.func77 rfl (by kernel_rfl) (by kernel_rfl) (by kernel_rfl) fun qa qb qc qd qe qf qg qh qi qj qk ql qm qo qp qs qt qu qv qx qy qz va vc vd ve vf vg vh vj vk vl vm vn vo vp vq vr vt hA => ?_
    obtain ⟨m1, m2, -⟩ := map_at hA
    rw [← m1] at hg
    cbv
    repeat (first | (with_reducible apply next_at hA; cbv) | (rw [hg]; cbv))
    try cbv
    repeat (first | (with_reducible apply next_at hA; cbv) | (rw [hg]; cbv))
    try simp (maxSteps := 4000000) only [nc] at *
    exact keep_is hA [0, 1, 2, 3] ⟨rfl, rfl, rfl, rfl, rfl, rfl, rfl, rfl⟩ ⟨rfl, rfl⟩
  | none =>
    rw [hf] at hg
    simp only [Option.map_none] at hg
    have hset := mset_new (ik n) (ik ((cs.length : Nat) : Int)) (vrsF 0 cs) hg
    have hs1 := fndF_snoc ⟨op, ⟨#[]⟩, -1, -1, n, lev⟩ cs 0
    have hs2 := vrsF_snoc ⟨op, ⟨#[]⟩, -1, -1, n, lev⟩ cs 0
    have hs3 := nxtF_snoc ⟨op, ⟨#[]⟩, -1, -1, n, lev⟩ cs
    simp only [hop, if_true, Nat.zero_add, List.append_nil] at hs1 hs2 hs3
    rw [← hs2] at hset
    simp only
    unfold PO
    rw [hs1, hs3, List.map_append]
    show SpecO _ _ _ (fun res os => res = [vi .i64 (cs.length : Nat)] ∧ os = [.box [.own 1, .mp 2, .mp 3, vi .i64 (max (nxtF cs) (IntKind.i64.wrap (n + 1)))], .row false 108 (cs.map cC ++ [[.sc (.int .u8 op), .sc (.string ⟨#[]⟩), .sc (.int .i64 (-1)), .sc (.int .i64 (-1)), .sc (.int .i64 n), .sc (.int .i64 lev), .sc (.int .i64 (-1))]]), _, _])
    have hl : (cs.map cC).length = cs.length := by rw [List.length_map]
    generalize vrsF 0 (cs ++ _) = W2 at *
    generalize fndF 0 cs = F at *
    generalize vrsF 0 cs = W at *
    generalize nxtF cs = N at *
    generalize cs.map cC = C at *
    unfold ik at hset hg
    obtain ⟨z, hz⟩ : ∃ z, z = ((cs.length : Nat) : Int) := ⟨_, rfl⟩
    obtain ⟨wn, hwn⟩ : ∃ wn, wn = IntKind.i64.wrap (n + 1) := ⟨_, rfl⟩
    rw [← hwn]
    obtain ⟨mx, hmx⟩ : ∃ mx, mx = max N wn := ⟨_, rfl⟩
    rw [← hz] at hset ⊢
    rw [← hmx]
    refine speco_of Try.func77 rfl (by kernel_rfl) (by kernel_rfl) (by kernel_rfl) fun qa qb qc qd qe qf qg qh qi qj qk ql qm qo qp qs qt qu qv qx qy qz va vc vd ve vf vg vh vj vk vl vm vn vo vp vq vr vt hA => ?_
    obtain ⟨m1, m2, -⟩ := map_at hA
    obtain ⟨r1, r2, r3, r4⟩ := row_at hA
    obtain ⟨e1, e2, e3, e4, e5, e6, e7, e8, e9⟩ := ar_at hA
    rw [← m1] at hg
    rw [← m2] at hset
    have hlen : qy C = z := by rw [r1, hl, hz]
    have hn1 : qa .i64 (qb n 1) = wn := by rw [e1, e2, hwn]
    cbv
    repeat (first | (with_reducible apply next_at hA; cbv) | (rw [hg]; cbv) | (rw [hlen]; cbv) | (rw [hset]; cbv) | (rw [hn1]; cbv) | (refine lit_at hA true ?_; cbv) | (refine room_at hA (by simp only [List.length_cons, List.length_nil]; omega) ?_; cbv))
    try cbv
    repeat (first | (with_reducible apply next_at hA; cbv) | (rw [hg]; cbv) | (rw [hlen]; cbv) | (rw [hset]; cbv) | (rw [hn1]; cbv) | (refine lit_at hA true ?_; cbv) | (refine room_at hA (by simp only [List.length_cons, List.length_nil]; omega) ?_; cbv))
    try simp (maxSteps := 4000000) only [nc] at *
    cbv
    cbv
    repeat (first | (with_reducible apply next_at hA; cbv) | (rw [hg]; cbv) | (rw [hlen]; cbv) | (rw [hset]; cbv) | (rw [hn1]; cbv) | (refine lit_at hA true ?_; cbv) | (refine room_at hA (by simp only [List.length_cons, List.length_nil]; omega) ?_; cbv))
    try cbv
    repeat (first | (with_reducible apply next_at hA; cbv) | (rw [hg]; cbv) | (rw [hlen]; cbv) | (rw [hset]; cbv) | (rw [hn1]; cbv) | (refine lit_at hA true ?_; cbv) | (refine room_at hA (by simp only [List.length_cons, List.length_nil]; omega) ?_; cbv))
    try simp (maxSteps := 4000000) only [nc] at *
    by_cases hc : N < wn
    · have e : mx = wn := by omega
      rw [show qh N wn = true by rw [e7]; exact decide_eq_true hc, r4, e]
      exact keep_is hA [0, 1, 2, 3] ⟨rfl, rfl, rfl, rfl, rfl, rfl, rfl, rfl⟩ ⟨rfl, rfl⟩
    · have e : mx = N := by omega
      rw [show qh N wn = false by rw [e7]; exact decide_eq_false hc, r4, e]
      exact keep_is hA [0, 1, 2, 3] ⟨rfl, rfl, rfl, rfl, rfl, rfl, rfl, rfl⟩ ⟨rfl, rfl⟩
theorem new9_s : SpecO 23 [] [] (fun res os => res = [.ptr 0 0] ∧ os = PO []) := by
  show SpecO _ _ _ (fun res os => res = [.ptr 0 0] ∧ os = [.box [.own 1, .mp 2, .mp 3, vi .i64 0], .row false 108 [], .mp 105 [], .mp 3 []])
  refine speco_of Try.func23 rfl (by kernel_rfl) (by kernel_rfl) (by kernel_rfl) fun qa qb qc qd qe qf qg qh qi qj qk ql qm qo qp qs qt qu qv qx qy qz va vc vd ve vf vg vh vj vk vl vm vn vo vp vq vr vt hA => ?_
  cbv
  with_reducible apply next_at hA
  cbv
  refine ownbox_at hA 2 0 108 false rfl rfl ?_
  cbv
  exact keep_is hA [2, 3, 0, 1] ⟨rfl, rfl, rfl, rfl, rfl, rfl, rfl, rfl⟩ ⟨rfl, rfl⟩
end Go.Proofs.Ytclehkgnacekkaa.Vm
end
section
namespace Go.Proofs.Ytclehkgnacekkaa.Vm
theorem all_step {α : Type} {p : α → Bool} {l : List α} {k : Nat} {x : α} (h : l[k]? = some x) (ht : (l.take k).all p = true) (hx : p x = true) : (l.take (k + 1)).all p = true := by
  rw [List.take_add_one, h, List.all_append, ht]
  simp [hx]
theorem all_no {α : Type} {p : α → Bool} {l : List α} {k : Nat} {x : α} (h : l[k]? = some x) (hx : p x = false) : l.all p = false := by
  rw [List.all_eq_false]
  exact ⟨x, List.mem_of_getElem? h, by simp [hx]⟩
theorem vrB_iff {op : Int} : vrB op = true ↔ op = 7 ∨ op = 10 := by unfold vrB; simp
theorem vrB_var (t : Ty) : vrB t.op = isVar t := rfl
def okV (cs : List Cel) (x : Ty) : Bool := match cs.find? (numIs x.n) with | some c => !(vrB x.op && !(c.op == x.op)) | none => true
def sortedB (cs : List Cel) (t : Ty) : Bool := t.parts.all (okV cs)
theorem sorted_eq (cs : List Cel) (t : Ty) : sortedB cs t = (okV cs t && t.kids.all (sortedB cs)) := by
  unfold sortedB
  rw [parts_kids, List.all_cons]
  congr 1
  induction t.kids with
  | nil => rfl
  | cons k ks ih => rw [List.flatMap_cons, List.all_append, List.all_cons, ih]
theorem rowS_vars (v : Ty) (hv : isVar v = true) (tl : Ty) : ∀ fs : List (ByteArray × Ty), v ∈ (rowS fs tl).parts ↔ (∃ f ∈ fs, v ∈ f.2.parts) ∨ v ∈ tl.parts
  | [] => by show v ∈ tl.parts ↔ _; simp
  | f :: fs => by
    rw [rowS_op_ne, parts_kids]
    simp only [List.mem_cons, Ty.kids, List.flatMap_cons, List.flatMap_nil, List.append_nil, List.mem_append]
    rw [rowS_vars v hv tl fs]
    constructor
    · rintro (rfl | h | (⟨g, hg, h⟩ | h))
      · exact absurd hv (by rw [isVar_iff]; show ¬ ((11 : Int) = 7 ∨ (11 : Int) = 10); decide)
      · exact .inl ⟨f, .inl rfl, h⟩
      · exact .inl ⟨g, .inr hg, h⟩
      · exact .inr h
    · rintro (⟨g, (rfl | hg), h⟩ | h)
      · exact .inr (.inl h)
      · exact .inr (.inr (.inl ⟨g, hg, h⟩))
      · exact .inr (.inr (.inr h))
theorem canon_vars (v : Ty) (hv : isVar v = true) : ∀ (n : Nat) (t : Ty) (s : Int), t.parts.length ≤ n → shapeB wordB t s = true → (v ∈ (canonS t).parts ↔ v ∈ t.parts) := by
  intro n
  induction n with
  | zero => intro t s hn; have := parts_pos t; omega
  | succ n ih =>
    intro t s hn hs
    by_cases h11 : t.op = 11
    · obtain ⟨rfl, -⟩ := shape_row hs h11
      rw [canon_row_is hs]
      have he := row_eta hs
      have hx : v ∈ t.parts ↔ (∃ f ∈ fieldsS t, v ∈ f.2.parts) ∨ v ∈ (tailS t).parts := by rw [← rowS_vars v hv (tailS t) (fieldsS t), ← he]
      rw [hx, rowS_vars v hv]
      have hf := (fields_shape hs).1
      have key : ∀ f ∈ fieldsS t, v ∈ (canonS f.2).parts ↔ v ∈ f.2.parts := fun f hfm => ih f.2 116 (by have := fields_less _ t (Nat.le_refl _) f hfm; omega) (hf f hfm).2
      have hmem : ∀ f, f ∈ sortS ltF (fieldsS t) ↔ f ∈ fieldsS t := fun f => (sortS_perm ltF (fieldsS t)).mem_iff
      constructor
      · rintro (⟨f, hfm, h⟩ | h)
        · obtain ⟨g, hg, rfl⟩ := List.mem_map.1 hfm
          have hg2 := (hmem g).1 hg
          exact .inl ⟨g, hg2, (key g hg2).1 h⟩
        · exact .inr h
      · rintro (⟨f, hfm, h⟩ | h)
        · exact .inl ⟨cF f, List.mem_map_of_mem ((hmem f).2 hfm), (key f hfm).2 h⟩
        · exact .inr h
    · rw [canon_node h11]
      by_cases hvt : isVar t = true
      · have hk := var_kids hs (isVar_iff.1 hvt)
        rw [show t.kids.map canonS = t.kids by rw [hk]; rfl, ← Ty.eta]
      · obtain ⟨kk, hkk, hss⟩ : ∃ kk, kidsS t.op = some kk ∧ shapesB wordB t.kids kk = true := by
          rw [shape_eq] at hs
          simp only [Bool.and_eq_true] at hs
          cases hko : kidsS t.op with
          | none => unfold headB at hs; rw [hko] at hs; simp at hs
          | some kk => exact ⟨kk, rfl, by have := hs.2; rw [hko] at this; exact this⟩
        rw [parts_kids, parts_kids t]
        simp only [List.mem_cons, Ty.kids, List.mem_flatMap, List.mem_map]
        have hne : ∀ u : Ty, u.op = t.op → v ≠ u := fun u hu e => hvt (by rw [isVar_iff, ← hu, ← e]; exact isVar_iff.1 hv)
        constructor
        · rintro (h | ⟨x, ⟨k, hk, rfl⟩, h⟩)
          · exact absurd h (hne _ rfl)
          · obtain ⟨c, hc⟩ := shapes_mem wordB _ _ hss k hk
            exact .inr ⟨k, hk, (ih k c (by have := (kids_le t).2 k hk; omega) hc).1 h⟩
        · rintro (h | ⟨k, hk, h⟩)
          · exact absurd h (hne _ rfl)
          · obtain ⟨c, hc⟩ := shapes_mem wordB _ _ hss k hk
            exact .inr ⟨canonS k, ⟨k, hk, rfl⟩, (ih k c (by have := (kids_le t).2 k hk; omega) hc).2 h⟩
theorem canon_hasT {t : Ty} {s : Int} (h : shapeB wordB t s = true) (n : Int) : hasT (canonS t) n ↔ hasT t n :=
  ⟨fun ⟨x, hx, hv, he⟩ => ⟨x, (canon_vars x hv _ t s (Nat.le_refl _) h).1 hx, hv, he⟩, fun ⟨x, hx, hv, he⟩ => ⟨x, (canon_vars x hv _ t s (Nat.le_refl _) h).2 hx, hv, he⟩⟩
theorem shape_parts_all (t : Ty) : ∀ s, shapeB wordB t s = true → ∀ x ∈ t.parts, ∃ c, shapeB wordB x c = true := by
  induction t using Ty.ind with
  | h t ih =>
    intro s hs x hx
    rw [parts_kids] at hx
    rcases List.mem_cons.1 hx with rfl | hx
    · exact ⟨s, hs⟩
    · obtain ⟨k, hk, hx⟩ := List.mem_flatMap.1 hx
      obtain ⟨c, hc⟩ := shapes_mem wordB t.kids _ (by rw [shape_eq] at hs; simp only [Bool.and_eq_true] at hs; exact hs.2) k hk
      exact ih k hk c hc x hx
theorem okT_of {σ : Int → Int} {t : Ty} {s : Int} (h : shapeB wordB t s = true) (hv : ∀ x ∈ t.parts, vrB x.op = true → x.op = σ x.n) : OkT σ t := by
  intro x hx
  obtain ⟨c, hc⟩ := shape_parts_all t s h x hx
  obtain ⟨k, h0, h1, h2, h3, h4, h5, -⟩ := shape_parts hc
  refine ⟨?_, fun hvx => ⟨?_, var_kids hc (vrB_iff.1 hvx), hv x hx hvx⟩, fun hvx => ?_⟩
  · rw [h2]
    unfold kidsS at h0
    repeat' split at h0
    all_goals first | (cases h0; decide) | cases h0
  · have hop := vrB_iff.1 hvx
    rw [if_neg (by omega)] at h3
    have h3 := of_decide_eq_true h3
    exact bytes_toList.1 (by rw [h3, ByteArray.toList_eq])
  · have : ¬ (x.op = 7 ∨ x.op = 10) := fun h => by rw [vrB_iff.2 h] at hvx; cases hvx
    omega
theorem find_num {cs : List Cel} (hw : Wf cs) {c : Cel} (hc : c ∈ cs) (hv : vrB c.op = true) : cs.find? (numIs c.num) = some c := by
  rcases find_idx (numIs c.num) cs with ⟨h1, h2, h3⟩ | ⟨j, d, h1, h2, h3, h4⟩
  · have := h3 c hc
    unfold numIs at this
    simp [hv] at this
  · unfold numIs at h4
    simp only [Bool.and_eq_true, beq_iff_eq] at h4
    obtain ⟨i, hi⟩ := List.mem_iff_getElem?.1 hc
    have := hw.num i j c d hi h2 hv h4.1 h4.2.symm
    subst this
    rw [h2] at hi
    cases hi
    exact h3
theorem sort_sigma {cs : List Cel} (hw : Wf cs) {t : Ty} (ho : onceB t = true) (hs : sortedB cs t = true) : ∃ σ : Int → Int, OkC σ cs ∧ ∀ x ∈ t.parts, vrB x.op = true → x.op = σ x.n := by
  refine ⟨fun n => match cs.find? (numIs n) with | some c => c.op | none => if t.parts.any (fun x => x.op == 10 && x.n == n) = true then 10 else 7, fun c hc hv => ?_, fun x hx hv => ?_⟩
  · show c.op = match cs.find? (numIs c.num) with | some c => c.op | none => _
    rw [find_num hw hc hv]
  · show x.op = match cs.find? (numIs x.n) with | some c => c.op | none => _
    have h1 := List.all_eq_true.1 hs x hx
    unfold okV at h1
    cases hf : cs.find? (numIs x.n) with
    | some c =>
      rw [hf] at h1
      simp only [hv, Bool.true_and, Bool.not_not, beq_iff_eq] at h1
      exact h1.symm
    | none =>
      simp only
      rcases vrB_iff.1 hv with h7 | h10
      · rw [if_neg, h7]
        intro ha
        obtain ⟨y, hy, h2⟩ := List.any_eq_true.1 ha
        simp only [Bool.and_eq_true, beq_iff_eq] at h2
        have h3 := List.all_eq_true.1 (List.all_eq_true.1 ho x hx) y hy
        unfold clashB at h3
        simp [h7, h2.1, h2.2] at h3
      · rw [if_pos (List.any_eq_true.2 ⟨x, hx, by simp [h10]⟩), h10]
theorem Add_step {cs : List Cel} (hw : Wf cs) (lev : Int) {t : Ty} {s : Int} (ht : rightB t s = true) (hs : sortedB cs t = true) : ∃ σ, OkC σ cs ∧ (∀ x ∈ t.parts, vrB x.op = true → x.op = σ x.n) ∧ Step σ cs (addF lev (canonS t) cs).2 (hasT t) t.parts.length ∧ Is (addF lev (canonS t) cs).2 (canonS t) (addF lev (canonS t) cs).1 := by
  unfold rightB at ht
  simp only [Bool.and_eq_true] at ht
  obtain ⟨σ, h1, h2⟩ := sort_sigma hw ht.2 hs
  have hc := canon_shape _ t s (Nat.le_refl _) ht.1
  have hT : OkT σ (canonS t) := okT_of hc fun x hx hv => h2 x ((canon_vars x hv _ t s (Nat.le_refl _) ht.1).1 hx) hv
  obtain ⟨h3, h4⟩ := add_step lev (canonS t) hT cs hw h1
  have hl := canon_len _ t (Nat.le_refl _) (shape_spineAll ht.1)
  exact ⟨σ, h1, h2, h3.weak (fun n => canon_hasT ht.1 n) (by omega), h4⟩
structure Bd where
  n : Int
  row : Bool
  lev : Int
def bdIs (n : Int) (b : Bd) : Bool := b.n == n
def okBd (L : List Bd) (x : Ty) : Bool := match L.find? (bdIs x.n) with | some b => !(isVar x && !(b.row == (x.op == 10))) | none => true
def meetOk (L : List Bd) (t : Ty) : Bool := t.parts.all (okBd L)
def meet1 (lev : Int) (L : List Bd) (x : Ty) : List Bd := if isVar x = true ∧ L.find? (bdIs x.n) = none then L ++ [⟨x.n, x.op == 10, lev⟩] else L
def meetF (lev : Int) (L : List Bd) (t : Ty) : List Bd := t.parts.foldl (meet1 lev) L
def Twin (L : List Bd) (cs : List Cel) : Prop := ∀ n, (L.find? (bdIs n)).map Bd.row = (cs.find? (numIs n)).map fun c => c.op == 10
theorem twin_nil : Twin [] [] := fun n => rfl
theorem num_var {cs : List Cel} {n : Int} {c : Cel} (h : cs.find? (numIs n) = some c) : c ∈ cs ∧ vrB c.op = true ∧ c.num = n := by
  have h1 := List.find?_some h
  unfold numIs at h1
  simp only [Bool.and_eq_true, beq_iff_eq] at h1
  exact ⟨List.mem_of_find?_eq_some h, h1.1, h1.2⟩
theorem twin_ok {L : List Bd} {cs : List Cel} (h : Twin L cs) (x : Ty) : okBd L x = okV cs x := by
  have h1 := h x.n
  unfold okBd okV
  cases hL : L.find? (bdIs x.n) <;> cases hc : cs.find? (numIs x.n)
  · rfl
  · rw [hL, hc] at h1; simp at h1
  · rw [hL, hc] at h1; simp at h1
  · rename_i b c
    rw [hL, hc] at h1
    simp only [Option.map_some, Option.some.injEq] at h1
    simp only [vrB_var]
    rw [h1]
    cases hv : isVar x with
    | false => rfl
    | true =>
      have h2 := vrB_iff.1 (num_var hc).2.1
      rcases h2 with h2 | h2 <;> rcases isVar_iff.1 hv with h3 | h3 <;> rw [h2, h3] <;> rfl
theorem twin_meet {L : List Bd} {cs : List Cel} (h : Twin L cs) (t : Ty) : meetOk L t = sortedB cs t := by
  unfold meetOk sortedB
  congr 1
  funext x
  exact twin_ok h x
theorem meet_has (lev : Int) : ∀ (ts : List Ty) (L : List Bd) (n : Int), (∃ b ∈ ts.foldl (meet1 lev) L, b.n = n) ↔ (∃ b ∈ L, b.n = n) ∨ ∃ x ∈ ts, isVar x = true ∧ x.n = n
  | [], L, n => by simp
  | t :: ts, L, n => by
    rw [List.foldl_cons, meet_has lev ts]
    have h1 : (∃ b ∈ meet1 lev L t, b.n = n) ↔ (∃ b ∈ L, b.n = n) ∨ (isVar t = true ∧ t.n = n) := by
      unfold meet1
      by_cases hc : isVar t = true ∧ L.find? (bdIs t.n) = none
      · rw [if_pos hc]
        constructor
        · rintro ⟨b, hb, e⟩
          rcases List.mem_append.1 hb with hb | hb
          · exact .inl ⟨b, hb, e⟩
          · simp only [List.mem_singleton] at hb; subst hb; exact .inr ⟨hc.1, e⟩
        · rintro (⟨b, hb, e⟩ | ⟨_, e⟩)
          · exact ⟨b, List.mem_append_left _ hb, e⟩
          · exact ⟨_, List.mem_append_right _ (List.mem_singleton.2 rfl), e⟩
      · rw [if_neg hc]
        refine ⟨.inl, ?_⟩
        rintro (h | ⟨hv, e⟩)
        · exact h
        · cases hf : L.find? (bdIs t.n) with
          | none => exact absurd ⟨hv, hf⟩ hc
          | some b =>
            have := List.find?_some hf
            unfold bdIs at this
            exact ⟨b, List.mem_of_find?_eq_some hf, by rw [← e]; simpa using this⟩
    rw [h1]
    simp only [List.mem_cons]
    constructor
    · rintro ((h | h) | ⟨x, hx, h⟩)
      · exact .inl h
      · exact .inr ⟨t, .inl rfl, h⟩
      · exact .inr ⟨x, .inr hx, h⟩
    · rintro (h | ⟨x, (rfl | hx), h⟩)
      · exact .inl (.inl h)
      · exact .inl (.inr h)
      · exact .inr ⟨x, hx, h⟩
def OkL (σ : Int → Int) (L : List Bd) : Prop := ∀ b ∈ L, b.row = (σ b.n == 10)
theorem meetL_ok {σ : Int → Int} (lev : Int) : ∀ (ts : List Ty) (L : List Bd), OkL σ L → (∀ x ∈ ts, isVar x = true → x.op = σ x.n) → OkL σ (ts.foldl (meet1 lev) L)
  | [], _, h, _ => h
  | t :: ts, L, h, ht => by
    rw [List.foldl_cons]
    refine meetL_ok lev ts _ (fun b hb => ?_) fun x hx => ht x (List.mem_cons_of_mem _ hx)
    unfold meet1 at hb
    split at hb
    · rename_i hc
      rcases List.mem_append.1 hb with hb | hb
      · exact h b hb
      · simp only [List.mem_singleton] at hb
        subst hb
        show (t.op == 10) = (σ t.n == 10)
        rw [ht t (List.mem_cons_self ..) hc.1]
    · exact h b hb
theorem twin_of {σ : Int → Int} {L : List Bd} {cs : List Cel} (hL : OkL σ L) (hc : OkC σ cs) (hn : ∀ n, (∃ b ∈ L, b.n = n) ↔ hasN cs n) : Twin L cs := by
  intro n
  cases h1 : L.find? (bdIs n) with
  | none =>
    cases h2 : cs.find? (numIs n) with
    | none => rfl
    | some c =>
      obtain ⟨b, hb, e⟩ := (hn n).2 ⟨c, num_var h2⟩
      have := List.find?_eq_none.1 h1 b hb
      unfold bdIs at this
      simp [e] at this
  | some b =>
    have hb := List.find?_some h1
    unfold bdIs at hb
    simp only [beq_iff_eq] at hb
    have hbm := List.mem_of_find?_eq_some h1
    cases h2 : cs.find? (numIs n) with
    | none =>
      obtain ⟨c, hc1, hc2, hc3⟩ := (hn n).1 ⟨b, hbm, hb⟩
      have := List.find?_eq_none.1 h2 c hc1
      unfold numIs at this
      simp [hc2, hc3] at this
    | some c =>
      obtain ⟨hc1, hc2, hc3⟩ := num_var h2
      simp only [Option.map_some, Option.some.injEq]
      rw [hL b hbm, hb, hc c hc1 hc2, hc3]
theorem twin_has {L : List Bd} {cs : List Cel} (h : Twin L cs) (n : Int) : (∃ b ∈ L, b.n = n) ↔ hasN cs n := by
  have h1 := h n
  constructor
  · rintro ⟨b, hb, e⟩
    cases h2 : L.find? (bdIs n) with
    | none =>
      have := List.find?_eq_none.1 h2 b hb
      unfold bdIs at this
      simp [e] at this
    | some b' =>
      rw [h2] at h1
      cases h3 : cs.find? (numIs n) with
      | none => rw [h3] at h1; simp at h1
      | some c => exact ⟨c, num_var h3⟩
  · rintro ⟨c, hc, hv, e⟩
    cases h2 : cs.find? (numIs n) with
    | none =>
      have := List.find?_eq_none.1 h2 c hc
      unfold numIs at this
      simp [hv, e] at this
    | some c' =>
      rw [h2] at h1
      cases h3 : L.find? (bdIs n) with
      | none => rw [h3] at h1; simp at h1
      | some b =>
        have := List.find?_some h3
        unfold bdIs at this
        exact ⟨b, List.mem_of_find?_eq_some h3, by simpa using this⟩
def Uq (L : List Bd) : Prop := ∀ (i j : Nat) (b c : Bd), L[i]? = some b → L[j]? = some c → b.n = c.n → i = j
theorem uq_nil : Uq [] := by intro i j b c h; simp at h
theorem uq_meet1 (lev : Int) {L : List Bd} (h : Uq L) (x : Ty) : Uq (meet1 lev L x) := by
  unfold meet1
  split
  · rename_i hc
    have hN : ∀ b ∈ L, b.n ≠ x.n := fun b hb e => by
      have := List.find?_eq_none.1 hc.2 b hb
      unfold bdIs at this
      simp [e] at this
    intro i j b c hb hc' e
    rcases get_snoc hb with hb2 | ⟨hi, ex⟩ <;> rcases get_snoc hc' with hc2 | ⟨hj, ey⟩
    · exact h i j b c hb2 hc2 e
    · subst ey; exact absurd e (hN b (List.mem_of_getElem? hb2))
    · subst ex; exact absurd e.symm (hN c (List.mem_of_getElem? hc2))
    · omega
  · exact h
theorem uq_meet (lev : Int) : ∀ (ts : List Ty) (L : List Bd), Uq L → Uq (ts.foldl (meet1 lev) L)
  | [], _, h => h
  | t :: ts, L, h => uq_meet lev ts _ (uq_meet1 lev h t)
theorem find_bd {L : List Bd} (h : Uq L) {b : Bd} (hb : b ∈ L) : L.find? (bdIs b.n) = some b := by
  rcases find_idx (bdIs b.n) L with ⟨h1, h2, h3⟩ | ⟨j, d, h1, h2, h3, h4⟩
  · have := h3 b hb
    unfold bdIs at this
    simp at this
  · unfold bdIs at h4
    simp only [beq_iff_eq] at h4
    obtain ⟨i, hi⟩ := List.mem_iff_getElem?.1 hb
    have := h i j b d hi h2 h4.symm
    subst this
    rw [h2] at hi
    cases hi
    exact h3
theorem twin_okL {L : List Bd} {cs : List Cel} (h : Twin L cs) (hu : Uq L) {σ : Int → Int} (hc : OkC σ cs) : OkL σ L := by
  intro b hb
  have h1 := h b.n
  rw [find_bd hu hb] at h1
  cases h2 : cs.find? (numIs b.n) with
  | none => rw [h2] at h1; simp at h1
  | some c =>
    rw [h2] at h1
    simp only [Option.map_some, Option.some.injEq] at h1
    obtain ⟨hc1, hc2, hc3⟩ := num_var h2
    rw [h1, hc c hc1 hc2, hc3]
theorem meet_len (lev : Int) : ∀ (ts : List Ty) (L : List Bd), L.length ≤ (ts.foldl (meet1 lev) L).length ∧ (ts.foldl (meet1 lev) L).length ≤ L.length + ts.length
  | [], L => by simp
  | t :: ts, L => by
    rw [List.foldl_cons, List.length_cons]
    have h1 := meet_len lev ts (meet1 lev L t)
    have h2 : L.length ≤ (meet1 lev L t).length ∧ (meet1 lev L t).length ≤ L.length + 1 := by unfold meet1; split <;> simp
    omega
theorem both_step {L : List Bd} {cs : List Cel} (hw : Wf cs) (hu : Uq L) (h : Twin L cs) (lev lev' : Int) {t : Ty} {s : Int} (ht : rightB t s = true) (hm : meetOk L t = true) :
    Uq (meetF lev L t) ∧ Twin (meetF lev L t) (addF lev' (canonS t) cs).2 ∧ Wf (addF lev' (canonS t) cs).2 ∧ (∃ e, (addF lev' (canonS t) cs).2 = cs ++ e ∧ e.length ≤ t.parts.length) ∧ Is (addF lev' (canonS t) cs).2 (canonS t) (addF lev' (canonS t) cs).1 := by
  rw [twin_meet h] at hm
  obtain ⟨σ, h1, h2, h3, h4⟩ := Add_step hw lev' ht hm
  refine ⟨uq_meet lev _ _ hu, twin_of (σ := σ) (meetL_ok lev _ _ (twin_okL h hu h1) h2) h3.ok fun n => ?_, h3.wf, h3.ext, h4⟩
  rw [meetF, meet_has, h3.nums, twin_has h]
  rfl
end Go.Proofs.Ytclehkgnacekkaa.Vm
end
section
namespace Go.Proofs.Ytclehkgnacekkaa.Vm
open Go.RowKit
set_option maxRecDepth 100000
set_option maxHeartbeats 4000000
def sortSpec9 (cs : List Cel) (t : Ty) : Prop := RdP 55 [.ptr 0 0, .ag (ofD (cT t))] cs [vb (sortedB cs t)]
theorem index9_s (cs : List Cel) (ks : List Ty) (hN : ks.length ≤ 1048576) (ih : ∀ x ∈ ks, sortSpec9 cs x) :
    SpecS 136 [.d (.sl 4 (rT ks)), .cl 110 [4]] (PO cs ++ [.box [.ptr 0 0]]) (fun r os => (∃ z : Int, r = [vi .i64 z] ∧ decide (0 ≤ z) = !ks.all (sortedB cs)) ∧ os = PO cs ++ [.box [.ptr 0 0]]) := by
  have ih' : ∀ x ∈ ks, ∀ b, sortedB cs x = b → ∃ d0 d1 d2 d3, cT x = [d0, d1, d2, d3] ∧ SpecS 55 [.ptr 0 0, .ag [.d d0, .d d1, .d d2, .d d3]] (PO cs) (fun r os => r = [vb b] ∧ os = PO cs) := fun x hx b hb => by
    obtain ⟨d0, d1, d2, d3, hd⟩ := cT_four x
    have h := ih x hx
    unfold sortSpec9 RdP at h
    rw [hd, hb] at h
    exact ⟨d0, d1, d2, d3, hd, h⟩
  clear ih
  generalize hp : sortedB cs = p at *
  obtain ⟨L, hL⟩ : ∃ L, L = rT ks := ⟨_, rfl⟩
  rw [← hL]
  have hlen : L.length = ks.length := by rw [hL, rT_len]
  unfold PO at *
  generalize fndF 0 cs = F at *
  generalize vrsF 0 cs = W at *
  generalize nxtF cs = N at *
  generalize cs.map cC = C at *
  generalize hb : (!ks.all p) = b
  refine specr_of Try.func136 rfl (by kernel_rfl) (by kernel_rfl) (by kernel_rfl) rfl fun qa qb qc qd qe qf qg qh qi qj qk ql qm qo qp qs qt qu qv qx qy qz va vc vd ve vf vg vh vj vk vl vm vn vo vp vq vr vt hA K hK => ?_
  obtain ⟨e1, e2, e3, e4, e5, e6, e7, e8, e9⟩ := ar_at hA
  obtain ⟨r1, r2, r3, r4⟩ := row_at hA
  cbv
  repeat ((with_reducible apply next_at hA); cbv)
  refine loop_at hA (γ := Int) (fun x => [(8, vi .i64 x)]) (fun x => []) (fun x => ∃ k : Nat, x = (k : Int) ∧ k ≤ ks.length ∧ (ks.take k).all p = true) (fun x => ks.length - x.toNat) 0 ?_ ?_ ?_
  · exact ⟨0, rfl, Nat.zero_le _, rfl⟩
  · cbv
  · intro z hinv
    cbv
    repeat ((with_reducible apply next_at hA); cbv)
    try simp (maxSteps := 4000000) only [nc] at *
    obtain ⟨k, hz, hk, hE⟩ := hinv
    replace hz : z = (k : Int) := hz
    have hlt : qh z (qy L) = decide (k < ks.length) := by rw [e7, r1, hlen, hz]; exact decide_eq_decide.2 (by omega)
    by_cases h9 : k < ks.length
    · rw [decide_eq_true h9] at hlt
      obtain ⟨x, hx⟩ : ∃ x, ks[k]? = some x := ⟨_, List.getElem?_eq_getElem h9⟩
      have hm := List.mem_of_getElem? hx
      have hz1 : qa .i64 (qb z 1) = ((k + 1 : Nat) : Int) := by rw [e1, e2, hz, IntWalk.i64_in _ (by omega)]; omega
      have hmu : ks.length - (qa .i64 (qb z 1)).toNat < ks.length - z.toNat := by rw [hz1, hz]; omega
      cases hpx : p x with
      | true =>
        obtain ⟨d0, d1, d2, d3, hd, hsp⟩ := ih' x hm true hpx
        have gx : qz L z = some [d0, d1, d2, d3] := by rw [r2, hz, if_pos (by omega), hL, show ((k : Int)).toNat = k by omega, rT_get hx, hd]
        rw [hlt]
        cbv
        repeat (first | (with_reducible apply next_at hA; cbv) | (rw [gx]; cbv))
        try cbv
        repeat (first | (with_reducible apply next_at hA; cbv) | (rw [gx]; cbv))
        try simp (maxSteps := 4000000) only [nc] at *
        refine inl_at hA Try.func110 rfl (by kernel_rfl) (by kernel_rfl) (by kernel_rfl) ?_
        cbv
        repeat ((with_reducible apply next_at hA); cbv)
        refine rd_at hA [0, 1, 2, 3] hsp ⟨rfl, rfl, rfl, rfl, rfl, rfl, rfl⟩ rfl ?_
        rintro _ rfl
        cbv
        repeat (first | (with_reducible apply next_at hA; cbv) | (rw [gx]; cbv))
        try cbv
        repeat (first | (with_reducible apply next_at hA; cbv) | (rw [gx]; cbv))
        try simp (maxSteps := 4000000) only [nc] at *
        refine ⟨qa .i64 (qb z 1), ⟨k + 1, hz1, h9, all_step hx hE hpx⟩, hmu, ?_⟩
        cbv
      | false =>
        obtain ⟨d0, d1, d2, d3, hd, hsp⟩ := ih' x hm false hpx
        have gx : qz L z = some [d0, d1, d2, d3] := by rw [r2, hz, if_pos (by omega), hL, show ((k : Int)).toNat = k by omega, rT_get hx, hd]
        rw [hlt]
        cbv
        repeat (first | (with_reducible apply next_at hA; cbv) | (rw [gx]; cbv))
        try cbv
        repeat (first | (with_reducible apply next_at hA; cbv) | (rw [gx]; cbv))
        try simp (maxSteps := 4000000) only [nc] at *
        refine inl_at hA Try.func110 rfl (by kernel_rfl) (by kernel_rfl) (by kernel_rfl) ?_
        cbv
        repeat ((with_reducible apply next_at hA); cbv)
        refine rd_at hA [0, 1, 2, 3] hsp ⟨rfl, rfl, rfl, rfl, rfl, rfl, rfl⟩ rfl ?_
        rintro _ rfl
        cbv
        repeat (first | (with_reducible apply next_at hA; cbv) | (rw [gx]; cbv))
        try cbv
        repeat (first | (with_reducible apply next_at hA; cbv) | (rw [gx]; cbv))
        try simp (maxSteps := 4000000) only [nc] at *
        exact hK _ ⟨z, rfl, by rw [← hb, all_no hx hpx, hz]; exact decide_eq_true (by omega)⟩
    · rw [decide_eq_false h9] at hlt
      rw [hlt]
      cbv
      repeat ((with_reducible apply next_at hA); cbv)
      refine hK _ ⟨-1, rfl, ?_⟩
      rw [← hb, ← List.take_of_length_le (l := ks) (i := k) (by omega), hE]
      rfl
theorem contains9_s (cs : List Cel) (ks : List Ty) (hN : ks.length ≤ 1048576) (ih : ∀ x ∈ ks, sortSpec9 cs x) :
    SpecS 109 [.d (.sl 4 (rT ks)), .cl 110 [4]] (PO cs ++ [.box [.ptr 0 0]]) (fun r os => r = [vb (!ks.all (sortedB cs))] ∧ os = PO cs ++ [.box [.ptr 0 0]]) := by
  have h := index9_s cs ks hN ih
  obtain ⟨L, hL⟩ : ∃ L, L = rT ks := ⟨_, rfl⟩
  rw [← hL] at h ⊢
  generalize (!ks.all (sortedB cs)) = b at *
  unfold PO at *
  generalize fndF 0 cs = F at *
  generalize vrsF 0 cs = W at *
  generalize nxtF cs = N at *
  generalize cs.map cC = C at *
  refine specr_of Try.func109 rfl (by kernel_rfl) (by kernel_rfl) (by kernel_rfl) rfl fun qa qb qc qd qe qf qg qh qi qj qk ql qm qo qp qs qt qu qv qx qy qz va vc vd ve vf vg vh vj vk vl vm vn vo vp vq vr vt hA K hK => ?_
  obtain ⟨e1, e2, e3, e4, e5, e6, e7, e8, e9⟩ := ar_at hA
  cbv
  repeat ((with_reducible apply next_at hA); cbv)
  refine rd_at hA [0, 1, 2, 3, 4] h ⟨rfl, rfl, rfl, rfl, rfl, rfl, rfl⟩ rfl ?_
  rintro _ ⟨z, rfl, hz⟩
  have hle : qi 0 z = b := by rw [e8, hz]
  cbv
  repeat (first | (with_reducible apply next_at hA; cbv) | (rw [hle]; cbv))
  try cbv
  repeat (first | (with_reducible apply next_at hA; cbv) | (rw [hle]; cbv))
  try simp (maxSteps := 4000000) only [nc] at *
  exact hK _ rfl
theorem sorted9_s (cs : List Cel) : ∀ t : Ty, t.parts.length ≤ 1048576 → sortSpec9 cs t := by
  intro t
  induction t using Ty.ind with
  | h t ih =>
    intro hN
    have hk := kids_le t
    have hco := contains9_s cs t.kids (by omega) fun x hx => ih x hx (by have := hk.2 x hx; omega)
    unfold sortSpec9 RdP
    have hpv := pvar_s t.op
    have hlook := vrs_get t.n cs 0
    have hsq := sorted_eq cs t
    have hfi := find_idx (numIs t.n) cs
    have hq : (cs.findIdx? (numIs t.n) = none ∧ sortedB cs t = t.kids.all (sortedB cs)) ∨ ∃ (j : Nat) (c : Cel), cs.findIdx? (numIs t.n) = some j ∧ (cs.map cC)[j]? = some (cC c) ∧ sortedB cs t = (!(vrB t.op && !(c.op == t.op)) && t.kids.all (sortedB cs)) := by
      rw [hsq]
      unfold okV
      rcases hfi with ⟨h1, h2, _⟩ | ⟨j, c, h1, h2, h3, _⟩
      · exact .inl ⟨h1, by rw [h2]; rfl⟩
      · exact .inr ⟨j, c, h1, rC_get h2, by rw [h3]⟩
    generalize sortedB cs t = B at *
    obtain ⟨op, nm, n, ks⟩ := t
    simp only [Ty.op, Ty.n, Ty.kids] at *
    rw [cT]
    obtain ⟨L, hL⟩ : ∃ L, L = rT ks := ⟨_, rfl⟩
    rw [← hL] at hco ⊢
    generalize ks.all (sortedB cs) = al at *
    generalize vrB op = vb1 at *
    generalize cs.findIdx? (numIs n) = fi at *
    unfold PO at *
    generalize fndF 0 cs = F at *
    generalize vrsF 0 cs = W at *
    generalize nxtF cs = N at *
    generalize cs.map cC = C at *
    clear ih hfi hsq hk
    rcases hq with ⟨rfl, rfl⟩ | ⟨j, c, rfl, hC, rfl⟩
    · replace hlook : mget W (ik n) = none := hlook
      unfold ik at hlook
      refine specr_of Try.func55 rfl (by kernel_rfl) (by kernel_rfl) (by kernel_rfl) rfl fun qa qb qc qd qe qf qg qh qi qj qk ql qm qo qp qs qt qu qv qx qy qz va vc vd ve vf vg vh vj vk vl vm vn vo vp vq vr vt hA K hK => ?_
      obtain ⟨m1, m2, m3, m4⟩ := map_at hA
      rw [← m1] at hlook
      cbv
      repeat (first | (with_reducible apply next_at hA; cbv) | (rw [hlook]; cbv))
      try cbv
      repeat (first | (with_reducible apply next_at hA; cbv) | (rw [hlook]; cbv))
      try simp (maxSteps := 4000000) only [nc] at *
      refine rd_at hA [0, 1, 2, 3, 5] hco ⟨rfl, rfl, rfl, rfl, rfl, rfl, rfl⟩ rfl ?_
      rintro _ rfl
      cases B
      · cbv
        repeat (first | (with_reducible apply next_at hA; cbv) | (rw [hlook]; cbv))
        try cbv
        repeat (first | (with_reducible apply next_at hA; cbv) | (rw [hlook]; cbv))
        try simp (maxSteps := 4000000) only [nc] at *
        exact hK _ rfl
      · cbv
        repeat (first | (with_reducible apply next_at hA; cbv) | (rw [hlook]; cbv))
        try cbv
        repeat (first | (with_reducible apply next_at hA; cbv) | (rw [hlook]; cbv))
        try simp (maxSteps := 4000000) only [nc] at *
        exact hK _ rfl
    · replace hlook : mget W (ik n) = some (ik ((0 + j : Nat) : Int)) := hlook
      rw [Nat.zero_add] at hlook
      unfold ik at hlook
      rw [show cC c = [.sc (.int .u8 c.op), .sc (.string c.name), .sc (.int .i64 c.a), .sc (.int .i64 c.b), .sc (.int .i64 c.num), .sc (.int .i64 c.lev), .sc (.int .i64 (-1))] from rfl] at hC
      generalize c.op = c0 at *
      generalize c.name = c1 at *
      generalize c.a = c2 at *
      generalize c.b = c3 at *
      generalize c.num = c4 at *
      generalize c.lev = c5 at *
      obtain ⟨z, hz⟩ : ∃ z, z = ((j : Nat) : Int) := ⟨_, rfl⟩
      rw [← hz] at hlook
      cases vb1 with
      | false =>
        refine specr_of Try.func55 rfl (by kernel_rfl) (by kernel_rfl) (by kernel_rfl) rfl fun qa qb qc qd qe qf qg qh qi qj qk ql qm qo qp qs qt qu qv qx qy qz va vc vd ve vf vg vh vj vk vl vm vn vo vp vq vr vt hA K hK => ?_
        obtain ⟨m1, m2, m3, m4⟩ := map_at hA
        rw [← m1] at hlook
        cbv
        repeat (first | (with_reducible apply next_at hA; cbv) | (rw [hlook]; cbv) | (refine call_at hA _ hpv rfl ?_; cbv) | (refine calm_at hA _ hpv ?_; cbv))
        try cbv
        repeat (first | (with_reducible apply next_at hA; cbv) | (rw [hlook]; cbv) | (refine call_at hA _ hpv rfl ?_; cbv) | (refine calm_at hA _ hpv ?_; cbv))
        try simp (maxSteps := 4000000) only [nc] at *
        refine rd_at hA [0, 1, 2, 3, 5] hco ⟨rfl, rfl, rfl, rfl, rfl, rfl, rfl⟩ rfl ?_
        rintro _ rfl
        cases al
        · cbv
          repeat (first | (with_reducible apply next_at hA; cbv) | (rw [hlook]; cbv))
          try cbv
          repeat (first | (with_reducible apply next_at hA; cbv) | (rw [hlook]; cbv))
          try simp (maxSteps := 4000000) only [nc] at *
          exact hK _ rfl
        · cbv
          repeat (first | (with_reducible apply next_at hA; cbv) | (rw [hlook]; cbv))
          try cbv
          repeat (first | (with_reducible apply next_at hA; cbv) | (rw [hlook]; cbv))
          try simp (maxSteps := 4000000) only [nc] at *
          exact hK _ rfl
      | true =>
        generalize hne : (c0 == op) = bq at *
        refine specr_of Try.func55 rfl (by kernel_rfl) (by kernel_rfl) (by kernel_rfl) rfl fun qa qb qc qd qe qf qg qh qi qj qk ql qm qo qp qs qt qu qv qx qy qz va vc vd ve vf vg vh vj vk vl vm vn vo vp vq vr vt hA K hK => ?_
        obtain ⟨m1, m2, m3, m4⟩ := map_at hA
        obtain ⟨r1, r2, r3, r4⟩ := row_at hA
        obtain ⟨e1, e2, e3, e4, e5, e6, e7, e8, e9⟩ := ar_at hA
        have hg : qz C z = some [.sc (.int .u8 c0), .sc (.string c1), .sc (.int .i64 c2), .sc (.int .i64 c3), .sc (.int .i64 c4), .sc (.int .i64 c5), .sc (.int .i64 (-1))] := by rw [r2, hz, if_pos (by omega), show ((j : Int)).toNat = j by omega]; exact hC
        have hq : qj c0 op = bq := by rw [e9]; exact hne
        rw [← m1] at hlook
        cases bq with
        | false =>
          cbv
          repeat (first | (with_reducible apply next_at hA; cbv) | (rw [hlook]; cbv) | (rw [hg]; cbv) | (rw [hq]; cbv) | (refine call_at hA _ hpv rfl ?_; cbv) | (refine calm_at hA _ hpv ?_; cbv))
          try cbv
          repeat (first | (with_reducible apply next_at hA; cbv) | (rw [hlook]; cbv) | (rw [hg]; cbv) | (rw [hq]; cbv) | (refine call_at hA _ hpv rfl ?_; cbv) | (refine calm_at hA _ hpv ?_; cbv))
          try simp (maxSteps := 4000000) only [nc] at *
          exact hK _ rfl
        | true =>
          cbv
          repeat (first | (with_reducible apply next_at hA; cbv) | (rw [hlook]; cbv) | (rw [hg]; cbv) | (rw [hq]; cbv) | (refine call_at hA _ hpv rfl ?_; cbv) | (refine calm_at hA _ hpv ?_; cbv))
          try cbv
          repeat (first | (with_reducible apply next_at hA; cbv) | (rw [hlook]; cbv) | (rw [hg]; cbv) | (rw [hq]; cbv) | (refine call_at hA _ hpv rfl ?_; cbv) | (refine calm_at hA _ hpv ?_; cbv))
          try simp (maxSteps := 4000000) only [nc] at *
          refine rd_at hA [0, 1, 2, 3, 5] hco ⟨rfl, rfl, rfl, rfl, rfl, rfl, rfl⟩ rfl ?_
          rintro _ rfl
          cases al
          · cbv
            repeat (first | (with_reducible apply next_at hA; cbv) | (rw [hlook]; cbv))
            try cbv
            repeat (first | (with_reducible apply next_at hA; cbv) | (rw [hlook]; cbv))
            try simp (maxSteps := 4000000) only [nc] at *
            exact hK _ rfl
          · cbv
            repeat (first | (with_reducible apply next_at hA; cbv) | (rw [hlook]; cbv))
            try cbv
            repeat (first | (with_reducible apply next_at hA; cbv) | (rw [hlook]; cbv))
            try simp (maxSteps := 4000000) only [nc] at *
            exact hK _ rfl
end Go.Proofs.Ytclehkgnacekkaa.Vm
end
section
namespace Go.Proofs.Ytclehkgnacekkaa.Vm
open Go.RowKit
set_option maxRecDepth 100000
set_option maxHeartbeats 4000000
theorem putC_len (op : Int) (nm : ByteArray) (a b : Int) (cs : List Cel) : cs.length ≤ (putC op nm a b cs).2.length ∧ (putC op nm a b cs).2.length ≤ cs.length + 1 := by
  unfold putC
  split <;> simp
theorem varC_len (op n lev : Int) (cs : List Cel) : cs.length ≤ (varC op n lev cs).2.length ∧ (varC op n lev cs).2.length ≤ cs.length + 1 := by
  unfold varC
  split <;> simp
theorem addF_len (lev : Int) (t : Ty) : ∀ cs : List Cel, cs.length ≤ (addF lev t cs).2.length ∧ (addF lev t cs).2.length ≤ cs.length + t.parts.length := by
  induction t using Ty.ind with
  | h t ih =>
    intro cs
    have hL : ∀ (ts : List Ty), (∀ x ∈ ts, ∀ cs : List Cel, cs.length ≤ (addF lev x cs).2.length ∧ (addF lev x cs).2.length ≤ cs.length + x.parts.length) → ∀ cs : List Cel, cs.length ≤ (addL lev ts cs).2.length ∧ (addL lev ts cs).2.length ≤ cs.length + (ts.flatMap Ty.parts).length := by
      intro ts
      induction ts with
      | nil => intro _ cs; rw [addL]; simp
      | cons x xs ihx =>
        intro h cs
        rw [addL]
        have h1 := h x (List.mem_cons_self ..) cs
        have h2 := ihx (fun y hy => h y (List.mem_cons_of_mem _ hy)) (addF lev x cs).2
        simp only [List.flatMap_cons, List.length_append]
        omega
    rw [addF_eq, parts_kids, List.length_cons]
    have h3 := hL t.kids ih cs
    split
    · have := varC_len t.op t.n lev cs; omega
    · have := putC_len t.op t.name (kA (addL lev t.kids cs).1) (kB (addL lev t.kids cs).1) (addL lev t.kids cs).2; omega
def addSpec (lev : Int) (t : Ty) (cs : List Cel) : Prop := SpecO 56 [.ptr 0 0, .ag (ofD (cT t)), vi .i64 lev] (PO cs) (fun res os => res = [vi .i64 ((addF lev t cs).1 : Nat)] ∧ os = PO (addF lev t cs).2)
theorem add_var (op : Int) (nm : ByteArray) (n lev : Int) (ks : List Ty) (hop : vrB op = true) (cs : List Cel) (hN : cs.length < 1048576) : addSpec lev (.mk op nm n ks) cs := by
  have hpv := pvar_s op
  have hva := variable9_s op n lev hop cs hN
  unfold addSpec
  rw [addF, if_pos hop, cT]
  rw [hop] at hpv
  obtain ⟨z, hz⟩ : ∃ z, z = (((varC op n lev cs).1 : Nat) : Int) := ⟨_, rfl⟩
  rw [← hz] at hva ⊢
  generalize (varC op n lev cs).2 = cs2 at *
  rw [PO_eq, PO_eq] at *
  generalize fndF 0 cs = F1 at *
  generalize vrsF 0 cs = W1 at *
  generalize nxtF cs = N1 at *
  generalize cs.map cC = C1 at *
  generalize fndF 0 cs2 = F2 at *
  generalize vrsF 0 cs2 = W2 at *
  generalize nxtF cs2 = N2 at *
  generalize cs2.map cC = C2 at *
  generalize rT ks = L at *
  unfold PQ at *
  refine speco_of Try.func56 rfl (by kernel_rfl) (by kernel_rfl) (by kernel_rfl) fun qa qb qc qd qe qf qg qh qi qj qk ql qm qo qp qs qt qu qv qx qy qz va vc vd ve vf vg vh vj vk vl vm vn vo vp vq vr vt hA => ?_
  cbv
  repeat (first | (with_reducible apply next_at hA; cbv) | (refine call_at hA _ hpv rfl ?_; cbv) | (refine calm_at hA _ hpv ?_; cbv))
  try cbv
  repeat (first | (with_reducible apply next_at hA; cbv) | (refine call_at hA _ hpv rfl ?_; cbv) | (refine calm_at hA _ hpv ?_; cbv))
  try simp (maxSteps := 4000000) only [nc] at *
  refine callo_at hA [0, 1, 2, 3] hva ⟨rfl, rfl, rfl, rfl, rfl, rfl, rfl⟩ ?_
  rintro _ _ ⟨rfl, rfl⟩
  cbv
  repeat (first | (with_reducible apply next_at hA; cbv))
  try cbv
  repeat (first | (with_reducible apply next_at hA; cbv))
  try simp (maxSteps := 4000000) only [nc] at *
  exact keep_is hA [0, 1, 2, 3] ⟨rfl, rfl, rfl, rfl, rfl, rfl, rfl, rfl⟩ ⟨rfl, rfl⟩
theorem add_nil (op : Int) (nm : ByteArray) (n lev : Int) (hop : vrB op = false) (cs : List Cel) (hN : cs.length < 1048576) : addSpec lev (.mk op nm n []) cs := by
  have hpv := pvar_s op
  have hva := put9_s op nm (-1) (-1) hop cs hN
  unfold addSpec
  rw [addF, if_neg (by simp [hop]), addL, cT]
  rw [hop] at hpv
  show SpecO _ _ _ (fun res os => res = [vi .i64 ((putC op nm (-1) (-1) cs).1 : Nat)] ∧ os = PO (putC op nm (-1) (-1) cs).2)
  obtain ⟨z, hz⟩ : ∃ z, z = (((putC op nm (-1) (-1) cs).1 : Nat) : Int) := ⟨_, rfl⟩
  rw [← hz] at hva ⊢
  generalize (putC op nm (-1) (-1) cs).2 = cs2 at *
  rw [PO_eq, PO_eq] at *
  generalize fndF 0 cs = F1 at *
  generalize vrsF 0 cs = W1 at *
  generalize nxtF cs = N1 at *
  generalize cs.map cC = C1 at *
  generalize fndF 0 cs2 = F2 at *
  generalize vrsF 0 cs2 = W2 at *
  generalize nxtF cs2 = N2 at *
  generalize cs2.map cC = C2 at *
  unfold PQ at *
  rw [rT]
  refine speco_of Try.func56 rfl (by kernel_rfl) (by kernel_rfl) (by kernel_rfl) fun qa qb qc qd qe qf qg qh qi qj qk ql qm qo qp qs qt qu qv qx qy qz va vc vd ve vf vg vh vj vk vl vm vn vo vp vq vr vt hA => ?_
  obtain ⟨e1, e2, e3, e4, e5, e6, e7, e8, e9⟩ := ar_at hA
  obtain ⟨r1, r2, r3, r4⟩ := row_at hA
  have h0 : qh 0 (qy []) = false := by rw [e7, r1]; rfl
  have h1 : qh 1 (qy []) = false := by rw [e7, r1]; rfl
  cbv
  repeat (first | (with_reducible apply next_at hA; cbv) | (rw [h0]; cbv) | (rw [h1]; cbv) | (refine call_at hA _ hpv rfl ?_; cbv) | (refine calm_at hA _ hpv ?_; cbv))
  try cbv
  repeat (first | (with_reducible apply next_at hA; cbv) | (rw [h0]; cbv) | (rw [h1]; cbv) | (refine call_at hA _ hpv rfl ?_; cbv) | (refine calm_at hA _ hpv ?_; cbv))
  try simp (maxSteps := 4000000) only [nc] at *
  refine callo_at hA [0, 1, 2, 3] hva ⟨rfl, rfl, rfl, rfl, rfl, rfl, rfl⟩ ?_
  rintro _ _ ⟨rfl, rfl⟩
  cbv
  repeat (first | (with_reducible apply next_at hA; cbv))
  try cbv
  repeat (first | (with_reducible apply next_at hA; cbv))
  try simp (maxSteps := 4000000) only [nc] at *
  exact keep_is hA [0, 1, 2, 3] ⟨rfl, rfl, rfl, rfl, rfl, rfl, rfl, rfl⟩ ⟨rfl, rfl⟩
theorem add_one (op : Int) (nm : ByteArray) (n lev : Int) (x : Ty) (hop : vrB op = false) (cs : List Cel) (hx : addSpec lev x cs) (hN : (addF lev x cs).2.length < 1048576) : addSpec lev (.mk op nm n [x]) cs := by
  have hpv := pvar_s op
  have hva := put9_s op nm ((addF lev x cs).1 : Int) (-1) hop (addF lev x cs).2 hN
  unfold addSpec at *
  rw [addF, if_neg (by simp [hop]), addL, addL, cT]
  rw [hop] at hpv
  show SpecO _ _ _ (fun res os => res = [vi .i64 ((putC op nm ((addF lev x cs).1 : Int) (-1) (addF lev x cs).2).1 : Nat)] ∧ os = PO (putC op nm ((addF lev x cs).1 : Int) (-1) (addF lev x cs).2).2)
  obtain ⟨z, hz⟩ : ∃ z, z = (((putC op nm ((addF lev x cs).1 : Int) (-1) (addF lev x cs).2).1 : Nat) : Int) := ⟨_, rfl⟩
  rw [← hz] at hva ⊢
  generalize (putC op nm ((addF lev x cs).1 : Int) (-1) (addF lev x cs).2).2 = cs2 at *
  obtain ⟨za, hza⟩ : ∃ za, za = (((addF lev x cs).1 : Nat) : Int) := ⟨_, rfl⟩
  rw [← hza] at hva hx
  generalize (addF lev x cs).2 = cs1 at *
  have hx4 := cT_four x
  have hr1 : rT [x] = [cT x] := by rw [rT, rT]
  obtain ⟨x0, x1, x2, x3, hxx⟩ := hx4
  rw [hr1, hxx]
  rw [hxx] at hx
  rw [PO_eq, PO_eq] at *
  generalize fndF 0 cs = F at *
  generalize vrsF 0 cs = W at *
  generalize nxtF cs = N at *
  generalize cs.map cC = C at *
  generalize fndF 0 cs1 = F1 at *
  generalize vrsF 0 cs1 = W1 at *
  generalize nxtF cs1 = N1 at *
  generalize cs1.map cC = C1 at *
  generalize fndF 0 cs2 = F2 at *
  generalize vrsF 0 cs2 = W2 at *
  generalize nxtF cs2 = N2 at *
  generalize cs2.map cC = C2 at *
  unfold PQ at *
  refine speco_of Try.func56 rfl (by kernel_rfl) (by kernel_rfl) (by kernel_rfl) fun qa qb qc qd qe qf qg qh qi qj qk ql qm qo qp qs qt qu qv qx qy qz va vc vd ve vf vg vh vj vk vl vm vn vo vp vq vr vt hA => ?_
  obtain ⟨e1, e2, e3, e4, e5, e6, e7, e8, e9⟩ := ar_at hA
  obtain ⟨r1, r2, r3, r4⟩ := row_at hA
  have h0 : qh 0 (qy [[x0, x1, x2, x3]]) = true := by rw [e7, r1]; rfl
  have h1 : qh 1 (qy [[x0, x1, x2, x3]]) = false := by rw [e7, r1]; rfl
  have g0 : qz [[x0, x1, x2, x3]] 0 = some [x0, x1, x2, x3] := by rw [r2]; rfl
  cbv
  repeat (first | (with_reducible apply next_at hA; cbv) | (rw [h0]; cbv) | (rw [h1]; cbv) | (rw [g0]; cbv) | (refine call_at hA _ hpv rfl ?_; cbv) | (refine calm_at hA _ hpv ?_; cbv))
  try cbv
  repeat (first | (with_reducible apply next_at hA; cbv) | (rw [h0]; cbv) | (rw [h1]; cbv) | (rw [g0]; cbv) | (refine call_at hA _ hpv rfl ?_; cbv) | (refine calm_at hA _ hpv ?_; cbv))
  try simp (maxSteps := 4000000) only [nc] at *
  refine callo_at hA [0, 1, 2, 3] hx ⟨rfl, rfl, rfl, rfl, rfl, rfl, rfl⟩ ?_
  rintro _ _ ⟨rfl, rfl⟩
  cbv
  repeat (first | (with_reducible apply next_at hA; cbv) | (rw [h0]; cbv) | (rw [h1]; cbv) | (rw [g0]; cbv))
  try cbv
  repeat (first | (with_reducible apply next_at hA; cbv) | (rw [h0]; cbv) | (rw [h1]; cbv) | (rw [g0]; cbv))
  try simp (maxSteps := 4000000) only [nc] at *
  refine callo_at hA [0, 1, 2, 3] hva ⟨rfl, rfl, rfl, rfl, rfl, rfl, rfl⟩ ?_
  rintro _ _ ⟨rfl, rfl⟩
  cbv
  repeat (first | (with_reducible apply next_at hA; cbv))
  try cbv
  repeat (first | (with_reducible apply next_at hA; cbv))
  try simp (maxSteps := 4000000) only [nc] at *
  exact keep_is hA [0, 1, 2, 3] ⟨rfl, rfl, rfl, rfl, rfl, rfl, rfl, rfl⟩ ⟨rfl, rfl⟩
theorem add_two (op : Int) (nm : ByteArray) (n lev : Int) (x y : Ty) (hop : vrB op = false) (cs : List Cel) (hx : addSpec lev x cs) (hy : addSpec lev y (addF lev x cs).2) (hN : (addF lev y (addF lev x cs).2).2.length < 1048576) : addSpec lev (.mk op nm n [x, y]) cs := by
  have hpv := pvar_s op
  have hva := put9_s op nm ((addF lev x cs).1 : Int) ((addF lev y (addF lev x cs).2).1 : Int) hop (addF lev y (addF lev x cs).2).2 hN
  unfold addSpec at *
  rw [addF, if_neg (by simp [hop]), addL, addL, addL, cT]
  rw [hop] at hpv
  show SpecO _ _ _ (fun res os => res = [vi .i64 ((putC op nm ((addF lev x cs).1 : Int) ((addF lev y (addF lev x cs).2).1 : Int) (addF lev y (addF lev x cs).2).2).1 : Nat)] ∧ os = PO (putC op nm ((addF lev x cs).1 : Int) ((addF lev y (addF lev x cs).2).1 : Int) (addF lev y (addF lev x cs).2).2).2)
  obtain ⟨z, hz⟩ : ∃ z, z = (((putC op nm ((addF lev x cs).1 : Int) ((addF lev y (addF lev x cs).2).1 : Int) (addF lev y (addF lev x cs).2).2).1 : Nat) : Int) := ⟨_, rfl⟩
  rw [← hz] at hva ⊢
  generalize (putC op nm ((addF lev x cs).1 : Int) ((addF lev y (addF lev x cs).2).1 : Int) (addF lev y (addF lev x cs).2).2).2 = cs3 at *
  obtain ⟨zb, hzb⟩ : ∃ zb, zb = (((addF lev y (addF lev x cs).2).1 : Nat) : Int) := ⟨_, rfl⟩
  rw [← hzb] at hva hy
  generalize (addF lev y (addF lev x cs).2).2 = cs2 at *
  obtain ⟨za, hza⟩ : ∃ za, za = (((addF lev x cs).1 : Nat) : Int) := ⟨_, rfl⟩
  rw [← hza] at hva hx
  generalize (addF lev x cs).2 = cs1 at *
  have hr1 : rT [x, y] = [cT x, cT y] := by rw [rT, rT, rT]
  obtain ⟨x0, x1, x2, x3, hxx⟩ := cT_four x
  obtain ⟨y0, y1, y2, y3, hyy⟩ := cT_four y
  rw [hr1, hxx, hyy]
  rw [hxx] at hx
  rw [hyy] at hy
  rw [PO_eq, PO_eq] at *
  generalize fndF 0 cs = F at *
  generalize vrsF 0 cs = W at *
  generalize nxtF cs = N at *
  generalize cs.map cC = C at *
  generalize fndF 0 cs1 = F1 at *
  generalize vrsF 0 cs1 = W1 at *
  generalize nxtF cs1 = N1 at *
  generalize cs1.map cC = C1 at *
  generalize fndF 0 cs2 = F2 at *
  generalize vrsF 0 cs2 = W2 at *
  generalize nxtF cs2 = N2 at *
  generalize cs2.map cC = C2 at *
  generalize fndF 0 cs3 = F3 at *
  generalize vrsF 0 cs3 = W3 at *
  generalize nxtF cs3 = N3 at *
  generalize cs3.map cC = C3 at *
  unfold PQ at *
  refine speco_of Try.func56 rfl (by kernel_rfl) (by kernel_rfl) (by kernel_rfl) fun qa qb qc qd qe qf qg qh qi qj qk ql qm qo qp qs qt qu qv qx qy qz va vc vd ve vf vg vh vj vk vl vm vn vo vp vq vr vt hA => ?_
  obtain ⟨e1, e2, e3, e4, e5, e6, e7, e8, e9⟩ := ar_at hA
  obtain ⟨r1, r2, r3, r4⟩ := row_at hA
  obtain ⟨rows, hrows⟩ : ∃ rows, rows = [[x0, x1, x2, x3], [y0, y1, y2, y3]] := ⟨_, rfl⟩
  have h0 : qh 0 (qy [[x0, x1, x2, x3], [y0, y1, y2, y3]]) = true := by rw [e7, r1]; rfl
  have h1 : qh 1 (qy [[x0, x1, x2, x3], [y0, y1, y2, y3]]) = true := by rw [e7, r1]; rfl
  have g0 : qz [[x0, x1, x2, x3], [y0, y1, y2, y3]] 0 = some [x0, x1, x2, x3] := by rw [r2]; rfl
  have g1 : qz [[x0, x1, x2, x3], [y0, y1, y2, y3]] 1 = some [y0, y1, y2, y3] := by rw [r2]; rfl
  rw [← hrows] at *
  cbv
  repeat (first | (with_reducible apply next_at hA; cbv) | (rw [h0]; cbv) | (rw [h1]; cbv) | (rw [g0]; cbv) | (rw [g1]; cbv) | (refine call_at hA _ hpv rfl ?_; cbv) | (refine calm_at hA _ hpv ?_; cbv))
  try cbv
  repeat (first | (with_reducible apply next_at hA; cbv) | (rw [h0]; cbv) | (rw [h1]; cbv) | (rw [g0]; cbv) | (rw [g1]; cbv) | (refine call_at hA _ hpv rfl ?_; cbv) | (refine calm_at hA _ hpv ?_; cbv))
  try simp (maxSteps := 4000000) only [nc] at *
  refine callo_at hA [0, 1, 2, 3] hx ⟨rfl, rfl, rfl, rfl, rfl, rfl, rfl⟩ ?_
  rintro _ _ ⟨rfl, rfl⟩
  cbv
  repeat (first | (with_reducible apply next_at hA; cbv) | (rw [h0]; cbv) | (rw [h1]; cbv) | (rw [g0]; cbv) | (rw [g1]; cbv))
  try cbv
  repeat (first | (with_reducible apply next_at hA; cbv) | (rw [h0]; cbv) | (rw [h1]; cbv) | (rw [g0]; cbv) | (rw [g1]; cbv))
  try simp (maxSteps := 4000000) only [nc] at *
  refine callo_at hA [0, 1, 2, 3] hy ⟨rfl, rfl, rfl, rfl, rfl, rfl, rfl⟩ ?_
  rintro _ _ ⟨rfl, rfl⟩
  cbv
  repeat (first | (with_reducible apply next_at hA; cbv) | (rw [h0]; cbv) | (rw [h1]; cbv) | (rw [g0]; cbv) | (rw [g1]; cbv))
  try cbv
  repeat (first | (with_reducible apply next_at hA; cbv) | (rw [h0]; cbv) | (rw [h1]; cbv) | (rw [g0]; cbv) | (rw [g1]; cbv))
  try simp (maxSteps := 4000000) only [nc] at *
  refine callo_at hA [0, 1, 2, 3] hva ⟨rfl, rfl, rfl, rfl, rfl, rfl, rfl⟩ ?_
  rintro _ _ ⟨rfl, rfl⟩
  cbv
  repeat (first | (with_reducible apply next_at hA; cbv))
  try cbv
  repeat (first | (with_reducible apply next_at hA; cbv))
  try simp (maxSteps := 4000000) only [nc] at *
  exact keep_is hA [0, 1, 2, 3] ⟨rfl, rfl, rfl, rfl, rfl, rfl, rfl, rfl⟩ ⟨rfl, rfl⟩
theorem add9_s (lev : Int) (t : Ty) : (∀ x ∈ t.parts, x.kids.length ≤ 2) → ∀ cs : List Cel, cs.length + t.parts.length ≤ 1048576 → addSpec lev t cs := by
  induction t using Ty.ind with
  | h t ih =>
    intro hth cs hN
    obtain ⟨op, nm, n, ks⟩ := t
    have hpp := parts_pos (.mk op nm n ks)
    have hk2 := hth (.mk op nm n ks) (by rw [parts_eq]; exact List.mem_cons_self ..)
    have hsub : ∀ x ∈ ks, ∀ y ∈ x.parts, y.kids.length ≤ 2 := fun x hx y hy => hth y (by rw [parts_kids]; exact List.mem_cons_of_mem _ (List.mem_flatMap.2 ⟨x, hx, hy⟩))
    cases hop : vrB op with
    | true => exact add_var op nm n lev ks hop cs (by omega)
    | false =>
      rw [parts_kids, List.length_cons] at hN
      simp only [Ty.kids] at hN hk2 ih
      match ks, hN, hk2, ih, hsub with
      | [], hN, _, ih, hsub => exact add_nil op nm n lev hop cs (by simp at hN; omega)
      | [x], hN, _, ih, hsub =>
        simp only [List.flatMap_cons, List.flatMap_nil, List.append_nil] at hN
        have := addF_len lev x cs
        exact add_one op nm n lev x hop cs (ih x (by simp) (hsub x (by simp)) cs (by omega)) (by omega)
      | [x, y], hN, _, ih, hsub =>
        simp only [List.flatMap_cons, List.flatMap_nil, List.append_nil, List.length_append] at hN
        have h1 := addF_len lev x cs
        have h2 := addF_len lev y (addF lev x cs).2
        exact add_two op nm n lev x y hop cs (ih x (by simp) (hsub x (by simp)) cs (by omega)) (ih y (by simp) (hsub y (by simp)) _ (by omega)) (by omega)
      | _ :: _ :: _ :: _, _, h, _, _ => simp at h
end Go.Proofs.Ytclehkgnacekkaa.Vm
end
section
namespace Go.Proofs.Ytclehkgnacekkaa.Vm
open Go.RowKit
set_option maxRecDepth 100000
set_option maxHeartbeats 4000000
def addsB (cs : List Cel) (t : Ty) : Bool := eitherT t && sortedB cs t
theorem shape_kids2 {t : Ty} {s : Int} (h : shapeB wordB t s = true) : ∀ x ∈ t.parts, x.kids.length ≤ 2 := fun x hx => by
  obtain ⟨c, hc⟩ := shape_parts_all t s h x hx
  obtain ⟨k, h0, h1, h2, -⟩ := shape_parts hc
  rw [h2]
  unfold kidsS at h0
  repeat' split at h0
  all_goals first | (cases h0; decide) | cases h0
theorem Add9_yes (t : Ty) (ht : Sm t) (lev : Int) (cs : List Cel) (h : addsB cs t = true) (hN : cs.length + t.parts.length ≤ 1048576) : SpecO 24 [.ptr 0 0, .ag (ofD (cT t)), vi .i64 lev] (PO cs) (fun res os => res = [vi .i64 ((addF lev (canonS t) cs).1 : Nat), vi .u8 0] ∧ os = PO (addF lev (canonS t) cs).2) := by
  have h1 := PRight_s t ht.1 ht.2
  have h2 := PRow_s t ht.1 ht.2
  have h3 := sorted9_s cs t ht.1
  have h4 := Canon_s t ht
  unfold sortSpec9 RdP at h3
  unfold addsB at h
  simp only [Bool.and_eq_true] at h
  obtain ⟨he, hs⟩ := h
  obtain ⟨s, hsh⟩ := either_shape he
  have h5 := add9_s lev (canonS t) (shape_kids2 (canon_shape _ t s (Nat.le_refl _) hsh)) cs (by rw [canon_len _ t (Nat.le_refl _) (shape_spineAll hsh)]; exact hN)
  unfold addSpec at h5
  rw [if_pos he] at h4
  rw [hs] at h3
  unfold eitherT at he
  obtain ⟨a0, a1, a2, a3, ha⟩ := cT_four t
  obtain ⟨c0, c1, c2, c3, hc⟩ := cT_four (canonS t)
  rw [ha] at h1 h2 h3 h4 ⊢
  rw [hc] at h4 h5
  generalize rightB t 116 = b1 at *
  generalize rightB t 114 = b2 at *
  generalize (addF lev (canonS t) cs).2 = cs2 at *
  generalize (((addF lev (canonS t) cs).1 : Nat) : Int) = z at *
  rw [PO_eq, PO_eq] at *
  generalize fndF 0 cs = F1 at *
  generalize vrsF 0 cs = W1 at *
  generalize nxtF cs = N1 at *
  generalize cs.map cC = C1 at *
  generalize fndF 0 cs2 = F2 at *
  generalize vrsF 0 cs2 = W2 at *
  generalize nxtF cs2 = N2 at *
  generalize cs2.map cC = C2 at *
  unfold PQ at *
  cases b1 <;> cases b2 <;> simp only [Bool.or_false, Bool.or_true, Bool.true_or, Bool.false_or] at he
  all_goals try (cases he; done)
  all_goals
    refine speco_of Try.func24 rfl (by kernel_rfl) (by kernel_rfl) (by kernel_rfl) fun qa qb qc qd qe qf qg qh qi qj qk ql qm qo qp qs qt qu qv qx qy qz va vc vd ve vf vg vh vj vk vl vm vn vo vp vq vr vt hA => ?_
    cbv
    repeat (first | (with_reducible apply next_at hA; cbv) | (refine call_at hA _ h1 rfl ?_; cbv) | (refine calm_at hA _ h1 ?_; cbv) | (refine call_at hA _ h2 rfl ?_; cbv) | (refine calm_at hA _ h2 ?_; cbv))
    try cbv
    repeat (first | (with_reducible apply next_at hA; cbv) | (refine call_at hA _ h1 rfl ?_; cbv) | (refine calm_at hA _ h1 ?_; cbv) | (refine call_at hA _ h2 rfl ?_; cbv) | (refine calm_at hA _ h2 ?_; cbv))
    try simp (maxSteps := 4000000) only [nc] at *
    refine rd_at hA [0, 1, 2, 3] h3 ⟨rfl, rfl, rfl, rfl, rfl, rfl, rfl⟩ rfl ?_
    rintro _ rfl
    cbv
    repeat (first | (with_reducible apply next_at hA; cbv) | (refine call_at hA _ h4 rfl ?_; cbv) | (refine calm_at hA _ h4 ?_; cbv))
    try cbv
    repeat (first | (with_reducible apply next_at hA; cbv) | (refine call_at hA _ h4 rfl ?_; cbv) | (refine calm_at hA _ h4 ?_; cbv))
    try simp (maxSteps := 4000000) only [nc] at *
    refine callo_at hA [0, 1, 2, 3] h5 ⟨rfl, rfl, rfl, rfl, rfl, rfl, rfl⟩ ?_
    rintro _ _ ⟨rfl, rfl⟩
    cbv
    repeat (first | (with_reducible apply next_at hA; cbv))
    try cbv
    repeat (first | (with_reducible apply next_at hA; cbv))
    try simp (maxSteps := 4000000) only [nc] at *
    exact keep_is hA [0, 1, 2, 3] ⟨rfl, rfl, rfl, rfl, rfl, rfl, rfl, rfl⟩ ⟨rfl, rfl⟩
def sortsO (op : Int) : Option (List Bool) := if op = 1 ∨ op = 2 ∨ op = 3 ∨ op = 8 ∨ op = 9 then some [] else if op = 4 then some [false, false] else if op = 5 ∨ op = 6 then some [true] else if op = 11 then some [false, true] else none
def rBo (l : List Bool) : List (List D) := l.map fun b => [.sc (.bool b)]
def sortsZ (op : Int) : Nat := match sortsO op with | some (_ :: _) => 1 | _ => 0
theorem gdsorts : Good 62 Try.f62 (Try.f62.body.getD .skip) := ⟨Try.func62, rfl, by kernel_rfl, by kernel_rfl, by kernel_rfl⟩
theorem sorts_1 : Spec 62 [.one (.sc (.int .u8 1))] [.one (.sl 0 []), .one (.sc (.bool true))] := conc_spec (T := .nil) (hint := fun _ => true) (n := 5) gdsorts (by kernel_rfl)
theorem sorts_2 : Spec 62 [.one (.sc (.int .u8 2))] [.one (.sl 0 []), .one (.sc (.bool true))] := conc_spec (T := .nil) (hint := fun _ => true) (n := 5) gdsorts (by kernel_rfl)
theorem sorts_3 : Spec 62 [.one (.sc (.int .u8 3))] [.one (.sl 0 []), .one (.sc (.bool true))] := conc_spec (T := .nil) (hint := fun _ => true) (n := 5) gdsorts (by kernel_rfl)
theorem sorts_4 : Spec 62 [.one (.sc (.int .u8 4))] [.one (.sl 1 [[.sc (.bool false)], [.sc (.bool false)]]), .one (.sc (.bool true))] := conc_spec (T := .nil) (hint := fun _ => true) (n := 5) gdsorts (by kernel_rfl)
theorem sorts_5 : Spec 62 [.one (.sc (.int .u8 5))] [.one (.sl 1 [[.sc (.bool true)]]), .one (.sc (.bool true))] := conc_spec (T := .nil) (hint := fun _ => true) (n := 5) gdsorts (by kernel_rfl)
theorem sorts_6 : Spec 62 [.one (.sc (.int .u8 6))] [.one (.sl 1 [[.sc (.bool true)]]), .one (.sc (.bool true))] := conc_spec (T := .nil) (hint := fun _ => true) (n := 5) gdsorts (by kernel_rfl)
theorem sorts_8 : Spec 62 [.one (.sc (.int .u8 8))] [.one (.sl 0 []), .one (.sc (.bool true))] := conc_spec (T := .nil) (hint := fun _ => true) (n := 5) gdsorts (by kernel_rfl)
theorem sorts_9 : Spec 62 [.one (.sc (.int .u8 9))] [.one (.sl 0 []), .one (.sc (.bool true))] := conc_spec (T := .nil) (hint := fun _ => true) (n := 5) gdsorts (by kernel_rfl)
theorem sorts_11 : Spec 62 [.one (.sc (.int .u8 11))] [.one (.sl 1 [[.sc (.bool false)], [.sc (.bool true)]]), .one (.sc (.bool true))] := conc_spec (T := .nil) (hint := fun _ => true) (n := 5) gdsorts (by kernel_rfl)
theorem sorts_no (op : Int) (h1 : op ≠ 1) (h2 : op ≠ 2) (h3 : op ≠ 3) (h4 : op ≠ 4) (h5 : op ≠ 5) (h6 : op ≠ 6) (h8 : op ≠ 8) (h9 : op ≠ 9) (h11 : op ≠ 11) : Spec 62 [.one (.sc (.int .u8 op))] [.one (.sl 0 []), .one (.sc (.bool false))] := by
  refine spec_of Try.func62 rfl (by kernel_rfl) (by kernel_rfl) (by kernel_rfl) fun qa qb qc qd qe qf qg qh qi qj qk ql qm qo qp qs qt qu qv qx qy qz va vc vd ve vf vg vh vj vk vl vm vn vo vp vq vr vt hA => ?_
  obtain ⟨e1, e2, e3, e4, e5, e6, e7, e8, e9⟩ := ar_at hA
  have q1 : qj op 1 = false := by rw [e9]; exact beq_eq_false_iff_ne.2 h1
  have q2 : qj op 2 = false := by rw [e9]; exact beq_eq_false_iff_ne.2 h2
  have q3 : qj op 3 = false := by rw [e9]; exact beq_eq_false_iff_ne.2 h3
  have q4 : qj op 4 = false := by rw [e9]; exact beq_eq_false_iff_ne.2 h4
  have q5 : qj op 5 = false := by rw [e9]; exact beq_eq_false_iff_ne.2 h5
  have q6 : qj op 6 = false := by rw [e9]; exact beq_eq_false_iff_ne.2 h6
  have q8 : qj op 8 = false := by rw [e9]; exact beq_eq_false_iff_ne.2 h8
  have q9 : qj op 9 = false := by rw [e9]; exact beq_eq_false_iff_ne.2 h9
  have q11 : qj op 11 = false := by rw [e9]; exact beq_eq_false_iff_ne.2 h11
  cbv
  repeat (first | (with_reducible apply next_at hA; cbv) | (rw [q1]; cbv) | (rw [q2]; cbv) | (rw [q3]; cbv) | (rw [q4]; cbv) | (rw [q5]; cbv) | (rw [q6]; cbv) | (rw [q8]; cbv) | (rw [q9]; cbv) | (rw [q11]; cbv))
  try cbv
  repeat (first | (with_reducible apply next_at hA; cbv) | (rw [q1]; cbv) | (rw [q2]; cbv) | (rw [q3]; cbv) | (rw [q4]; cbv) | (rw [q5]; cbv) | (rw [q6]; cbv) | (rw [q8]; cbv) | (rw [q9]; cbv) | (rw [q11]; cbv))
  try simp (maxSteps := 4000000) only [nc] at *
theorem sorts9_s (op : Int) : Spec 62 [.one (.sc (.int .u8 op))] [.one (.sl (sortsZ op) (rBo ((sortsO op).getD []))), .one (.sc (.bool (sortsO op).isSome))] := by
  by_cases h1 : op = 1
  · subst h1; exact sorts_1
  by_cases h2 : op = 2
  · subst h2; exact sorts_2
  by_cases h3 : op = 3
  · subst h3; exact sorts_3
  by_cases h4 : op = 4
  · subst h4; exact sorts_4
  by_cases h5 : op = 5
  · subst h5; exact sorts_5
  by_cases h6 : op = 6
  · subst h6; exact sorts_6
  by_cases h8 : op = 8
  · subst h8; exact sorts_8
  by_cases h9 : op = 9
  · subst h9; exact sorts_9
  by_cases h11 : op = 11
  · subst h11; exact sorts_11
  have e : sortsO op = none := by unfold sortsO; rw [if_neg (by omega), if_neg h4, if_neg (by omega), if_neg h11]
  unfold sortsZ
  rw [e]
  exact sorts_no op h1 h2 h3 h4 h5 h6 h8 h9 h11
theorem Int_s : Spec 64 [] [.ag [.sc (.int .u8 1), .sc (.string ⟨#[]⟩), .sc (.int .i64 0), .sl 0 []]] := by
  refine spec_of Try.func64 rfl (by kernel_rfl) (by kernel_rfl) (by kernel_rfl) fun qa qb qc qd qe qf qg qh qi qj qk ql qm qo qp qs qt qu qv qx qy qz va vc vd ve vf vg vh vj vk vl vm vn vo vp vq vr vt hA => ?_
  cbv
  repeat ((with_reducible apply next_at hA); cbv)
end Go.Proofs.Ytclehkgnacekkaa.Vm
end
section
namespace Go.Proofs.Ytclehkgnacekkaa.Vm
open Go.RowKit
inductive LikeD : D → D → Prop
  | refl (d : D) : LikeD d d
  | nil (n m : Nat) : LikeD (.sl n []) (.sl m [])
  | sl (sz : Nat) (rows rows' : List (List D)) (hl : rows.length = rows'.length) (hr : ∀ r ∈ rows', r.length = sz) (hf : rows.flatten.length = rows'.flatten.length)
      (h : ∀ (i : Nat) (d d' : D), rows.flatten[i]? = some d → rows'.flatten[i]? = some d' → LikeD d d') : LikeD (.sl sz rows) (.sl sz rows')
theorem LikeD.at {d d' : D} (h : LikeD d d') : ∀ {I : Nat → Nat → Prop} {w : World} {v : Value}, AtD I w v d → AtD I w v d' := by
  induction h with
  | refl d => exact fun h => h
  | nil n m => exact fun h => h.empty m
  | sl sz rows rows' hl hr hf _ ih =>
    intro I w v h
    generalize hd : D.sl sz rows = d at h
    cases h with
    | sc v hv => cases hd
    | nil A cap sz2 =>
      injection hd with e1 e2
      subst e2
      have : rows' = [] := List.eq_nil_of_length_eq_zero (by rw [← hl]; rfl)
      subst this
      exact .nil _ _ _
    | sl b off cap sz2 rows2 us hcap hI hr2 hlen hc hdd =>
      injection hd with e1 e2
      subst e1
      subst e2
      rw [hl]
      refine .sl b off cap sz rows' us (by omega) (by rw [← hl]; exact hI) hr (by rw [← hl]; exact hlen) hc fun i u d' hu hd' => ?_
      have hlt : i < rows.flatten.length := by rw [hf]; exact (List.getElem?_eq_some_iff.1 hd').1
      exact ih i _ d' (List.getElem?_eq_getElem hlt) hd' (hdd i u _ hu (List.getElem?_eq_getElem hlt))
def LikeDs (ds ds' : List D) : Prop := ds.length = ds'.length ∧ ∀ (i : Nat) (d d' : D), ds[i]? = some d → ds'[i]? = some d' → LikeD d d'
theorem LikeDs.at {ds ds' : List D} (h : LikeDs ds ds') {I : Nat → Nat → Prop} {w : World} {us : List Value} (hu : AtDs I w us ds) : AtDs I w us ds' :=
  ⟨hu.1.trans h.1, fun i u d' hui hd' => by
    have hlt : i < ds.length := by rw [h.1]; exact (List.getElem?_eq_some_iff.1 hd').1
    exact (h.2 i _ d' (List.getElem?_eq_getElem hlt) hd').at (hu.2 i u _ hui (List.getElem?_eq_getElem hlt))⟩
inductive LikeR : R → R → Prop
  | one {d d' : D} (h : LikeD d d') : LikeR (.one d) (.one d')
  | ag {ds ds' : List D} (h : LikeDs ds ds') : LikeR (.ag ds) (.ag ds')
theorem LikeR.at {r r' : R} (h : LikeR r r') {I : Nat → Nat → Prop} {w : World} {v : Value} (hv : AtR I w v r) : AtR I w v r' := by
  cases h with
  | one h => exact h.at hv
  | ag h => obtain ⟨us, e, h2⟩ := hv; exact ⟨us, e, h.at h2⟩
def LikeRs : List R → List R → Prop
  | [], [] => True
  | r :: rs, r' :: rs' => LikeR r r' ∧ LikeRs rs rs'
  | _, _ => False
theorem LikeRs.at : ∀ {rs rs' : List R}, LikeRs rs rs' → ∀ {I : Nat → Nat → Prop} {w : World} {us : List Value}, AtRs I w us rs → AtRs I w us rs'
  | [], [], _, _, _, us, h => h
  | r :: rs, r' :: rs', h, I, w, us, hu => by
    match us, hu with
    | u :: us, hu => exact ⟨h.1.at hu.1, LikeRs.at h.2 hu.2⟩
theorem Spec.like {f : Nat} {rs rs' q : List R} (h : Spec f rs q) (hl : LikeRs rs' rs) : Spec f rs' q := ⟨h.1, fun I w args hI hat => h.2 I w args hI (hl.at hat)⟩
theorem LikeRs.res : ∀ {q q' : List R}, LikeRs q q' → ∀ {I : Nat → Nat → Prop} {w : World} {v : Value}, AtRes I w v q → AtRes I w v q'
  | [], [], _, _, _, v, h => h
  | [r], [r'], h, _, _, v, hv => h.1.at hv
  | r :: s :: rs, r' :: s' :: rs', h, _, _, v, hv => by
    obtain ⟨us, e, h2⟩ := hv
    exact ⟨us, e, h.at h2⟩
theorem Spec.likeq {f : Nat} {rs q q' : List R} (h : Spec f rs q) (hl : LikeRs q q') : Spec f rs q' := h.mono fun I w v hv => hl.res hv
theorem LikeR.same (r : R) : LikeR r r := by
  cases r with
  | one x => exact .one (.refl _)
  | ag xs => exact .ag ⟨rfl, fun i d d' h h' => by rw [h] at h'; cases h'; exact .refl _⟩
theorem LikeD.empty (m n : Nat) : LikeD (.sl m []) (.sl n []) := .nil m n
theorem LikeDs.nil : LikeDs [] [] := ⟨rfl, fun i d d' h => by simp at h⟩
theorem LikeDs.cons {d d' : D} {ds ds' : List D} (h : LikeD d d') (hs : LikeDs ds ds') : LikeDs (d :: ds) (d' :: ds') :=
  ⟨by simp [hs.1], fun i x y hx hy => by
    cases i with
    | zero => simp at hx hy; subst hx; subst hy; exact h
    | succ i => exact hs.2 i x y (by simpa using hx) (by simpa using hy)⟩
theorem LikeDs.same (ds : List D) : LikeDs ds ds := ⟨rfl, fun i d d' h h' => by rw [h] at h'; cases h'; exact .refl _⟩
theorem LikeDs.four (a b c : D) {d d' : D} (h : LikeD d d') : LikeDs [a, b, c, d] [a, b, c, d'] := .cons (.refl _) (.cons (.refl _) (.cons (.refl _) (.cons h .nil)))
theorem LikeD.two {a b a' b' : List D} {sz : Nat} (ha : LikeDs a a') (hb : LikeDs b b') (h1 : a'.length = sz) (h2 : b'.length = sz) : LikeD (.sl sz [a, b]) (.sl sz [a', b']) := by
  refine .sl sz _ _ rfl (fun r hr => ?_) (by simp [ha.1, hb.1]) fun i d d' hd hd' => ?_
  · simp at hr
    rcases hr with rfl | rfl
    · exact h1
    · exact h2
  · simp only [List.flatten_cons, List.flatten_nil, List.append_nil] at hd hd'
    rcases Nat.lt_or_ge i a.length with hi | hi
    · rw [List.getElem?_append_left hi] at hd
      rw [List.getElem?_append_left (by rw [← ha.1]; exact hi)] at hd'
      exact ha.2 i d d' hd hd'
    · rw [List.getElem?_append_right hi] at hd
      rw [List.getElem?_append_right (by rw [← ha.1]; exact hi), ← ha.1] at hd'
      exact hb.2 _ d d' hd hd'
end Go.Proofs.Ytclehkgnacekkaa.Vm
end
section
namespace Go.Proofs.Ytclehkgnacekkaa.Vm
open Go.RowKit
set_option maxRecDepth 100000
set_option maxHeartbeats 4000000
def wordRow (nm : ByteArray) : Ty := .mk 11 nm 0 [.mk 1 ⟨#[]⟩ 0 [], .mk 8 ⟨#[]⟩ 0 []]
theorem word_row (nm : ByteArray) : rightB (wordRow nm) 114 = wordB nm := by
  have h1 : onceB (wordRow nm) = true := by
    unfold wordRow onceB
    rw [parts_kids]
    simp only [Ty.kids, List.flatMap_cons, List.flatMap_nil, List.append_nil]
    rw [parts_kids, parts_kids]
    simp [Ty.kids, clashB, Ty.op]
  unfold rightB
  rw [h1, Bool.and_true]
  unfold wordRow
  rw [shapeB, show kidsS 11 = some [116, 114] from rfl]
  simp only [Option.getD_some]
  rw [shapesB, shapesB, shapesB, shapeB, shapeB, show kidsS 1 = some [] from rfl, show kidsS 8 = some [] from rfl]
  simp only [Option.getD_some]
  rw [shapesB]
  unfold headB
  simp [Ty.op, Ty.kids, Ty.name, Ty.n, kidsS]
def emT (op : Int) : List D := [.sc (.int .u8 op), .sc (.string ⟨#[]⟩), .sc (.int .i64 0), .sl 0 []]
theorem copied_em (op : Int) : Spec 113 [.ag (emT op)] [.ag (emT op)] := by
  have h := copied_s (.mk op ⟨#[]⟩ 0 []) (by rw [parts_kids]; simp [Ty.kids])
  rw [cT, rT] at h
  exact (h.like (rs' := [.ag (emT op)]) ⟨.ag (.four _ _ _ (.nil 0 4)), trivial⟩).sl0 0
theorem join_word (nm : ByteArray) : Spec 63 [.one (.sl 5 [.sc (.string nm) :: emT 1]), .ag (emT 8)] [.ag [.sc (.int .u8 11), .sc (.string nm), .sc (.int .i64 0), .sl 4 [emT 1, emT 8]]] :=
  join_s [.sc (.string nm) :: emT 1] _ _ _ _ (by simp) (copied_em 8) fun r hr => by
    simp at hr
    subst hr
    exact ⟨_, _, _, _, _, rfl, copied_em 1⟩
theorem row_word (nm : ByteArray) (hn : nm.size ≤ 1048576) : Spec 54 [.ag [.sc (.int .u8 11), .sc (.string nm), .sc (.int .i64 0), .sl 4 [emT 1, emT 8]]] [.one (.sc (.bool (wordB nm)))] := by
  have h := PRow_s (wordRow nm) (by unfold wordRow; rw [parts_kids]; simp only [Ty.kids, List.flatMap_cons, List.flatMap_nil]; rw [parts_kids, parts_kids]; simp [Ty.kids]) (fun x hx => by
    unfold wordRow at hx
    rw [parts_kids] at hx
    simp only [Ty.kids, List.flatMap_cons, List.flatMap_nil, List.append_nil] at hx
    rw [parts_kids, parts_kids] at hx
    simp [Ty.kids] at hx
    rcases hx with rfl | rfl | rfl
    · exact hn
    · exact Nat.zero_le _
    · exact Nat.zero_le _)
  rw [word_row] at h
  unfold wordRow at h
  rw [cT, rT, rT, rT, cT, cT, rT] at h
  exact h.like ⟨.ag (.four _ _ _ (.two (.four _ _ _ (.nil 0 4)) (.four _ _ _ (.nil 0 4)) rfl rfl)), trivial⟩
def kidOk (cs : List Cel) (p : Int × Bool) : Bool := match (if 0 ≤ p.1 then cs[p.1.toNat]? else none) with | some c => decide (8 ≤ c.op) == p.2 | none => false
def makeB (cs : List Cel) (op : Int) (nm : ByteArray) (rs : List Int) : Bool := match sortsO op with
  | none => false
  | some l => decide (l.length = rs.length) && ((decide (nm = ⟨#[]⟩) || (op == 11)) && ((!(op == 11) || wordB nm) && (List.zip rs l).all (kidOk cs)))
theorem bytes_nil (nm : ByteArray) : (nm.toList == (⟨#[]⟩ : ByteArray).toList) = decide (nm = ⟨#[]⟩) := by
  by_cases h : nm = ⟨#[]⟩
  · subst h; simp
  · rw [decide_eq_false h]
    exact beq_eq_false_iff_ne.2 fun e => h (bytes_toList.1 e)
theorem eq_dec (n m : Nat) : ((n : Int) == (m : Int)) = decide (n = m) := by
  by_cases h : n = m
  · subst h; simp
  · rw [decide_eq_false h]
    exact beq_eq_false_iff_ne.2 (by omega)
theorem eqi_dec (n m : Int) : (n == m) = decide (n = m) := by
  by_cases h : n = m
  · subst h; simp
  · rw [decide_eq_false h]
    exact beq_eq_false_iff_ne.2 h
theorem make_bad (op : Int) (nm : ByteArray) (rs : List Int) (cs : List Cel) (hn : nm.size ≤ 1048576) (h : (sortsO op).isSome = false ∨ ((sortsO op).getD []).length ≠ rs.length ∨ (nm ≠ ⟨#[]⟩ ∧ op ≠ 11) ∨ (op = 11 ∧ wordB nm = false)) :
    SpecO 31 [.ptr 0 0, vi .u8 op, vs nm, .d (.sl 1 (rI rs))] (PO cs) (fun res os => res = [vi .i64 0, vi .u8 15] ∧ os = PO cs) := by
  have h1 := sorts9_s op
  have h2 := join_word nm
  have h3 := row_word nm hn
  have hI := Int_s
  have hBL : (rBo ((sortsO op).getD [])).length = ((sortsO op).getD []).length := by unfold rBo; rw [List.length_map]
  have hRL := rI_len rs
  unfold emT at *
  generalize rBo ((sortsO op).getD []) = BL at *
  generalize ((sortsO op).getD []).length = n1 at *
  generalize (sortsO op).isSome = b1 at *
  generalize sortsZ op = z1 at *
  generalize wordB nm = w1 at *
  obtain ⟨RL, hRLe⟩ : ∃ RL, RL = rI rs := ⟨_, rfl⟩
  rw [← hRLe] at hRL ⊢
  rw [PO_eq] at *
  generalize fndF 0 cs = F1 at *
  generalize vrsF 0 cs = W1 at *
  generalize nxtF cs = N1 at *
  generalize cs.map cC = C1 at *
  unfold PQ at *
  have hnil := bytes_nil nm
  refine speco_of Try.func31 rfl (by kernel_rfl) (by kernel_rfl) (by kernel_rfl) fun qa qb qc qd qe qf qg qh qi qj qk ql qm qo qp qs qt qu qv qx qy qz va vc vd ve vf vg vh vj vk vl vm vn vo vp vq vr vt hA => ?_
  obtain ⟨e1, e2, e3, e4, e5, e6, e7, e8, e9⟩ := ar_at hA
  obtain ⟨r1, r2, r3, r4⟩ := row_at hA
  obtain ⟨s1, s2, s3, -⟩ := str_at hA
  have q1 : qj (qy BL) (qy RL) = decide (n1 = rs.length) := by rw [e9, r1, r1, hBL, hRL]; exact eq_dec n1 rs.length
  have q2 : ql (qo nm) (qo ⟨#[]⟩) = decide (nm = ⟨#[]⟩) := by rw [s1, s3, s3]; exact hnil
  have q3 : qj op 11 = decide (op = 11) := by rw [e9]; exact eqi_dec op 11
  cases b1 with
  | false =>
    cbv
    repeat (first | (with_reducible apply next_at hA; cbv) | (refine call_at hA _ h1 rfl ?_; cbv) | (refine calm_at hA _ h1 ?_; cbv))
    try cbv
    repeat (first | (with_reducible apply next_at hA; cbv) | (refine call_at hA _ h1 rfl ?_; cbv) | (refine calm_at hA _ h1 ?_; cbv))
    try simp (maxSteps := 4000000) only [nc] at *
    exact keep_is hA [0, 1, 2, 3] ⟨rfl, rfl, rfl, rfl, rfl, rfl, rfl, rfl⟩ ⟨rfl, rfl⟩
  | true =>
    by_cases c1 : n1 = rs.length
    · rw [decide_eq_true c1] at q1
      by_cases c3 : op = 11
      · rw [decide_eq_true c3] at q3
        obtain rfl : w1 = false := by
          rcases h with h | h | h | h
          · cases h
          · exact absurd c1 h
          · exact absurd c3 h.2
          · exact h.2
        by_cases c2 : nm = ⟨#[]⟩
        · rw [decide_eq_true c2] at q2
          cbv
          repeat (first | (with_reducible apply next_at hA; cbv) | (rw [q1]; cbv) | (rw [q2]; cbv) | (rw [q3]; cbv) | (refine call_at hA _ h1 rfl ?_; cbv) | (refine calm_at hA _ h1 ?_; cbv) | (refine call_at hA _ hI rfl ?_; cbv) | (refine calm_at hA _ hI ?_; cbv) | (refine call_at hA _ h2 rfl ?_; cbv) | (refine calm_at hA _ h2 ?_; cbv) | (refine call_at hA _ h3 rfl ?_; cbv) | (refine calm_at hA _ h3 ?_; cbv) | (refine lit_at hA true ?_; cbv))
          try cbv
          repeat (first | (with_reducible apply next_at hA; cbv) | (rw [q1]; cbv) | (rw [q2]; cbv) | (rw [q3]; cbv) | (refine call_at hA _ h1 rfl ?_; cbv) | (refine calm_at hA _ h1 ?_; cbv) | (refine call_at hA _ hI rfl ?_; cbv) | (refine calm_at hA _ hI ?_; cbv) | (refine call_at hA _ h2 rfl ?_; cbv) | (refine calm_at hA _ h2 ?_; cbv) | (refine call_at hA _ h3 rfl ?_; cbv) | (refine calm_at hA _ h3 ?_; cbv) | (refine lit_at hA true ?_; cbv))
          try simp (maxSteps := 4000000) only [nc] at *
          exact keep_is hA [0, 1, 2, 3] ⟨rfl, rfl, rfl, rfl, rfl, rfl, rfl, rfl⟩ ⟨rfl, rfl⟩
        · rw [decide_eq_false c2] at q2
          cbv
          repeat (first | (with_reducible apply next_at hA; cbv) | (rw [q1]; cbv) | (rw [q2]; cbv) | (rw [q3]; cbv) | (refine call_at hA _ h1 rfl ?_; cbv) | (refine calm_at hA _ h1 ?_; cbv) | (refine call_at hA _ hI rfl ?_; cbv) | (refine calm_at hA _ hI ?_; cbv) | (refine call_at hA _ h2 rfl ?_; cbv) | (refine calm_at hA _ h2 ?_; cbv) | (refine call_at hA _ h3 rfl ?_; cbv) | (refine calm_at hA _ h3 ?_; cbv) | (refine lit_at hA true ?_; cbv))
          try cbv
          repeat (first | (with_reducible apply next_at hA; cbv) | (rw [q1]; cbv) | (rw [q2]; cbv) | (rw [q3]; cbv) | (refine call_at hA _ h1 rfl ?_; cbv) | (refine calm_at hA _ h1 ?_; cbv) | (refine call_at hA _ hI rfl ?_; cbv) | (refine calm_at hA _ hI ?_; cbv) | (refine call_at hA _ h2 rfl ?_; cbv) | (refine calm_at hA _ h2 ?_; cbv) | (refine call_at hA _ h3 rfl ?_; cbv) | (refine calm_at hA _ h3 ?_; cbv) | (refine lit_at hA true ?_; cbv))
          try simp (maxSteps := 4000000) only [nc] at *
          exact keep_is hA [0, 1, 2, 3] ⟨rfl, rfl, rfl, rfl, rfl, rfl, rfl, rfl⟩ ⟨rfl, rfl⟩
      · rw [decide_eq_false c3] at q3
        obtain c2 : nm ≠ ⟨#[]⟩ := by
          rcases h with h | h | h | h
          · cases h
          · exact absurd c1 h
          · exact h.1
          · exact absurd h.1 c3
        rw [decide_eq_false c2] at q2
        cbv
        repeat (first | (with_reducible apply next_at hA; cbv) | (rw [q1]; cbv) | (rw [q2]; cbv) | (rw [q3]; cbv) | (refine call_at hA _ h1 rfl ?_; cbv) | (refine calm_at hA _ h1 ?_; cbv))
        try cbv
        repeat (first | (with_reducible apply next_at hA; cbv) | (rw [q1]; cbv) | (rw [q2]; cbv) | (rw [q3]; cbv) | (refine call_at hA _ h1 rfl ?_; cbv) | (refine calm_at hA _ h1 ?_; cbv))
        try simp (maxSteps := 4000000) only [nc] at *
        exact keep_is hA [0, 1, 2, 3] ⟨rfl, rfl, rfl, rfl, rfl, rfl, rfl, rfl⟩ ⟨rfl, rfl⟩
    · rw [decide_eq_false c1] at q1
      cbv
      repeat (first | (with_reducible apply next_at hA; cbv) | (rw [q1]; cbv) | (refine call_at hA _ h1 rfl ?_; cbv) | (refine calm_at hA _ h1 ?_; cbv))
      try cbv
      repeat (first | (with_reducible apply next_at hA; cbv) | (rw [q1]; cbv) | (refine call_at hA _ h1 rfl ?_; cbv) | (refine calm_at hA _ h1 ?_; cbv))
      try simp (maxSteps := 4000000) only [nc] at *
      exact keep_is hA [0, 1, 2, 3] ⟨rfl, rfl, rfl, rfl, rfl, rfl, rfl, rfl⟩ ⟨rfl, rfl⟩
end Go.Proofs.Ytclehkgnacekkaa.Vm
end

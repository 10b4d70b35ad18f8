/- Part 17 of the proof: VPo11, VPo12, VJoinP. Conditions: none. -/
import Derived.Test.YtclehkgnacekkaaP4
import Derived.Test.YtclehkgnacekkaaP8
import Derived.Test.YtclehkgnacekkaaP12
import Derived.Test.YtclehkgnacekkaaP14
import Derived.Test.YtclehkgnacekkaaP15
import Derived.Test.YtclehkgnacekkaaP16
set_option linter.all false
set_option linter.unusedVariables false
set_option linter.unusedSimpArgs false
section
namespace Go.Proofs.Ytclehkgnacekkaa.Vm
open Go.RowKit
set_option maxRecDepth 100000
set_option maxHeartbeats 4000000
theorem sorts_kids {op : Int} {k : List Int} (h : kidsS op = some k) (hv : vrB op = false) : sortsO op = some (k.map fun c => c == 114) := by
  unfold kidsS at h
  split at h
  · rename_i ho
    cases h
    rcases ho with rfl | rfl | rfl | rfl | rfl | rfl | rfl <;> first | rfl | (exact absurd hv (by decide))
  split at h
  · rename_i ho; cases h; subst ho; rfl
  split at h
  · rename_i ho; cases h; rcases ho with rfl | rfl <;> rfl
  split at h
  · rename_i ho; cases h; subst ho; rfl
  · cases h
theorem make_shape {cs : List Cel} {t : Ty} {s : Int} {rs : List Int} (h : shapeB wordB t s = true) (hv : vrB t.op = false) (hk : IsL cs t.kids rs) : ∃ l, sortsO t.op = some l ∧ l.length = rs.length ∧ ((t.op = 11 ∧ wordB t.name = true) ∨ (t.op ≠ 11 ∧ t.name = ⟨#[]⟩)) ∧ (rs.zip l).all (kidOk cs) = true := by
  obtain ⟨k, h0, h1, h2, h3, h4, h5, h6⟩ := shape_parts h
  rw [IsL_fa] at hk
  refine ⟨_, sorts_kids h0 hv, by rw [List.length_map, ← h2, hk.1], ?_, ?_⟩
  · by_cases h11 : t.op = 11
    · rw [if_pos h11] at h3; exact .inl ⟨h11, h3⟩
    · rw [if_neg h11] at h3
      refine .inr ⟨h11, ?_⟩
      have h3 := of_decide_eq_true h3
      exact bytes_toList.1 (by rw [h3, ByteArray.toList_eq])
  · rw [List.all_eq_true]
    rintro ⟨r, b⟩ hp
    obtain ⟨i, hi⟩ := List.mem_iff_getElem?.1 hp
    rw [List.getElem?_zip_eq_some] at hi
    obtain ⟨hr, hb⟩ := hi
    rw [List.getElem?_map] at hb
    obtain ⟨c, hc, rfl⟩ := Option.map_eq_some_iff.1 hb
    obtain ⟨x, hx⟩ := get_of_len hk.1.symm hr
    have his := hk.2 i x r hx hr
    have hsx := shapes_get h6 i x c hx hc
    obtain ⟨k2, -, g1, -⟩ := shape_parts hsx
    rw [Is_eq] at his
    obtain ⟨d, d0, d1, d2, -⟩ := his
    unfold kidOk
    rw [if_pos d0, d1]
    simp only
    rw [d2]
    exact g1
theorem put_is {σ : Int → Int} {cs : List Cel} {t : Ty} {rs : List Int} (hw : Wf cs) (ho : OkC σ cs) (hv : vrB t.op = false) (hn : t.n = 0) (hk2 : t.kids.length ≤ 2) (hk : IsL cs t.kids rs) :
    Step σ cs (putC t.op t.name (kA rs) (kB rs) cs).2 (fun _ => False) 1 ∧ Is (putC t.op t.name (kA rs) (kB rs) cs).2 t ((putC t.op t.name (kA rs) (kB rs) cs).1 : Nat) := by
  obtain ⟨k1, k2⟩ := put_kids hk hk2
  obtain ⟨h1, c, h2, h3, h4, h5, h6, h7⟩ := put_step hw ho t.op t.name (kA rs) (kB rs) hv k1
  refine ⟨h1, ?_⟩
  rw [Is_eq]
  refine ⟨c, Int.natCast_nonneg _, by rw [Int.toNat_natCast]; exact h2, h3, h4, by rw [h7, hn], ?_⟩
  rw [show kidsC c = rs by unfold kidsC; rw [h5, h6]; exact k2]
  rw [IsL_fa] at hk ⊢
  exact ⟨hk.1, fun i u s hu hs => h1.is (hk.2 i u s hu hs)⟩
def madeQ (σ : Int → Int) (cs : List Cel) (t : Ty) (res : List V) (os : List O) : Prop := ∃ (r : Int) (cs' : List Cel), res = [vi .i64 r, vb true] ∧ os = PO cs' ∧ Step σ cs cs' (fun n => hasT t n) t.parts.length ∧ Is cs' t r
theorem made_var (σ : Int → Int) (t : Ty) (s : Int) (hs : shapeB wordB t s = true) (ht : Sm t) (hT : OkT σ t) (hv : isVar t = true) (cs : List Cel) (hw : Wf cs) (ho : OkC σ cs) (hN : cs.length + t.parts.length ≤ 1048576) : SpecO 27 [.ptr 0 0, .ag (ofD (cT t))] (PO cs) (madeQ σ cs t) := by
  have hiv := isvar9_s t
  rw [hv] at hiv
  have hk := var_kids hs (isVar_iff.1 hv)
  have hcan : canonS t = t := canon_end (by rcases isVar_iff.1 hv with h | h <;> omega) hk
  have honce : onceB t = true := by
    unfold onceB
    rw [parts_kids, hk]
    simp only [List.flatMap_nil, List.all_cons, List.all_nil, Bool.and_true]
    unfold clashB
    rcases isVar_iff.1 hv with h | h <;> simp [h]
  have heit : eitherT t = true := by
    unfold eitherT rightB
    rw [honce, Bool.and_true, Bool.and_true, Bool.or_eq_true]
    by_cases h114 : s = 114
    · subst h114; exact .inr hs
    · refine .inl ?_
      obtain ⟨k, h0, h1, h2, h3, h4, h5, h6⟩ := shape_parts hs
      rw [Ty.eta t]
      rw [Ty.eta t] at hs
      have h9 : decide (8 ≤ t.op) = (s == 114) := by simpa using h1
      have h10 : (decide (8 ≤ t.op) == ((116 : Int) == 114)) = true := by rw [h9]; simp [h114]
      exact shape_mk h0 h10 h2 h3 h4 h5 h6
  have hadd : addsB cs t = true := by
    unfold addsB
    rw [heit, sorted_sigma hw ho fun x hx hvx => (hT x hx).2.1 hvx |>.2.2]
    rfl
  have hA9 := Add9_yes t ht 1 cs hadd hN
  obtain ⟨hst, his⟩ := add_step (σ := σ) 1 t hT cs hw ho
  rw [hcan] at hA9
  obtain ⟨z, hz⟩ : ∃ z, z = (((addF 1 t cs).1 : Nat) : Int) := ⟨_, rfl⟩
  rw [← hz] at hA9 his
  have hQ : madeQ σ cs t [vi .i64 z, vb true] (PO (addF 1 t cs).2) := ⟨z, _, rfl, rfl, hst, his⟩
  generalize madeQ σ cs t = QQ at *
  obtain ⟨a0, a1, a2, a3, ha⟩ := cT_four t
  rw [ha] at hiv hA9 ⊢
  generalize (addF 1 t cs).2 = cs2 at *
  rw [PO_eq, PO_eq] at *
  generalize fndF 0 cs = F1 at *
  generalize vrsF 0 cs = W1 at *
  generalize nxtF cs = N1 at *
  generalize cs.map cC = C1 at *
  generalize fndF 0 cs2 = F2 at *
  generalize vrsF 0 cs2 = W2 at *
  generalize nxtF cs2 = N2 at *
  generalize cs2.map cC = C2 at *
  unfold PQ at *
  refine speco_of Try.func27 rfl (by kernel_rfl) (by kernel_rfl) (by kernel_rfl) fun qa qb qc qd qe qf qg qh qi qj qk ql qm qo qp qs qt qu qv qx qy qz va vc vd ve vf vg vh vj vk vl vm vn vo vp vq vr vt hA => ?_
  obtain ⟨e1, e2, e3, e4, e5, e6, e7, e8, e9⟩ := ar_at hA
  have q0 : qj 0 0 = true := e9 _ _
  have qw : qa .i64 0 = 0 := by rw [e1]; rfl
  cbv
  repeat (first | (with_reducible apply next_at hA; cbv) | (rw [q0]; cbv) | (rw [qw]; cbv) | (refine call_at hA _ hiv rfl ?_; cbv) | (refine calm_at hA _ hiv ?_; cbv))
  try cbv
  repeat (first | (with_reducible apply next_at hA; cbv) | (rw [q0]; cbv) | (rw [qw]; cbv) | (refine call_at hA _ hiv rfl ?_; cbv) | (refine calm_at hA _ hiv ?_; cbv))
  try simp (maxSteps := 4000000) only [nc] at *
  refine callo_at hA [0, 1, 2, 3] hA9 ⟨rfl, rfl, rfl, rfl, rfl, rfl, rfl⟩ ?_
  rintro _ _ ⟨rfl, rfl⟩
  cbv
  repeat (first | (with_reducible apply next_at hA; cbv) | (rw [q0]; cbv) | (rw [qw]; cbv))
  try cbv
  repeat (first | (with_reducible apply next_at hA; cbv) | (rw [q0]; cbv) | (rw [qw]; cbv))
  try simp (maxSteps := 4000000) only [nc] at *
  exact keep_is hA [0, 1, 2, 3] ⟨rfl, rfl, rfl, rfl, rfl, rfl, rfl, rfl⟩ hQ
theorem SpecO.mono {f : Nat} {vs : List V} {os : List O} {Q Q' : List V → List O → Prop} (h : SpecO f vs os Q) (hQ : ∀ res os2, Q res os2 → Q' res os2) : SpecO f vs os Q' :=
  ⟨h.1, fun I w g args hr => (h.2 I w g args hr).mono fun e w' ⟨us, res, os2, I', g', e1, e2, e3⟩ => ⟨us, res, os2, I', g', e1, hQ _ _ e2, e3⟩⟩
theorem IsL.snoc {cs : List Cel} {x : Ty} {r : Int} (hx : Is cs x r) : ∀ {ts : List Ty} {rs : List Int}, IsL cs ts rs → IsL cs (ts ++ [x]) (rs ++ [r])
  | [], [], _ => by rw [List.nil_append, List.nil_append, IsL, IsL]; exact ⟨hx, trivial⟩
  | t :: ts, r' :: rs, h => by
    rw [List.cons_append, List.cons_append, IsL]
    rw [IsL] at h
    exact ⟨h.1, IsL.snoc hx h.2⟩
  | [], _ :: _, h => by rw [IsL] at h; exact h.elim
  | _ :: _, [], h => by rw [IsL] at h; exact h.elim
theorem IsL.step {σ : Int → Int} {a b : List Cel} {N : Int → Prop} {k : Nat} (h : Step σ a b N k) {ts : List Ty} {rs : List Int} (hi : IsL a ts rs) : IsL b ts rs := by
  rw [IsL_fa] at hi ⊢
  exact ⟨hi.1, fun i u s hu hs => h.is (hi.2 i u s hu hs)⟩
theorem made_node (σ : Int → Int) (t : Ty) (s : Int) (hs : shapeB wordB t s = true) (ht : Sm t) (hT : OkT σ t) (hv : isVar t = false)
    (ih : ∀ x ∈ t.kids, ∀ cs : List Cel, Wf cs → OkC σ cs → cs.length + x.parts.length ≤ 1048576 → SpecO 27 [.ptr 0 0, .ag (ofD (cT x))] (PO cs) (madeQ σ cs x))
    (cs : List Cel) (hw : Wf cs) (ho : OkC σ cs) (hN : cs.length + t.parts.length ≤ 1048576) : SpecO 27 [.ptr 0 0, .ag (ofD (cT t))] (PO cs) (madeQ σ cs t) := by
  have hiv := isvar9_s t
  rw [hv] at hiv
  have hself := hT.self
  have hnm := ht.2 t (by rw [parts_eq]; exact List.mem_cons_self ..)
  have hpl : t.parts.length = 1 + (t.kids.flatMap Ty.parts).length := by rw [parts_kids, List.length_cons]; omega
  have hmk : ∀ (cs' : List Cel) (rs : List Int), Step σ cs cs' (fun n => ∃ u ∈ t.kids, hasT u n) (t.kids.flatMap Ty.parts).length → IsL cs' t.kids rs → ∃ (z : Int) (cs3 : List Cel), SpecO 31 [.ptr 0 0, vi .u8 t.op, vs t.name, .d (.sl 1 (rI rs))] (PO cs') (fun res os => res = [vi .i64 z, vi .u8 0] ∧ os = PO cs3) ∧ madeQ σ cs t [vi .i64 z, vb true] (PO cs3) := fun cs' rs hst hil => by
    obtain ⟨l, h1, h2, h3, h4⟩ := make_shape hs hv hil
    have hlen := hst.len
    have hg := make_go t.op t.name rs cs' l hnm (by omega) h1 h2 h3
    obtain ⟨hp1, hp2⟩ := put_is hst.wf hst.ok hv (hself.2.2 hv) hself.1 hil
    refine ⟨_, _, hg.mono fun res os2 hq => hq.1 h4, _, _, rfl, rfl, (hst.trans hp1).weak (fun n => ?_) (by omega), hp2⟩
    unfold hasT
    constructor
    · rintro (⟨u, hu, x, hx, h⟩ | h)
      · exact ⟨x, by rw [parts_kids]; exact List.mem_cons_of_mem _ (List.mem_flatMap.2 ⟨u, hu, hx⟩), h⟩
      · exact h.elim
    · rintro ⟨x, hx, hvx, he⟩
      rw [parts_kids] at hx
      rcases List.mem_cons.1 hx with e | hx
      · rw [e, vrB_var, hv] at hvx; cases hvx
      · obtain ⟨u, hu, hx⟩ := List.mem_flatMap.1 hx
        exact .inl ⟨u, hu, x, hx, hvx, he⟩
  generalize madeQ σ cs t = QQ at *
  obtain ⟨op, nm, n, ks⟩ := t
  simp only [Ty.kids, Ty.op, Ty.name, Ty.n] at *
  rw [cT] at hiv ⊢
  obtain ⟨K, hKL⟩ : ∃ K, K = rT ks := ⟨_, rfl⟩
  rw [← hKL] at hiv ⊢
  have hkl2 : ks.length ≤ 2 := hself.1
  obtain ⟨F1, hF1⟩ : ∃ F, F = fndF 0 cs := ⟨_, rfl⟩
  obtain ⟨W1, hW1⟩ : ∃ F, F = vrsF 0 cs := ⟨_, rfl⟩
  obtain ⟨N1, hN1⟩ : ∃ F, F = nxtF cs := ⟨_, rfl⟩
  obtain ⟨C1, hC1⟩ : ∃ F, F = cs.map cC := ⟨_, rfl⟩
  rw [PO_eq, ← hF1, ← hW1, ← hN1, ← hC1]
  unfold PQ
  refine speco_of Try.func27 rfl (by kernel_rfl) (by kernel_rfl) (by kernel_rfl) fun qa qb qc qd qe qf qg qh qi qj qk ql qm qo qp qs qt qu qv qx qy qz va vc vd ve vf vg vh vj vk vl vm vn vo vp vq vr vt hA => ?_
  obtain ⟨e1, e2, e3, e4, e5, e6, e7, e8, e9⟩ := ar_at hA
  obtain ⟨r1, r2, r3, r4⟩ := row_at hA
  have q0 : qj 0 0 = true := e9 _ _
  have qw : qa .i64 0 = 0 := by rw [e1]; rfl
  cbv
  repeat (first | (refine own_at hA 8 46 true rfl ?_; cbv) | (with_reducible apply next_at hA; cbv) | (refine call_at hA _ hiv rfl ?_; cbv))
  refine loop_at hA (γ := Int × (List (R × R) × List (R × R) × Int × List (List D)) × List (List D)) (fun x => [(9, vi .i64 x.1), (8, .own 5), (33, .jk)])
    (fun x => [(0, .box [.own 1, .mp 2, .mp 3, vi .i64 x.2.1.2.2.1]), (1, .row false 108 x.2.1.2.2.2), (2, .mp 105 x.2.1.1), (3, .mp 3 x.2.1.2.1), (5, .row true 46 x.2.2)])
    (fun x => ∃ (k : Nat) (cs' : List Cel) (rs : List Int), x.1 = (k : Int) ∧ k ≤ ks.length ∧ x.2.1.1 = fndF 0 cs' ∧ x.2.1.2.1 = vrsF 0 cs' ∧ x.2.1.2.2.1 = nxtF cs' ∧ x.2.1.2.2.2 = cs'.map cC ∧ x.2.2 = rI rs ∧ Step σ cs cs' (fun n => ∃ u ∈ ks.take k, hasT u n) ((ks.take k).flatMap Ty.parts).length ∧ IsL cs' (ks.take k) rs)
    (fun x => ks.length - x.1.toNat) (0, (F1, W1, N1, C1), []) ?_ ?_ ?_
  · exact ⟨0, cs, [], rfl, Nat.zero_le _, hF1, hW1, hN1, hC1, rfl, (Step.refl hw ho).weak (fun n => by simp) (by simp), by rw [List.take_zero, IsL]; trivial⟩
  · cbv
  · rintro ⟨z, ⟨F, W, N, C⟩, L⟩ hinv
    cbv
    repeat ((with_reducible apply next_at hA); cbv)
    try simp (maxSteps := 4000000) only [nc] at *
    obtain ⟨k, cs', rs, hz, hk, hF, hW, hN', hC, hL, hst, hil⟩ := hinv
    replace hz : z = (k : Int) := hz
    replace hF : F = fndF 0 cs' := hF
    replace hW : W = vrsF 0 cs' := hW
    replace hN' : N = nxtF cs' := hN'
    replace hC : C = cs'.map cC := hC
    replace hL : L = rI rs := hL
    have hlen := hst.len
    have hrl : (ks.take k).length = rs.length := by rw [IsL_fa] at hil; exact hil.1
    have hlt : qh z (qy K) = decide (k < ks.length) := by rw [e7, r1, hKL, rT_len, hz]; exact decide_eq_decide.2 (by omega)
    by_cases h9 : k < ks.length
    · rw [decide_eq_true h9] at hlt
      obtain ⟨x, hx⟩ : ∃ x, ks[k]? = some x := ⟨_, List.getElem?_eq_getElem h9⟩
      have htk := partsL_snoc ks k x hx
      have htk2 : ks.take (k + 1) = ks.take k ++ [x] := by rw [List.take_add_one, hx]; rfl
      have hle := (flat_parts_le ks).2
      have hsum : ((ks.take (k + 1)).flatMap Ty.parts).length ≤ (ks.flatMap Ty.parts).length := by
        have := congrArg (fun l => (List.flatMap Ty.parts l).length) (List.take_append_drop (k + 1) ks)
        simp only [List.flatMap_append, List.length_append] at this
        omega
      rw [htk.2, List.length_append] at hsum
      have hsp := ih x (List.mem_of_getElem? hx) cs' hst.wf hst.ok (by omega)
      rw [PO_eq, ← hF, ← hW, ← hN', ← hC] at hsp
      have gx : qz K z = some (cT x) := by rw [r2, hz, if_pos (by omega), hKL, show ((k : Int)).toNat = k by omega, rT_get hx]
      have hz1 : qa .i64 (qb z 1) = ((k + 1 : Nat) : Int) := by rw [e1, e2, hz, IntWalk.i64_in _ (by omega)]; omega
      have hmu : ks.length - (qa .i64 (qb z 1)).toNat < ks.length - z.toNat := by rw [hz1, hz]; omega
      obtain ⟨x0, x1, x2, x3, hxx⟩ := cT_four x
      rw [hxx] at hsp gx
      unfold PQ at hsp
      have hLl : L.length ≤ 1048576 := by rw [hL, rI_len, ← hrl, List.length_take]; omega
      rw [hlt]
      cbv
      repeat (first | (with_reducible apply next_at hA; cbv) | (rw [gx]; cbv))
      try cbv
      repeat (first | (with_reducible apply next_at hA; cbv) | (rw [gx]; cbv))
      try simp (maxSteps := 4000000) only [nc] at *
      refine callo_at hA [0, 1, 2, 3] hsp ⟨rfl, rfl, rfl, rfl, rfl, rfl, rfl⟩ ?_
      rintro _ _ ⟨rz, cs2, rfl, rfl, hst2, his2⟩
      obtain ⟨F2, hF2⟩ : ∃ F, F = fndF 0 cs2 := ⟨_, rfl⟩
      obtain ⟨W2, hW2⟩ : ∃ F, F = vrsF 0 cs2 := ⟨_, rfl⟩
      obtain ⟨N2, hN2⟩ : ∃ F, F = nxtF cs2 := ⟨_, rfl⟩
      obtain ⟨C2, hC2⟩ : ∃ F, F = cs2.map cC := ⟨_, rfl⟩
      rw [PO_eq, ← hF2, ← hW2, ← hN2, ← hC2]
      unfold PQ
      cbv
      repeat (first | (with_reducible apply next_at hA; cbv) | (rw [gx]; cbv) | (refine lit_at hA true ?_; cbv) | (refine room_at hA (by simp only [List.length_cons, List.length_nil]; omega) ?_; cbv))
      try cbv
      repeat (first | (with_reducible apply next_at hA; cbv) | (rw [gx]; cbv) | (refine lit_at hA true ?_; cbv) | (refine room_at hA (by simp only [List.length_cons, List.length_nil]; omega) ?_; cbv))
      try simp (maxSteps := 4000000) only [nc] at *
      refine ⟨(qa .i64 (qb z 1), (F2, W2, N2, C2), vc L [[.sc (.int .i64 rz)]]), ⟨k + 1, cs2, rs ++ [rz], hz1, h9, hF2, hW2, hN2, hC2, by show vc L _ = _; rw [r4, hL, rI_snoc], (hst.trans hst2).weak (fun n => ?_) (by rw [htk.2, List.length_append]; omega), by rw [htk2]; exact IsL.snoc his2 (hil.step hst2)⟩, hmu, ?_⟩
      · rw [htk2]
        simp only [List.mem_append, List.mem_singleton]
        constructor
        · rintro (⟨u, hu, h⟩ | h)
          · exact ⟨u, .inl hu, h⟩
          · exact ⟨x, .inr rfl, h⟩
        · rintro ⟨u, (hu | rfl), h⟩
          · exact .inl ⟨u, hu, h⟩
          · exact .inr h
      cbv
    · rw [decide_eq_false h9] at hlt
      have hkl : ks.take k = ks := List.take_of_length_le (by omega)
      rw [hkl] at hst hil
      obtain ⟨zp, cs3, hM, hQ⟩ := hmk cs' rs hst hil
      rw [PO_eq, ← hF, ← hW, ← hN', ← hC, ← hL] at hM
      rw [PO_eq] at hM hQ
      generalize fndF 0 cs3 = F3 at *
      generalize vrsF 0 cs3 = W3 at *
      generalize nxtF cs3 = N3 at *
      generalize cs3.map cC = C3 at *
      unfold PQ at hM hQ
      rw [hlt]
      cbv
      repeat (first | (refine reado_at hA 8 5 (.sl 1 L) rfl rfl ?_; cbv) | (with_reducible apply next_at hA; cbv))
      refine callo_at hA [0, 1, 2, 3] hM ⟨rfl, rfl, rfl, rfl, rfl, rfl, rfl⟩ ?_
      rintro _ _ ⟨rfl, rfl⟩
      cbv
      repeat (first | (with_reducible apply next_at hA; cbv) | (rw [q0]; cbv) | (rw [qw]; cbv))
      try cbv
      repeat (first | (with_reducible apply next_at hA; cbv) | (rw [q0]; cbv) | (rw [qw]; cbv))
      try simp (maxSteps := 4000000) only [nc] at *
      exact keep_is hA [0, 1, 2, 3] ⟨rfl, rfl, rfl, rfl, rfl, rfl, rfl, rfl⟩ hQ
end Go.Proofs.Ytclehkgnacekkaa.Vm
end
section
namespace Go.Proofs.Ytclehkgnacekkaa.Vm
open Go.RowKit
set_option maxRecDepth 100000
set_option maxHeartbeats 4000000
theorem Sm.kid {t x : Ty} (h : Sm t) (hx : x ∈ t.kids) : Sm x := ⟨by have := (kids_le t).2 x hx; have := h.1; omega, fun y hy => h.2 y (by rw [parts_kids]; exact List.mem_cons_of_mem _ (List.mem_flatMap.2 ⟨x, hx, hy⟩))⟩
theorem made9_s (σ : Int → Int) (t : Ty) : ∀ s, shapeB wordB t s = true → Sm t → OkT σ t → ∀ cs : List Cel, Wf cs → OkC σ cs → cs.length + t.parts.length ≤ 1048576 → SpecO 27 [.ptr 0 0, .ag (ofD (cT t))] (PO cs) (madeQ σ cs t) := by
  induction t using Ty.ind with
  | h t ih =>
    intro s hs ht hT cs hw ho hN
    cases hv : isVar t with
    | true => exact made_var σ t s hs ht hT hv cs hw ho hN
    | false =>
      refine made_node σ t s hs ht hT hv (fun x hx cs' hw' ho' hN' => ?_) cs hw ho hN
      obtain ⟨c, hc⟩ := shapes_mem wordB t.kids _ (by rw [shape_eq] at hs; simp only [Bool.and_eq_true] at hs; exact hs.2) x hx
      exact ih x hx c hc (ht.kid hx) (hT.kid hx) cs' hw' ho' hN'
theorem Tree9_s (cs : List Cel) (t : Ty) (r : Int) (hi : Is cs t r) (ht : Sm t) (he : eitherT t = true) : RdP 28 [.ptr 0 0, vi .i64 r] cs [.ag (ofD (cT (canonS t))), vi .u8 0] := by
  have h1 := tree9_s cs t r hi ht.1
  have h2 := Canon_s t ht
  rw [if_pos he] at h2
  have hl := hi.lt
  have h3 := has9_s r cs
  rw [decide_eq_true hl] at h3
  obtain ⟨a0, a1, a2, a3, ha⟩ := cT_four t
  obtain ⟨c0, c1, c2, c3, hc⟩ := cT_four (canonS t)
  rw [ha] at h1 h2
  rw [hc] at h2 ⊢
  unfold RdP at *
  rw [PO_eq] at *
  generalize fndF 0 cs = F at *
  generalize vrsF 0 cs = W at *
  generalize nxtF cs = N at *
  generalize cs.map cC = C at *
  unfold PQ at *
  refine specr_of Try.func28 rfl (by kernel_rfl) (by kernel_rfl) (by kernel_rfl) rfl fun qa qb qc qd qe qf qg qh qi qj qk ql qm qo qp qs qt qu qv qx qy qz va vc vd ve vf vg vh vj vk vl vm vn vo vp vq vr vt hA K hK => ?_
  cbv
  repeat ((with_reducible apply next_at hA); cbv)
  refine rd_at hA [0, 1, 2, 3] h3 ⟨rfl, rfl, rfl, rfl, rfl, rfl, rfl⟩ rfl ?_
  rintro _ rfl
  cbv
  repeat ((with_reducible apply next_at hA); cbv)
  refine rd_at hA [0, 1, 2, 3] h1 ⟨rfl, rfl, rfl, rfl, rfl, rfl, rfl⟩ rfl ?_
  rintro _ rfl
  cbv
  repeat (first | (with_reducible apply next_at hA; cbv) | (refine call_at hA _ h2 rfl ?_; cbv) | (refine calm_at hA _ h2 ?_; cbv))
  try cbv
  repeat (first | (with_reducible apply next_at hA; cbv) | (refine call_at hA _ h2 rfl ?_; cbv) | (refine calm_at hA _ h2 ?_; cbv))
  try simp (maxSteps := 4000000) only [nc] at *
  exact hK _ rfl
end Go.Proofs.Ytclehkgnacekkaa.Vm
end
section
namespace Go.Proofs.Ytclehkgnacekkaa.Vm
open Go.RowKit
def unTys (g : List D → Option (Ty × Nat)) : List (List D) → Option (List Ty × Nat)
  | [] => some ([], 0)
  | r :: rs => match g r with
    | some (t, m) => match unTys g rs with
      | some (ts, k) => some (t :: ts, m + k)
      | none => none
    | none => none
def unTy : Nat → List D → Option (Ty × Nat)
  | 0, _ => none
  | f + 1, [.sc (.int .u8 op), .sc (.string nm), .sc (.int .i64 n), .sl sz rows] => match rows with
    | [] => some (.mk op nm n [], 1)
    | r :: rs => match natEq sz 4 with
      | true => match unTys (unTy f) (r :: rs) with
        | some (ks, m) => some (.mk op nm n ks, m + 1)
        | none => none
      | false => none
  | _ + 1, _ => none
def Alike2 (ds es : List D) : Prop := ∀ (I : Nat → Nat → Prop) (w : World) (us : List Value), AtDs I w us ds → AtDs I w us es
theorem slice_alike {sz : Nat} {rows rows' : List (List D)} (hl : rows.length = rows'.length) (hr : ∀ (i : Nat) (r r' : List D), rows[i]? = some r → rows'[i]? = some r' → Alike2 r r' ∧ r'.length = sz) {I : Nat → Nat → Prop} {w : World} {v : Value} (h : AtD I w v (.sl sz rows)) : AtD I w v (.sl sz rows') := by
  cases h with
  | nil A cap => rw [List.eq_nil_of_length_eq_zero (l := rows') (by simpa using hl.symm)]; exact .nil _ _ _
  | sl b off cap _ _ us hcap hI hrl hl2 hc hd =>
    have hrl' : ∀ r ∈ rows', r.length = sz := fun r hr' => by
      obtain ⟨i, hi⟩ := List.mem_iff_getElem?.1 hr'
      have hlt : i < rows.length := by rw [hl]; exact (List.getElem?_eq_some_iff.1 hi).1
      exact (hr i _ r (List.getElem?_eq_getElem hlt) hi).2
    rw [hl]
    refine .sl b off cap sz rows' us (by rw [← hl]; exact hcap) (by rw [← hl]; exact hI) hrl' (by rw [← hl]; exact hl2) hc fun i u d hu hdd => ?_
    have hi : i < rows.length * sz := by rw [← hl2]; exact (List.getElem?_eq_some_iff.1 hu).1
    rcases Nat.eq_zero_or_pos sz with h0 | hpos
    · rw [h0, Nat.mul_zero] at hi; omega
    have hq : i / sz < rows.length := (Nat.div_lt_iff_lt_mul hpos).2 hi
    have hm : i % sz < sz := Nat.mod_lt _ hpos
    have ei : i / sz * sz + i % sz = i := by rw [Nat.mul_comm]; exact Nat.div_add_mod i _
    obtain ⟨r, hr1⟩ : ∃ r, rows[i / sz]? = some r := ⟨_, List.getElem?_eq_getElem hq⟩
    obtain ⟨r', hr2⟩ : ∃ r', rows'[i / sz]? = some r' := ⟨_, List.getElem?_eq_getElem (by omega)⟩
    have hal := (hr _ r r' hr1 hr2).1
    have hcs : AtDs I w ((us.drop (i / sz * sz)).take sz) r := by
      refine ⟨?_, fun j u d hu hd' => ?_⟩
      · have h1 := hrl r (List.mem_of_getElem? hr1)
        rw [h1, List.length_take, List.length_drop, hl2]
        have : (i / sz + 1) * sz ≤ rows.length * sz := Nat.mul_le_mul_right _ hq
        rw [Nat.add_mul] at this
        omega
      · have hj : j < sz := by
          have := (List.getElem?_eq_some_iff.1 hu).1
          rw [List.length_take] at this
          omega
        rw [List.getElem?_take_of_lt hj, List.getElem?_drop] at hu
        refine hd (i / sz * sz + j) u d hu ?_
        rw [flat_get hrl hr1 hj]
        exact hd'
    have h2 := hal I w _ hcs
    have hu2 : ((us.drop (i / sz * sz)).take sz)[i % sz]? = some u := by rw [List.getElem?_take_of_lt hm, List.getElem?_drop, ei]; exact hu
    have hd2 : r'[i % sz]? = some d := by rw [← hdd, ← flat_get hrl' hr2 hm, ei]
    exact h2.2 _ u d hu2 hd2
theorem unTy_s : ∀ (f : Nat),  (∀ (ds : List D) (t : Ty) (m : Nat), unTy f ds = some (t, m) → Alike2 ds (cT t) ∧ t.parts.length = m) ∧ ∀ (rows : List (List D)) (ts : List Ty) (m : Nat), unTys (unTy f) rows = some (ts, m) → rows.length = ts.length ∧ (partsL ts).length = m ∧ ∀ (i : Nat) (r r' : List D), rows[i]? = some r → (rT ts)[i]? = some r' → Alike2 r r' ∧ r'.length = 4 := by
  intro f
  induction f with
  | zero =>
    refine ⟨fun ds t m h => (by simp [unTy] at h), fun rows => ?_⟩
    cases rows with
    | nil => intro ts m h; rw [unTys] at h; cases h; exact ⟨rfl, by rw [partsL]; rfl, fun i r r' h => by simp at h⟩
    | cons r rs => intro ts m h; simp [unTys, unTy] at h
  | succ f ih =>
    have h1 : ∀ (ds : List D) (t : Ty) (m : Nat), unTy (f + 1) ds = some (t, m) → Alike2 ds (cT t) ∧ t.parts.length = m := by
      intro ds t m h
      unfold unTy at h
      split at h
      · cases h
      · rename_i fx op nm n sz rows ef
        cases ef
        split at h
        · cases h
          refine ⟨fun I w us hu => ?_, by rw [Ty.parts, partsL]; rfl⟩
          obtain ⟨u0, us0, rfl, a0, hu⟩ := hu.uncons
          obtain ⟨u1, us1, rfl, a1, hu⟩ := hu.uncons
          obtain ⟨u2, us2, rfl, a2, hu⟩ := hu.uncons
          obtain ⟨u3, us3, rfl, a3, hu⟩ := hu.uncons
          rw [cT, rT]
          refine AtDs.cons a0 (AtDs.cons a1 (AtDs.cons a2 (AtDs.cons ?_ hu)))
          cases a3 with
          | nil A cap => exact .nil _ _ _
          | sl b off cap _ _ us hcap hI hrl hl2 hc hd => exact .nil _ _ _
        · rename_i r rs
          split at h
          · rename_i hsz
            have hsz := natEq_eq hsz
            subst hsz
            split at h
            · rename_i ks k hk
              cases h
              obtain ⟨e1, e2, e3⟩ := ih.2 _ _ _ hk
              refine ⟨fun I w us hu => ?_, by rw [Ty.parts, List.length_cons, e2]⟩
              obtain ⟨u0, us0, rfl, a0, hu⟩ := hu.uncons
              obtain ⟨u1, us1, rfl, a1, hu⟩ := hu.uncons
              obtain ⟨u2, us2, rfl, a2, hu⟩ := hu.uncons
              obtain ⟨u3, us3, rfl, a3, hu⟩ := hu.uncons
              rw [cT]
              exact AtDs.cons a0 (AtDs.cons a1 (AtDs.cons a2 (AtDs.cons (slice_alike (by rw [rT_len]; exact e1) e3 a3) hu)))
            · cases h
          · cases h
      · cases h
    refine ⟨h1, ?_⟩
    intro rows
    induction rows with
    | nil => intro ts m h; rw [unTys] at h; cases h; exact ⟨rfl, by rw [partsL]; rfl, fun i r r' h => by simp at h⟩
    | cons r rs ihr =>
      intro ts m h
      rw [unTys] at h
      split at h
      · rename_i t m1 ht
        split at h
        · rename_i ts' k hts
          cases h
          obtain ⟨e1, e2, e3⟩ := ihr _ _ hts
          obtain ⟨a1, a2⟩ := h1 _ _ _ ht
          refine ⟨by simp [e1], by rw [partsL, List.length_append, a2, e2], fun i r1 r2 hr1 hr2 => ?_⟩
          cases i with
          | zero =>
            simp at hr1
            subst hr1
            rw [rT] at hr2
            simp at hr2
            subst hr2
            refine ⟨a1, ?_⟩
            obtain ⟨op, nm, n, ks⟩ := t
            rw [cT]; rfl
          | succ i => rw [rT] at hr2; exact e3 i r1 r2 (by simpa using hr1) (by simpa using hr2)
        · cases h
      · cases h
theorem Spec.alike {f : Nat} {rs rs' q : List R} (h : Spec f rs' q) (ha : ∀ I w vs, AtRs I w vs rs → AtRs I w vs rs') : Spec f rs q := ⟨h.1, fun I w args hI hat => h.2 I w args hI (ha I w args hat)⟩
theorem atR_ag {I : Nat → Nat → Prop} {w : World} {v : Value} {ds es : List D} (ha : Alike2 ds es) (h : AtR I w v (.ag ds)) : AtR I w v (.ag es) := by
  obtain ⟨us, e, hu⟩ := h
  exact ⟨us, e, ha I w us hu⟩
def unFs : List (List D) → Option (List (ByteArray × Ty) × Nat)
  | [] => some ([], 0)
  | (.sc (.string nm) :: ds) :: rs => match unTy 60 ds with
    | some (t, m) => match Nat.ble m 1048576 with
      | true => match unFs rs with
        | some (fs, k) => some ((nm, t) :: fs, k + 1)
        | none => none
      | false => none
    | none => none
  | _ :: _ => none
theorem unFs_s : ∀ (rows : List (List D)) (fs : List (ByteArray × Ty)) (k : Nat), unFs rows = some (fs, k) → rows.length = fs.length ∧ fs.length = k ∧ (∀ f ∈ fs, f.2.parts.length ≤ 1048576) ∧ ∀ (i : Nat) (r r' : List D), rows[i]? = some r → (rF fs)[i]? = some r' → Alike2 r r' ∧ r'.length = 5
  | [], fs, k, h => by rw [unFs] at h; cases h; exact ⟨rfl, rfl, fun f hf => by simp at hf, fun i r r' h => by simp at h⟩
  | r :: rs, fs, k, h => by
    unfold unFs at h
    split at h
    · rename_i e; cases e
    · rename_i nm ds rs' e
      cases e
      split at h
      · rename_i t m ht
        split at h
        · rename_i hm
          split at h
          · rename_i fs' k' hfs
            cases h
            obtain ⟨e1, e2, e3, e4⟩ := unFs_s _ _ _ hfs
            obtain ⟨a1, a2⟩ := (unTy_s 60).1 _ _ _ ht
            refine ⟨by simp [e1], by simp [e2], fun f hf => ?_, fun i r1 r2 h1 h2 => ?_⟩
            · rcases List.mem_cons.1 hf with rfl | hf
              · show t.parts.length ≤ _
                rw [a2]; exact Nat.le_of_ble_eq_true hm
              · exact e3 f hf
            · cases i with
              | zero =>
                simp at h1
                subst h1
                simp [rF] at h2
                subst h2
                refine ⟨fun I w us hu => ?_, ?_⟩
                · obtain ⟨u0, us0, rfl, a0, hu⟩ := hu.uncons
                  exact AtDs.cons a0 (a1 I w us0 hu)
                · obtain ⟨op, nm, n, ks⟩ := t
                  rw [cT]; rfl
              | succ i => exact e4 i r1 r2 (by simpa using h1) (by simpa [rF] using h2)
          · cases h
        · cases h
      · cases h
    · cases h
def joinPF : List R → Option (List R)
  | [.one (.sl sz rows), .ag tl] => match unFs rows with
    | some (fs, k) => match Nat.ble k 1000000, unTy 60 tl with
      | true, some (t, m) => match Nat.ble m 1048576 with
        | true => match fs with
          | [] => some [.ag (cT t)]
          | f :: fs => match natEq sz 5 with
            | true => some [.ag (joinD (rF (f :: fs)) (cT t))]
            | false => none
        | false => none
      | _, _ => none
    | none => none
  | _ => none
theorem join_ty (fs : List (ByteArray × Ty)) (t : Ty) (hk : fs.length ≤ 1000000) (hf : ∀ f ∈ fs, f.2.parts.length ≤ 1048576) (ht : t.parts.length ≤ 1048576) : Spec 63 [.one (.sl 5 (rF fs)), .ag (cT t)] [.ag (joinD (rF fs) (cT t))] := by
  have hc := copied_s t ht
  obtain ⟨op, nm, n, ks⟩ := t
  rw [cT] at hc ⊢
  refine join_s (rF fs) _ _ _ _ (by rw [rF, List.length_map]; omega) hc fun r hr => ?_
  rw [rF, List.mem_map] at hr
  obtain ⟨f, hf1, rfl⟩ := hr
  have hc2 := copied_s f.2 (hf f hf1)
  obtain ⟨nm, t⟩ := f
  obtain ⟨op, nm2, n, ks⟩ := t
  simp only at hc2 ⊢
  rw [cT] at hc2 ⊢
  exact ⟨_, _, _, _, _, rfl, hc2⟩
theorem join_pure (rs q : List R) (h : joinPF rs = some q) : Spec 63 rs q := by
  unfold joinPF at h
  split at h <;> try cases h
  rename_i sz rows tl
  split at h <;> try cases h
  rename_i fs k hfs
  split at h <;> try cases h
  rename_i t m hk ht
  split at h <;> try cases h
  rename_i hm
  obtain ⟨e1, e2, e3, e4⟩ := unFs_s _ _ _ hfs
  obtain ⟨a1, a2⟩ := (unTy_s 60).1 _ _ _ ht
  have hkk := Nat.le_of_ble_eq_true hk
  have hmm := Nat.le_of_ble_eq_true hm
  have hj := join_ty fs t (by omega) e3 (by omega)
  split at h
  · cases h
    refine hj.alike fun I w vs hv => ?_
    match vs, hv with
    | [v1, v2], hv =>
      refine ⟨?_, atR_ag a1 hv.2.1, trivial⟩
      have h1 : AtD I w v1 (.sl sz rows) := hv.1
      rw [List.eq_nil_of_length_eq_zero (l := rows) (by simpa using e1)] at h1
      show AtD I w v1 (.sl 5 (rF []))
      cases h1 with
      | nil A cap => exact .nil _ _ _
      | sl b off cap _ _ us hcap hI hrl hl2 hc hd => exact .nil _ _ _
  · split at h <;> try cases h
    rename_i hsz
    have hsz := natEq_eq hsz
    subst hsz
    refine hj.alike fun I w vs hv => ?_
    match vs, hv with
    | [v1, v2], hv => exact ⟨slice_alike (by rw [e1, rF, List.length_map]) e4 hv.1, atR_ag a1 hv.2.1, trivial⟩
end Go.Proofs.Ytclehkgnacekkaa.Vm
end

/- Part 17 of the proof: VPo11, VPo12, VPM1, VPM2, VSmOf, VPM3, VJoinP. Conditions: none. -/
import Derived.Test.YtclehkgnacekkaaM4
import Derived.Test.YtclehkgnacekkaaM8
import Derived.Test.YtclehkgnacekkaaM12
import Derived.Test.YtclehkgnacekkaaM14
import Derived.Test.YtclehkgnacekkaaM15
import Derived.Test.YtclehkgnacekkaaM16
set_option linter.all false
set_option linter.unusedVariables false
set_option linter.unusedSimpArgs false
section
namespace Go.Proofs.Ytclehkgnacekkaa.Vm
open Go.RowKit
set_option maxRecDepth 100000
set_option maxHeartbeats 4000000
theorem sorts_kids {op : Int} {k : List Int} (h : kidsS op = some k) (hv : vrB op = false) : sortsO op = some (k.map fun c => c == 114) := by
  unfold kidsS at h
  split at h
  · rename_i ho
    cases h
    rcases ho with rfl | rfl | rfl | rfl | rfl | rfl | rfl <;> first | rfl | (exact absurd hv (by decide))
  split at h
  · rename_i ho; cases h; subst ho; rfl
  split at h
  · rename_i ho; cases h; rcases ho with rfl | rfl <;> rfl
  split at h
  · rename_i ho; cases h; subst ho; rfl
  · cases h
theorem put_is {σ : Int → Int} {cs : List Cel} {t : Ty} {rs : List Int} (hw : Wf cs) (ho : OkC σ cs) (hv : vrB t.op = false) (hn : t.n = 0) (hk2 : t.kids.length ≤ 2) (hk : IsL cs t.kids rs) :
    Step σ cs (putC t.op t.name (kA rs) (kB rs) cs).2 (fun _ => False) 1 ∧ Is (putC t.op t.name (kA rs) (kB rs) cs).2 t ((putC t.op t.name (kA rs) (kB rs) cs).1 : Nat) := by
  obtain ⟨k1, k2⟩ := put_kids hk hk2
  obtain ⟨h1, c, h2, h3, h4, h5, h6, h7⟩ := put_step hw ho t.op t.name (kA rs) (kB rs) hv k1
  refine ⟨h1, ?_⟩
  rw [Is_eq]
  refine ⟨c, Int.natCast_nonneg _, by rw [Int.toNat_natCast]; exact h2, h3, h4, by rw [h7, hn], ?_⟩
  rw [show kidsC c = rs by unfold kidsC; rw [h5, h6]; exact k2]
  rw [IsL_fa] at hk ⊢
  exact ⟨hk.1, fun i u s hu hs => h1.is (hk.2 i u s hu hs)⟩
theorem SpecO.mono {f : Nat} {vs : List V} {os : List O} {Q Q' : List V → List O → Prop} (h : SpecO f vs os Q) (hQ : ∀ res os2, Q res os2 → Q' res os2) : SpecO f vs os Q' :=
  ⟨h.1, fun I w g args hr => (h.2 I w g args hr).mono fun e w' ⟨us, res, os2, I', g', e1, e2, e3⟩ => ⟨us, res, os2, I', g', e1, hQ _ _ e2, e3⟩⟩
theorem IsL.snoc {cs : List Cel} {x : Ty} {r : Int} (hx : Is cs x r) : ∀ {ts : List Ty} {rs : List Int}, IsL cs ts rs → IsL cs (ts ++ [x]) (rs ++ [r])
  | [], [], _ => by rw [List.nil_append, List.nil_append, IsL, IsL]; exact ⟨hx, trivial⟩
  | t :: ts, r' :: rs, h => by
    rw [List.cons_append, List.cons_append, IsL]
    rw [IsL] at h
    exact ⟨h.1, IsL.snoc hx h.2⟩
  | [], _ :: _, h => by rw [IsL] at h; exact h.elim
  | _ :: _, [], h => by rw [IsL] at h; exact h.elim
theorem IsL.step {σ : Int → Int} {a b : List Cel} {N : Int → Prop} {k : Nat} (h : Step σ a b N k) {ts : List Ty} {rs : List Int} (hi : IsL a ts rs) : IsL b ts rs := by
  rw [IsL_fa] at hi ⊢
  exact ⟨hi.1, fun i u s hu hs => h.is (hi.2 i u s hu hs)⟩
end Go.Proofs.Ytclehkgnacekkaa.Vm
end
section
namespace Go.Proofs.Ytclehkgnacekkaa.Vm
open Go.RowKit
set_option maxRecDepth 100000
set_option maxHeartbeats 4000000
theorem Sm.kid {t x : Ty} (h : Sm t) (hx : x ∈ t.kids) : Sm x := ⟨by have := (kids_le t).2 x hx; have := h.1; omega, fun y hy => h.2 y (by rw [parts_kids]; exact List.mem_cons_of_mem _ (List.mem_flatMap.2 ⟨x, hx, hy⟩))⟩
theorem Tree9_s (cs : List Cel) (t : Ty) (r : Int) (hi : Is cs t r) (ht : Sm t) (he : eitherT t = true) : RdP 28 [.ptr 0 0, vi .i64 r] cs [.ag (ofD (cT (canonS t))), vi .u8 0] := by
  have h1 := tree9_s cs t r hi ht.1
  have h2 := Canon_s t ht
  rw [if_pos he] at h2
  have hl := hi.lt
  have h3 := has9_s r cs
  rw [decide_eq_true hl] at h3
  obtain ⟨a0, a1, a2, a3, ha⟩ := cT_four t
  obtain ⟨c0, c1, c2, c3, hc⟩ := cT_four (canonS t)
  rw [ha] at h1 h2
  rw [hc] at h2 ⊢
  unfold RdP at *
  rw [PO_eq] at *
  generalize fndF 0 cs = F at *
  generalize vrsF 0 cs = W at *
  generalize nxtF cs = N at *
  generalize cs.map cC = C at *
  unfold PQ at *
  refine specr_of Try.func28 rfl (by kernel_rfl) (by kernel_rfl) (by kernel_rfl) rfl fun qa qb qc qd qe qf qg qh qi qj qk ql qm qo qp qs qt qu qv qx qy qz va vc vd ve vf vg vh vj vk vl vm vn vo vp vq vr vt hA K hK => ?_
  cbv
  repeat ((with_reducible apply next_at hA); cbv)
  refine rd_at hA [0, 1, 2, 3] h3 ⟨rfl, rfl, rfl, rfl, rfl, rfl, rfl⟩ rfl ?_
  rintro _ rfl
  cbv
  repeat ((with_reducible apply next_at hA); cbv)
  refine rd_at hA [0, 1, 2, 3] h1 ⟨rfl, rfl, rfl, rfl, rfl, rfl, rfl⟩ rfl ?_
  rintro _ rfl
  cbv
  repeat (first | (with_reducible apply next_at hA; cbv) | (refine call_at hA _ h2 rfl ?_; cbv) | (refine calm_at hA _ h2 ?_; cbv))
  try cbv
  repeat (first | (with_reducible apply next_at hA; cbv) | (refine call_at hA _ h2 rfl ?_; cbv) | (refine calm_at hA _ h2 ?_; cbv))
  try simp (maxSteps := 4000000) only [nc] at *
  exact hK _ rfl
end Go.Proofs.Ytclehkgnacekkaa.Vm
end
section
namespace Go.Proofs.Ytclehkgnacekkaa.Vm
open Go.RowKit
set_option maxRecDepth 100000
set_option maxHeartbeats 4000000
theorem sta_cF {l m : List (ByteArray × Ty)} (h : Sta ltF l m) : Sta ltF (l.map cF) (m.map cF) := fun x => by
  have e : ∀ k : List (ByteArray × Ty), (k.map cF).filter (eqv ltF x) = (k.filter (eqv ltF x)).map cF := fun k => by
    rw [List.filter_map]
    rfl
  rw [e, e, h x]
theorem canon_ahead {op : Int} {nm : ByteArray} {n : Int} {ks : List Ty} {s : Int} (h : shapeB wordB (.mk op nm n ks) s = true) : canonS (.mk op nm n (ks.map canonS)) = canonS (.mk op nm n ks) := by
  obtain ⟨k, h0, h1, h2, h3, h4, h5, h6⟩ := shape_parts h
  simp only [Ty.op, Ty.kids, Ty.name, Ty.n] at *
  have hid : ∀ x ∈ ks, canonS (canonS x) = canonS x := fun x hx => by
    obtain ⟨c, hc⟩ := shapes_mem wordB ks _ h6 x hx
    exact canon_idem _ x c (Nat.le_refl _) hc
  have h' : shapeB wordB (.mk op nm n (ks.map canonS)) s = true := shape_mk h0 h1 (by rw [List.length_map]; exact h2) h3 h4 h5 (shapes_map h6 fun x hx c hc => canon_shape _ x c (Nat.le_refl _) hc)
  by_cases h11 : op = 11
  · subst h11
    obtain ⟨rfl, a, b, hk, hn, hw, ha, hb⟩ := shape_row h rfl
    simp only [Ty.kids, Ty.n] at hk hn
    subst hk
    subst hn
    rw [canon_row_is h', canon_row_is h]
    obtain ⟨a', b', g1, -, g2, g3⟩ := fields_step (shape_spineAll h).self rfl
    simp only [Ty.kids, Ty.name] at g1 g2
    injection g1 with e1 e2
    injection e2 with e2 _
    subst e1; subst e2
    obtain ⟨a', b', k1, -, k2, k3⟩ := fields_step (shape_spineAll h').self rfl
    simp only [Ty.kids, Ty.name, List.map_cons, List.map_nil] at k1 k2
    injection k1 with e1 e2
    injection e2 with e2 _
    subst e1; subst e2
    obtain ⟨f1, f2⟩ := fields_canon hb
    rw [g3]
    simp only [List.map_cons, List.map_nil] at k3 ⊢
    rw [k3, f2, g2, k2, f1]
    congr 1
    have hsr : (sortS ltF ((nm, a) :: fieldsS b)).map cF = sortS ltF ((nm, canonS a) :: (sortS ltF (fieldsS b)).map cF) := by
      refine sort_is swoF (srt_cF (sort_srt swoF _)) ?_
      have h1 : Sta ltF (sortS ltF ((nm, a) :: fieldsS b)) ([(nm, a)] ++ sortS ltF (fieldsS b)) := (sort_sta swoF _).trans (Sta.append (.refl [(nm, a)]) (sort_sta swoF _).symm)
      exact sta_cF h1
    rw [← hsr, List.map_map]
    refine List.map_congr_left fun f hf => ?_
    have hm := sortS_mem hf
    rw [← g2] at hm
    have hs := (fields_shape h).1 f hm
    show (f.1, canonS (canonS f.2)) = (f.1, canonS f.2)
    rw [canon_idem _ f.2 116 (Nat.le_refl _) hs.2]
  · rw [canon_node (by exact h11), canon_node (by exact h11)]
    simp only [Ty.op, Ty.name, Ty.n, Ty.kids]
    rw [List.map_map]
    congr 1
    exact List.map_congr_left fun x hx => hid x hx
def shapeL (t : Ty) : Bool := match sortsO t.op with
  | none => false
  | some l => decide (l.length = t.kids.length) && ((decide (t.name = ⟨#[]⟩) || (t.op == 11)) && ((!(t.op == 11) || wordB t.name) && (List.zip t.kids l).all fun p => decide (8 ≤ p.1.op) == p.2))
theorem make_shapeL {cs : List Cel} {op : Int} {nm : ByteArray} {ts : List Ty} {rs : List Int} (hl : ts.length = rs.length) (h : ∀ (i : Nat) (t : Ty) (r : Int), ts[i]? = some t → rs[i]? = some r → ∃ c, 0 ≤ r ∧ cs[r.toNat]? = some c ∧ c.op = t.op) : makeB cs op nm rs = shapeL (.mk op nm 0 ts) := by
  unfold makeB shapeL
  rw [show (Ty.mk op nm 0 ts).op = op from rfl, show (Ty.mk op nm 0 ts).kids = ts from rfl, show (Ty.mk op nm 0 ts).name = nm from rfl]
  cases hso : sortsO op with
  | none => rfl
  | some l =>
    show (decide (l.length = rs.length) && ((decide (nm = ⟨#[]⟩) || (op == 11)) && ((!(op == 11) || wordB nm) && (List.zip rs l).all (kidOk cs)))) = (decide (l.length = ts.length) && ((decide (nm = ⟨#[]⟩) || (op == 11)) && ((!(op == 11) || wordB nm) && (List.zip ts l).all fun p => decide (8 ≤ p.1.op) == p.2)))
    rw [show decide (l.length = ts.length) = decide (l.length = rs.length) from decide_eq_decide.2 (by omega)]
    have key : ∀ (ts : List Ty) (rs : List Int) (l : List Bool), ts.length = rs.length → (∀ (i : Nat) (t : Ty) (r : Int), ts[i]? = some t → rs[i]? = some r → ∃ c, 0 ≤ r ∧ cs[r.toNat]? = some c ∧ c.op = t.op) → (rs.zip l).all (kidOk cs) = (ts.zip l).all fun p => decide (8 ≤ p.1.op) == p.2 := by
      intro ts
      induction ts with
      | nil => intro rs l h1 _; rw [List.eq_nil_of_length_eq_zero h1.symm]; rfl
      | cons t ts ih =>
        intro rs l h1 h2
        match rs, h1 with
        | r :: rs, h1 =>
          cases l with
          | nil => rfl
          | cons b l =>
            rw [List.zip_cons_cons, List.zip_cons_cons, List.all_cons, List.all_cons, ih rs l (by simpa using h1) fun i t' r' ht hr => h2 (i + 1) t' r' (by simpa using ht) (by simpa using hr)]
            congr 1
            obtain ⟨c, c0, c1, c2⟩ := h2 0 t r rfl rfl
            unfold kidOk
            rw [if_pos c0, c1]
            simp only
            rw [c2]
    rw [key ts rs l hl h]
theorem make9_s (op : Int) (nm : ByteArray) (rs : List Int) (cs : List Cel) (hn : nm.size ≤ 1048576) (hN : cs.length < 1048576) :
    SpecO 31 [.ptr 0 0, vi .u8 op, vs nm, .d (.sl 1 (rI rs))] (PO cs) (fun res os => (makeB cs op nm rs = true → res = [vi .i64 ((putC op nm (kA rs) (kB rs) cs).1 : Nat), vi .u8 0] ∧ os = PO (putC op nm (kA rs) (kB rs) cs).2) ∧ (makeB cs op nm rs = false → res = [vi .i64 0, vi .u8 15] ∧ os = PO cs)) := by
  have bad : ((sortsO op).isSome = false ∨ ((sortsO op).getD []).length ≠ rs.length ∨ (nm ≠ ⟨#[]⟩ ∧ op ≠ 11) ∨ (op = 11 ∧ wordB nm = false)) → makeB cs op nm rs = false := fun h => by
    unfold makeB
    cases hso : sortsO op with
    | none => rfl
    | some l =>
      rw [hso] at h
      simp only [Option.isSome_some, Option.getD_some] at h
      simp only
      rcases h with h | h | h | h
      · cases h
      · rw [decide_eq_false h, Bool.false_and]
      · rw [decide_eq_false h.1, show (op == 11) = false by simpa using h.2]; simp
      · rw [h.1, h.2]; simp
  by_cases hb : (sortsO op).isSome = false ∨ ((sortsO op).getD []).length ≠ rs.length ∨ (nm ≠ ⟨#[]⟩ ∧ op ≠ 11) ∨ (op = 11 ∧ wordB nm = false)
  · refine (make_bad op nm rs cs hn hb).mono fun res os2 hq => ⟨fun h => ?_, fun _ => hq⟩
    rw [bad hb] at h
    cases h
  · cases hso : sortsO op with
    | none => exact absurd (.inl (by rw [hso]; rfl)) hb
    | some l =>
      rw [hso] at hb
      simp only [Option.isSome_some, Option.getD_some] at hb
      have hb1 : l.length = rs.length := by
        rcases Nat.lt_or_ge l.length rs.length with h | h
        · exact absurd (.inr (.inl (by omega))) hb
        · rcases Nat.lt_or_ge rs.length l.length with h' | h'
          · exact absurd (.inr (.inl (by omega))) hb
          · omega
      have hw : (op = 11 ∧ wordB nm = true) ∨ (op ≠ 11 ∧ nm = ⟨#[]⟩) := by
        by_cases h11 : op = 11
        · refine .inl ⟨h11, ?_⟩
          cases hx : wordB nm with
          | true => rfl
          | false => exact absurd (.inr (.inr (.inr ⟨h11, hx⟩))) hb
        · refine .inr ⟨h11, ?_⟩
          by_cases hx : nm = ⟨#[]⟩
          · exact hx
          · exact absurd (.inr (.inr (.inl ⟨hx, h11⟩))) hb
      have e : makeB cs op nm rs = (rs.zip l).all (kidOk cs) := by
        unfold makeB
        rw [hso]
        simp only
        rw [decide_eq_true hb1, Bool.true_and]
        rcases hw with ⟨h1, h2⟩ | ⟨h1, h2⟩
        · rw [h1, h2]; simp
        · rw [decide_eq_true h2, show (op == 11) = false by simpa using h1]; simp
      rw [e]
      exact make_go op nm rs cs l hn hN hso hb1 hw
end Go.Proofs.Ytclehkgnacekkaa.Vm
end
section
namespace Go.Proofs.Ytclehkgnacekkaa.Vm
open Go.RowKit
set_option maxRecDepth 100000
set_option maxHeartbeats 4000000
theorem ref_word (nm : ByteArray) (hn : nm.size ≤ 1048576) : Spec 29 [.ag [.sc (.int .u8 11), .sc (.string nm), .sc (.int .i64 0), .sl 4 [emT 1, emT 8]]] [.one (.sc (.bool (wordB nm)))] := by
  have h := Row_s (wordRow nm) (by unfold wordRow; rw [parts_kids]; simp only [Ty.kids, List.flatMap_cons, List.flatMap_nil]; rw [parts_kids, parts_kids]; simp [Ty.kids]) (fun x hx => by
    unfold wordRow at hx
    rw [parts_kids] at hx
    simp only [Ty.kids, List.flatMap_cons, List.flatMap_nil, List.append_nil] at hx
    rw [parts_kids, parts_kids] at hx
    simp [Ty.kids] at hx
    rcases hx with rfl | rfl | rfl
    · exact hn
    · exact Nat.zero_le _
    · exact Nat.zero_le _)
  rw [word_row] at h
  unfold wordRow at h
  rw [cT, rT, rT, rT, cT, cT, rT] at h
  exact h.like ⟨.ag (.four _ _ _ (.two (.four _ _ _ (.nil 0 4)) (.four _ _ _ (.nil 0 4)) rfl rfl)), trivial⟩
theorem shapeL_eq (op : Int) (nm : ByteArray) (n : Int) (ks : List Ty) : shapeL (.mk op nm n ks) = ((kidsS op).isSome && (!((op == 7) || (op == 10)) && (decide ((kidsTx op).size = ks.length) && ((decide (nm = ⟨#[]⟩) || (op == 11)) && ((!(op == 11) || wordB nm) && (List.zip ks ((btl (kidsTx op)).map fun c => (c.toNat : Int) == 114)).all fun p => decide (8 ≤ p.1.op) == p.2))))) := by
  unfold shapeL
  rw [show (Ty.mk op nm n ks).op = op from rfl, show (Ty.mk op nm n ks).kids = ks from rfl, show (Ty.mk op nm n ks).name = nm from rfl]
  cases hk : kidsS op with
  | none =>
    have hso : sortsO op = none := by
      unfold kidsS at hk
      repeat' split at hk
      all_goals first | (cases hk; done) | skip
      rename_i h1 h2 h3 h4
      unfold sortsO
      rw [if_neg (by omega), if_neg h2, if_neg h3, if_neg h4]
    rw [hso]
    rfl
  | some kk =>
    rw [Option.isSome_some, Bool.true_and]
    cases hv : vrB op with
    | true =>
      have hso : sortsO op = none := by
        rcases vrB_iff.1 hv with h | h <;> subst h <;> rfl
      have hv' : ((op == 7) || (op == 10)) = true := hv
      rw [hso, hv']
      rfl
    | false =>
      have hv' : ((op == 7) || (op == 10)) = false := hv
      rw [sorts_kids hk hv, hv', kidsTx_is hk]
      simp only [Bool.not_false, Bool.true_and, List.map_map, List.length_map, btl_size]
      rfl
theorem shape09_s (t : Ty) (hN : t.parts.length ≤ 1048576) (hn : t.name.size ≤ 1048576) : Spec 32 [.ag (cT t)] [.one (.sc (.bool (shapeL t)))] := by
  have hiv := isvar9_s t
  have hkl := (kids_le t).1
  have hivb : isVar t = ((t.op == 7) || (t.op == 10)) := rfl
  obtain ⟨op, nm, n, ks⟩ := t
  simp only [Ty.op, Ty.kids, Ty.name] at hiv hkl hivb hn
  rw [shapeL_eq]
  rw [cT] at hiv ⊢
  obtain ⟨K, hKL⟩ : ∃ K, K = rT ks := ⟨_, rfl⟩
  rw [← hKL] at hiv ⊢
  rw [← hivb]
  generalize isVar (Ty.mk op nm n ks) = iv at *
  have hKd := Kids_s op
  have hRw := ref_word nm hn
  have hFd := Field_s nm (.sc (.int .u8 1)) (.sc (.string ⟨#[]⟩)) (.sc (.int .i64 0)) (.sl 0 []) (.sc (.int .u8 8)) (.sc (.string ⟨#[]⟩)) (.sc (.int .i64 0)) (.sl 0 [])
  unfold emT at hRw
  have hnil := bytes_nil nm
  generalize (kidsS op).isSome = ok at *
  generalize hw : wordB nm = w at *
  generalize hbe : decide (nm = ⟨#[]⟩) = be at *
  generalize htx : kidsTx op = tx at *
  obtain ⟨bls, hbls⟩ : ∃ bls, bls = ((btl tx).map fun c => (c.toNat : Int) == 114) := ⟨_, rfl⟩
  rw [← hbls]
  have hbl : bls.length = tx.size := by rw [hbls, List.length_map, btl_size]
  generalize hal : ((ks.zip bls).all fun p => decide (8 ≤ p.1.op) == p.2) = al
  generalize hsz : decide (tx.size = ks.length) = sz
  generalize hb11 : (op == 11) = b11
  generalize hB : (ok && (!iv && (sz && ((be || b11) && ((!b11 || w) && al))))) = B
  refine spec_of Try.func32 rfl (by kernel_rfl) (by kernel_rfl) (by kernel_rfl) fun qa qb qc qd qe qf qg qh qi qj qk ql qm qo qp qs qt qu qv qx qy qz va vc vd ve vf vg vh vj vk vl vm vn vo vp vq vr vt hA => ?_
  obtain ⟨e1, e2, e3, e4, e5, e6, e7, e8, e9⟩ := ar_at hA
  obtain ⟨r1, r2, r3, r4⟩ := row_at hA
  obtain ⟨s1, s2, s3, s4, s5, s6, -⟩ := str_at hA
  have q1 : qj (qt tx) (qy K) = sz := by rw [e9, s5, r1, hKL, rT_len, ← hsz]; exact eq_dec _ _
  have q2 : ql (qo nm) (qo ⟨#[]⟩) = be := by rw [s1, s3, s3]; exact hnil
  have q3 : qj op 11 = b11 := by rw [e9]; exact hb11
  generalize hPP : (fun p : Ty × Bool => decide (8 ≤ p.1.op) == p.2) = P at hal
  cases ok
  · cbv
    repeat (first | (with_reducible apply next_at hA; cbv) | (refine call_at hA _ hKd rfl ?_; cbv) | (refine calm_at hA _ hKd ?_; cbv))
    try cbv
    repeat (first | (with_reducible apply next_at hA; cbv) | (refine call_at hA _ hKd rfl ?_; cbv) | (refine calm_at hA _ hKd ?_; cbv))
    try simp (maxSteps := 4000000) only [nc] at *
    exact resb hB
  cases iv
  rotate_left
  · cbv
    repeat (first | (with_reducible apply next_at hA; cbv) | (refine call_at hA _ hKd rfl ?_; cbv) | (refine calm_at hA _ hKd ?_; cbv) | (refine call_at hA _ hiv rfl ?_; cbv) | (refine calm_at hA _ hiv ?_; cbv))
    try cbv
    repeat (first | (with_reducible apply next_at hA; cbv) | (refine call_at hA _ hKd rfl ?_; cbv) | (refine calm_at hA _ hKd ?_; cbv) | (refine call_at hA _ hiv rfl ?_; cbv) | (refine calm_at hA _ hiv ?_; cbv))
    try simp (maxSteps := 4000000) only [nc] at *
    exact resb hB
  cases sz
  · cbv
    repeat (first | (with_reducible apply next_at hA; cbv) | (rw [q1]; cbv) | (refine call_at hA _ hKd rfl ?_; cbv) | (refine calm_at hA _ hKd ?_; cbv) | (refine call_at hA _ hiv rfl ?_; cbv) | (refine calm_at hA _ hiv ?_; cbv))
    try cbv
    repeat (first | (with_reducible apply next_at hA; cbv) | (rw [q1]; cbv) | (refine call_at hA _ hKd rfl ?_; cbv) | (refine calm_at hA _ hKd ?_; cbv) | (refine call_at hA _ hiv rfl ?_; cbv) | (refine calm_at hA _ hiv ?_; cbv))
    try simp (maxSteps := 4000000) only [nc] at *
    exact resb hB
  have hszk : tx.size = ks.length := of_decide_eq_true hsz
  cases b11
  · cases be
    · cbv
      repeat (first | (with_reducible apply next_at hA; cbv) | (rw [q1]; cbv) | (rw [q2]; cbv) | (rw [q3]; cbv) | (refine call_at hA _ hKd rfl ?_; cbv) | (refine calm_at hA _ hKd ?_; cbv) | (refine call_at hA _ hiv rfl ?_; cbv) | (refine calm_at hA _ hiv ?_; cbv))
      try cbv
      repeat (first | (with_reducible apply next_at hA; cbv) | (rw [q1]; cbv) | (rw [q2]; cbv) | (rw [q3]; cbv) | (refine call_at hA _ hKd rfl ?_; cbv) | (refine calm_at hA _ hKd ?_; cbv) | (refine call_at hA _ hiv rfl ?_; cbv) | (refine calm_at hA _ hiv ?_; cbv))
      try simp (maxSteps := 4000000) only [nc] at *
      exact resb hB
    · replace hB : al = B := hB
      cbv
      repeat (first | (with_reducible apply next_at hA; cbv) | (rw [q1]; cbv) | (rw [q2]; cbv) | (rw [q3]; cbv) | (refine call_at hA _ hKd rfl ?_; cbv) | (refine calm_at hA _ hKd ?_; cbv) | (refine call_at hA _ hiv rfl ?_; cbv) | (refine calm_at hA _ hiv ?_; cbv))
      try cbv
      repeat (first | (with_reducible apply next_at hA; cbv) | (rw [q1]; cbv) | (rw [q2]; cbv) | (rw [q3]; cbv) | (refine call_at hA _ hKd rfl ?_; cbv) | (refine calm_at hA _ hKd ?_; cbv) | (refine call_at hA _ hiv rfl ?_; cbv) | (refine calm_at hA _ hiv ?_; cbv))
      try simp (maxSteps := 4000000) only [nc] at *
      refine loop_at hA (γ := Int) (fun z => [(5, vi .i64 z), (6, .jk), (9, .jk)]) (fun _ => []) (fun z => ∃ k : Nat, z = (k : Int) ∧ k ≤ tx.size ∧ ((ks.zip bls).take k).all P = true) (fun z => tx.size - z.toNat) 0 ?_ ?_ ?_
      · exact ⟨0, rfl, Nat.zero_le _, rfl⟩
      · cbv
      · intro z hinv
        cbv
        repeat ((with_reducible apply next_at hA); cbv)
        try simp (maxSteps := 4000000) only [nc] at *
        obtain ⟨k, hz, hk, hE⟩ := hinv
        replace hz : z = (k : Int) := hz
        replace s5 : qt tx = ((tx.size : Nat) : Int) := s5 tx
        have hlt : qh z (qt tx) = decide (k < tx.size) := by rw [e7, s5, hz]; exact decide_eq_decide.2 (by omega)
        by_cases h9 : k < tx.size
        · rw [decide_eq_true h9] at hlt
          obtain ⟨c, hc⟩ : ∃ c, (btl tx)[k]? = some c := ⟨_, List.getElem?_eq_getElem (by rw [btl_size]; exact h9)⟩
          obtain ⟨x, hx⟩ : ∃ x, ks[k]? = some x := ⟨_, List.getElem?_eq_getElem (by omega)⟩
          have hb2 : bls[k]? = some ((c.toNat : Int) == 114) := by rw [hbls, List.getElem?_map, hc]; rfl
          have hzip := zip_get hx hb2
          have hP1 := fun hy => all_step hzip hE hy
          have hP0 := fun hy => all_no (l := ks.zip bls) (p := P) hzip hy
          have hPx : P (x, (c.toNat : Int) == 114) = (decide (8 ≤ x.op) == ((c.toNat : Int) == 114)) := by rw [← hPP]
          have g1 : qz K z = some (cT x) := by rw [r2, hz, if_pos (by omega), hKL]; exact rT_get hx
          have g2 : qu tx z = some (c.toNat : Int) := by rw [s6, hz]; exact sget_is hc
          have hz1 : qa .i64 (qb z 1) = ((k + 1 : Nat) : Int) := by rw [e1, e2, hz, IntWalk.i64_in _ (by omega)]; omega
          have hmu : tx.size - (qa .i64 (qb z 1)).toNat < tx.size - z.toNat := by rw [hz1, hz]; omega
          obtain ⟨ci, hci⟩ : ∃ ci, ci = (c.toNat : Int) := ⟨_, rfl⟩
          rw [← hci] at hPx g2 hP1 hP0
          have h114 : qj ci 114 = (ci == 114) := e9 _ _
          have h8 : qi 8 x.op = decide (8 ≤ x.op) := e8 _ _
          obtain ⟨b8, hb8⟩ : ∃ b8, b8 = decide (8 ≤ x.op) := ⟨_, rfl⟩
          rw [← hb8] at hPx h8
          clear hb8
          clear hzip hb2 hx
          obtain ⟨op', nm', n', ks'⟩ := x
          rw [cT] at g1
          simp only [Ty.op] at *
          generalize rT ks' = KL' at *
          generalize hp : P (Ty.mk op' nm' n' ks', ci == 114) = pv at *
          generalize (ci == 114) = b114 at *
          rw [hlt]
          cases b8 <;> cases b114
          all_goals
            first
            | (replace hPx : pv = true := hPx
               cbv
               repeat (first | (with_reducible apply next_at hA; cbv) | (rw [g1]; cbv) | (rw [g2]; cbv) | (rw [h114]; cbv) | (rw [h8]; cbv))
               try cbv
               repeat (first | (with_reducible apply next_at hA; cbv) | (rw [g1]; cbv) | (rw [g2]; cbv) | (rw [h114]; cbv) | (rw [h8]; cbv))
               try simp (maxSteps := 4000000) only [nc] at *
               refine ⟨qa .i64 (qb z 1), ⟨k + 1, hz1, h9, hP1 hPx⟩, hmu, ?_⟩
               cbv; done)
            | (replace hPx : pv = false := hPx
               have hf := hP0 hPx
               rw [hal] at hf
               have hBf : false = B := by rw [← hB, hf]
               cbv
               repeat (first | (with_reducible apply next_at hA; cbv) | (rw [g1]; cbv) | (rw [g2]; cbv) | (rw [h114]; cbv) | (rw [h8]; cbv))
               try cbv
               repeat (first | (with_reducible apply next_at hA; cbv) | (rw [g1]; cbv) | (rw [g2]; cbv) | (rw [h114]; cbv) | (rw [h8]; cbv))
               try simp (maxSteps := 4000000) only [nc] at *
               exact resb hBf)
        · rw [decide_eq_false h9] at hlt
          have hf : al = true := by rw [← hal, ← hE, List.take_of_length_le (by rw [List.length_zip]; omega)]
          have hBf : true = B := by rw [← hB, hf]
          rw [hlt]
          cbv
          repeat ((with_reducible apply next_at hA); cbv)
          exact resb hBf
  · cases w
    · cases be
      all_goals
        cbv
        repeat (first | (with_reducible apply next_at hA; cbv) | (rw [q1]; cbv) | (rw [q2]; cbv) | (rw [q3]; cbv) | (refine call_at hA _ hKd rfl ?_; cbv) | (refine calm_at hA _ hKd ?_; cbv) | (refine call_at hA _ hiv rfl ?_; cbv) | (refine calm_at hA _ hiv ?_; cbv) | (refine call_at hA _ hFd rfl ?_; cbv) | (refine calm_at hA _ hFd ?_; cbv) | (refine call_at hA _ hRw rfl ?_; cbv) | (refine calm_at hA _ hRw ?_; cbv))
        try cbv
        repeat (first | (with_reducible apply next_at hA; cbv) | (rw [q1]; cbv) | (rw [q2]; cbv) | (rw [q3]; cbv) | (refine call_at hA _ hKd rfl ?_; cbv) | (refine calm_at hA _ hKd ?_; cbv) | (refine call_at hA _ hiv rfl ?_; cbv) | (refine calm_at hA _ hiv ?_; cbv) | (refine call_at hA _ hFd rfl ?_; cbv) | (refine calm_at hA _ hFd ?_; cbv) | (refine call_at hA _ hRw rfl ?_; cbv) | (refine calm_at hA _ hRw ?_; cbv))
        try simp (maxSteps := 4000000) only [nc] at *
        exact resb hB
    · cases be
      all_goals
        replace hB : al = B := hB
        cbv
        repeat (first | (with_reducible apply next_at hA; cbv) | (rw [q1]; cbv) | (rw [q2]; cbv) | (rw [q3]; cbv) | (refine call_at hA _ hKd rfl ?_; cbv) | (refine calm_at hA _ hKd ?_; cbv) | (refine call_at hA _ hiv rfl ?_; cbv) | (refine calm_at hA _ hiv ?_; cbv) | (refine call_at hA _ hFd rfl ?_; cbv) | (refine calm_at hA _ hFd ?_; cbv) | (refine call_at hA _ hRw rfl ?_; cbv) | (refine calm_at hA _ hRw ?_; cbv))
        try cbv
        repeat (first | (with_reducible apply next_at hA; cbv) | (rw [q1]; cbv) | (rw [q2]; cbv) | (rw [q3]; cbv) | (refine call_at hA _ hKd rfl ?_; cbv) | (refine calm_at hA _ hKd ?_; cbv) | (refine call_at hA _ hiv rfl ?_; cbv) | (refine calm_at hA _ hiv ?_; cbv) | (refine call_at hA _ hFd rfl ?_; cbv) | (refine calm_at hA _ hFd ?_; cbv) | (refine call_at hA _ hRw rfl ?_; cbv) | (refine calm_at hA _ hRw ?_; cbv))
        try simp (maxSteps := 4000000) only [nc] at *
        refine loop_at hA (γ := Int) (fun z => [(5, vi .i64 z), (6, .jk), (9, .jk)]) (fun _ => []) (fun z => ∃ k : Nat, z = (k : Int) ∧ k ≤ tx.size ∧ ((ks.zip bls).take k).all P = true) (fun z => tx.size - z.toNat) 0 ?_ ?_ ?_
        · exact ⟨0, rfl, Nat.zero_le _, rfl⟩
        · cbv
        · intro z hinv
          cbv
          repeat ((with_reducible apply next_at hA); cbv)
          try simp (maxSteps := 4000000) only [nc] at *
          obtain ⟨k, hz, hk, hE⟩ := hinv
          replace hz : z = (k : Int) := hz
          replace s5 : qt tx = ((tx.size : Nat) : Int) := s5 tx
          have hlt : qh z (qt tx) = decide (k < tx.size) := by rw [e7, s5, hz]; exact decide_eq_decide.2 (by omega)
          by_cases h9 : k < tx.size
          · rw [decide_eq_true h9] at hlt
            obtain ⟨c, hc⟩ : ∃ c, (btl tx)[k]? = some c := ⟨_, List.getElem?_eq_getElem (by rw [btl_size]; exact h9)⟩
            obtain ⟨x, hx⟩ : ∃ x, ks[k]? = some x := ⟨_, List.getElem?_eq_getElem (by omega)⟩
            have hb2 : bls[k]? = some ((c.toNat : Int) == 114) := by rw [hbls, List.getElem?_map, hc]; rfl
            have hzip := zip_get hx hb2
            have hP1 := fun hy => all_step hzip hE hy
            have hP0 := fun hy => all_no (l := ks.zip bls) (p := P) hzip hy
            have hPx : P (x, (c.toNat : Int) == 114) = (decide (8 ≤ x.op) == ((c.toNat : Int) == 114)) := by rw [← hPP]
            have g1 : qz K z = some (cT x) := by rw [r2, hz, if_pos (by omega), hKL]; exact rT_get hx
            have g2 : qu tx z = some (c.toNat : Int) := by rw [s6, hz]; exact sget_is hc
            have hz1 : qa .i64 (qb z 1) = ((k + 1 : Nat) : Int) := by rw [e1, e2, hz, IntWalk.i64_in _ (by omega)]; omega
            have hmu : tx.size - (qa .i64 (qb z 1)).toNat < tx.size - z.toNat := by rw [hz1, hz]; omega
            obtain ⟨ci, hci⟩ : ∃ ci, ci = (c.toNat : Int) := ⟨_, rfl⟩
            rw [← hci] at hPx g2 hP1 hP0
            have h114 : qj ci 114 = (ci == 114) := e9 _ _
            have h8 : qi 8 x.op = decide (8 ≤ x.op) := e8 _ _
            obtain ⟨b8, hb8⟩ : ∃ b8, b8 = decide (8 ≤ x.op) := ⟨_, rfl⟩
            rw [← hb8] at hPx h8
            clear hb8
            clear hzip hb2 hx
            obtain ⟨op', nm', n', ks'⟩ := x
            rw [cT] at g1
            simp only [Ty.op] at *
            generalize rT ks' = KL' at *
            generalize hp : P (Ty.mk op' nm' n' ks', ci == 114) = pv at *
            generalize (ci == 114) = b114 at *
            rw [hlt]
            cases b8 <;> cases b114
            all_goals
              first
              | (replace hPx : pv = true := hPx
                 cbv
                 repeat (first | (with_reducible apply next_at hA; cbv) | (rw [g1]; cbv) | (rw [g2]; cbv) | (rw [h114]; cbv) | (rw [h8]; cbv))
                 try cbv
                 repeat (first | (with_reducible apply next_at hA; cbv) | (rw [g1]; cbv) | (rw [g2]; cbv) | (rw [h114]; cbv) | (rw [h8]; cbv))
                 try simp (maxSteps := 4000000) only [nc] at *
                 refine ⟨qa .i64 (qb z 1), ⟨k + 1, hz1, h9, hP1 hPx⟩, hmu, ?_⟩
                 cbv; done)
              | (replace hPx : pv = false := hPx
                 have hf := hP0 hPx
                 rw [hal] at hf
                 have hBf : false = B := by rw [← hB, hf]
                 cbv
                 repeat (first | (with_reducible apply next_at hA; cbv) | (rw [g1]; cbv) | (rw [g2]; cbv) | (rw [h114]; cbv) | (rw [h8]; cbv))
                 try cbv
                 repeat (first | (with_reducible apply next_at hA; cbv) | (rw [g1]; cbv) | (rw [g2]; cbv) | (rw [h114]; cbv) | (rw [h8]; cbv))
                 try simp (maxSteps := 4000000) only [nc] at *
                 exact resb hBf)
          · rw [decide_eq_false h9] at hlt
            have hf : al = true := by rw [← hal, ← hE, List.take_of_length_le (by rw [List.length_zip]; omega)]
            have hBf : true = B := by rw [← hB, hf]
            rw [hlt]
            cbv
            repeat ((with_reducible apply next_at hA); cbv)
            exact resb hBf
end Go.Proofs.Ytclehkgnacekkaa.Vm
end
section
namespace Go.Proofs.Ytclehkgnacekkaa.Vm
open Go.RowKit
theorem shape_part {W : ByteArray → Bool} {t : Ty} : ∀ {s : Int}, shapeB W t s = true → ∀ x ∈ t.parts, ∃ c, shapeB W x c = true := by
  induction t using Ty.ind with
  | h t ih =>
    intro s h x hx
    rw [parts_kids] at hx
    rcases List.mem_cons.1 hx with rfl | hx
    · exact ⟨s, h⟩
    · obtain ⟨y, hy, hxy⟩ := List.mem_flatMap.1 hx
      obtain ⟨k, hk, h1, h2, h3, h4, h5, h6⟩ := shape_parts h
      obtain ⟨c, hc⟩ := shapes_mem W _ _ h6 y hy
      exact ih y hy hc x hxy
theorem word_size {nm : ByteArray} (h : wordB nm = true) : nm.size ≤ 32 := by
  unfold wordB at h
  rw [Bool.and_eq_true] at h
  exact of_decide_eq_true h.1
theorem shape_name {t : Ty} {s : Int} (h : shapeB wordB t s = true) : t.name.size ≤ 32 := by
  obtain ⟨k, hk, h1, h2, h3, -⟩ := shape_parts h
  split at h3
  · exact word_size h3
  · have h4 : t.name.toList = [] := of_decide_eq_true h3
    have h5 : t.name.data.toList = [] := by rw [← ByteArray.toList_eq]; exact h4
    have h6 : t.name.size = t.name.data.toList.length := by rw [Array.length_toList]; rfl
    rw [h6, h5]
    simp
theorem sm_of {t : Ty} {s : Int} (h : shapeB wordB t s = true) (hN : t.parts.length ≤ 1048576) : Sm t := ⟨hN, fun x hx => by
  obtain ⟨c, hc⟩ := shape_part h x hx
  have := shape_name hc
  omega⟩
end Go.Proofs.Ytclehkgnacekkaa.Vm
end
section
namespace Go.Proofs.Ytclehkgnacekkaa.Vm
open Go.RowKit
structure PMI (cs : List Cel) (L : List Bd) (rs : List Int) (tys : List Ty) (k : Nat) : Prop where
  wf : Wf cs
  uq : Uq L
  tw : Twin L cs
  cl : cs.length ≤ 100 * k
  ll : L.length ≤ 100 * k
  len : tys.length = rs.length
  tl : tys.length ≤ k
  is : ∀ (i : Nat) (t : Ty) (r : Int), tys[i]? = some t → rs[i]? = some r → Is cs (canonS t) r ∧ ∃ s, (s = 116 ∨ s = 114) ∧ rightB t s = true ∧ t.parts.length ≤ 100 ∧ Sm t
theorem pmi_nil : PMI [] [] [] [] 0 := ⟨wf_nil, uq_nil, twin_nil, by simp, by simp, rfl, by simp, by simp⟩
theorem PMI.skip {cs : List Cel} {L : List Bd} {rs : List Int} {tys : List Ty} {k : Nat} (h : PMI cs L rs tys k) : PMI cs L rs tys (k + 1) :=
  ⟨h.wf, h.uq, h.tw, by have := h.cl; omega, by have := h.ll; omega, h.len, by have := h.tl; omega, h.is⟩
theorem PMI.take {cs : List Cel} {L : List Bd} {rs : List Int} {tys : List Ty} {k : Nat} (h : PMI cs L rs tys k) {x : Ty} (hx : Sm x) (hp : x.parts.length ≤ 100) (hr : eitherT x = true) (hm : meetOk L x = true) :
    sortedB cs x = true ∧ PMI (addF 0 (canonS x) cs).2 (meetF 0 L x) (rs ++ [((addF 0 (canonS x) cs).1 : Int)]) (tys ++ [x]) (k + 1) := by
  obtain ⟨s, hs1, hs2⟩ : ∃ s, (s = 116 ∨ s = 114) ∧ rightB x s = true := by
    unfold eitherT at hr
    simp only [Bool.or_eq_true] at hr
    rcases hr with h | h
    · exact ⟨116, .inl rfl, h⟩
    · exact ⟨114, .inr rfl, h⟩
  obtain ⟨h1, h2, h3, ⟨e, h4, h5⟩, h6⟩ := both_step h.wf h.uq h.tw 0 0 hs2 hm
  refine ⟨by rw [← twin_meet h.tw]; exact hm, h3, h1, h2, ?_, ?_, by simp [h.len], by have := h.tl; simp; omega, fun i t r ht hr => ?_⟩
  · have := h.cl; rw [h4, List.length_append]; omega
  · have h7 := (meet_len 0 x.parts L).2; have := h.ll; unfold meetF; omega
  · rcases get_snoc ht with ht2 | ⟨hi, rfl⟩
    · have hr2 : rs[i]? = some r := by
        rcases get_snoc hr with hr2 | ⟨hj, _⟩
        · exact hr2
        · have := (List.getElem?_eq_some_iff.1 ht2).1
          have := h.len
          omega
      obtain ⟨g1, g2⟩ := h.is i t r ht2 hr2
      exact ⟨by rw [h4]; exact g1.mono e _ _, g2⟩
    · rcases get_snoc hr with hr2 | ⟨hj, rfl⟩
      · have := (List.getElem?_eq_some_iff.1 hr2).1
        have := h.len
        omega
      · exact ⟨h6, s, hs1, hs2, hp, hx⟩
theorem flat_le : ∀ us : List Ty, (∀ t ∈ us, t.parts.length ≤ 100) → (us.flatMap Ty.parts).length ≤ 100 * us.length
  | [], _ => by simp
  | t :: us, h => by
    have h1 := h t (List.mem_cons_self ..)
    have h2 := flat_le us fun x hx => h x (List.mem_cons_of_mem _ hx)
    simp only [List.flatMap_cons, List.length_append, List.length_cons]
    omega
theorem tmod3 : ∀ y : Int, -2 ≤ y.tmod 3 ∧ y.tmod 3 ≤ 2
  | .ofNat n => by
    have : (Int.ofNat n).tmod 3 = ((n % 3 : Nat) : Int) := rfl
    omega
  | .negSucc n => by
    have : (Int.negSucc n).tmod 3 = -(((n + 1) % 3 : Nat) : Int) := rfl
    omega
def badI (n : Nat) (z : Int) : Bool := decide (z < 0) || decide ((n : Int) ≤ z)
def givI (rs : List Int) (z : Int) : Int := if badI rs.length z = true then -1 - z.tmod 3 else (rs[z.toNat]?).getD 0
def kidI (tys : List Ty) (z : Int) : List Ty := if badI tys.length z = true then [] else (match tys[z.toNat]? with | some t => [t] | none => [])
theorem badI_no {n : Nat} {z : Int} (h : badI n z = false) : 0 ≤ z ∧ z.toNat < n := by
  unfold badI at h
  simp only [Bool.or_eq_false_iff, decide_eq_false_iff_not] at h
  omega
theorem giv_kid {cs : List Cel} {rs : List Int} {tys : List Ty} (hl : tys.length = rs.length) : ∀ (ks : List Int), (∀ z ∈ ks, badI rs.length z = false) → (ks.flatMap (kidI tys)).length = (ks.map (givI rs)).length ∧
    ∀ (i : Nat) (t : Ty) (r : Int), (ks.flatMap (kidI tys))[i]? = some t → (ks.map (givI rs))[i]? = some r → ∃ j : Nat, tys[j]? = some t ∧ rs[j]? = some r
  | [], _ => ⟨rfl, fun i t r h => by simp at h⟩
  | z :: ks, h => by
    have hz := h z (List.mem_cons_self ..)
    obtain ⟨g1, g2⟩ := giv_kid (cs := cs) hl ks fun y hy => h y (List.mem_cons_of_mem _ hy)
    obtain ⟨h0, hlt⟩ := badI_no hz
    obtain ⟨t0, ht0⟩ : ∃ t, tys[z.toNat]? = some t := ⟨_, List.getElem?_eq_getElem (by omega)⟩
    obtain ⟨r0, hr0⟩ : ∃ r, rs[z.toNat]? = some r := ⟨_, List.getElem?_eq_getElem hlt⟩
    have e1 : kidI tys z = [t0] := by unfold kidI; rw [if_neg (by rw [hl, hz]; simp), ht0]
    have e2 : givI rs z = r0 := by unfold givI; rw [if_neg (by rw [hz]; simp), hr0]; rfl
    rw [List.flatMap_cons, List.map_cons, e1, e2]
    refine ⟨by simp [g1], fun i t r ht hr => ?_⟩
    cases i with
    | zero =>
      simp at ht hr
      subst ht; subst hr
      exact ⟨_, ht0, hr0⟩
    | succ i => exact g2 i t r (by simpa using ht) (by simpa using hr)
theorem make_strange {cs : List Cel} {op : Int} {nm : ByteArray} {gs : List Int} (h : ∃ g ∈ gs, g ≤ -1) : makeB cs op nm gs = false := by
  unfold makeB
  cases hso : sortsO op with
  | none => rfl
  | some l =>
    simp only
    by_cases hl : l.length = gs.length
    · obtain ⟨g, hg, hneg⟩ := h
      obtain ⟨i, hi⟩ := List.mem_iff_getElem?.1 hg
      obtain ⟨b, hb⟩ : ∃ b, l[i]? = some b := get_of_len hl.symm hi
      have hz := zip_get hi hb
      have hf : kidOk cs (g, b) = false := by unfold kidOk; rw [if_neg (by omega)]
      rw [all_no (p := kidOk cs) hz hf]
      simp
    · rw [decide_eq_false hl, Bool.false_and]
theorem make_final {cs : List Cel} {L : List Bd} {rs : List Int} {tys : List Ty} {k : Nat} (h : PMI cs L rs tys k) {op : Int} {nm : ByteArray} {ks : List Int} (hks : ∀ z ∈ ks, badI rs.length z = false) (hn : nm.size ≤ 1048576) :
    makeB cs op nm (ks.map (givI rs)) = shapeL (.mk op nm 0 (ks.flatMap (kidI tys))) ∧ (makeB cs op nm (ks.map (givI rs)) = true → ks.length ≤ 2 →
      ∃ T : Ty, Is (putC op nm (kA (ks.map (givI rs))) (kB (ks.map (givI rs))) cs).2 T ((putC op nm (kA (ks.map (givI rs))) (kB (ks.map (givI rs))) cs).1 : Nat) ∧ Sm T ∧ eitherT T = true ∧ canonS T = canonS (.mk op nm 0 (ks.flatMap (kidI tys))) ∧
        Sm (.mk op nm 0 (ks.flatMap (kidI tys))) ∧ SpineAll (.mk op nm 0 (ks.flatMap (kidI tys)))) := by
  obtain ⟨g1, g2⟩ := giv_kid (cs := cs) h.len ks hks
  generalize hG : ks.map (givI rs) = gs at *
  generalize hT : ks.flatMap (kidI tys) = ts at *
  have hcell : ∀ (i : Nat) (t : Ty) (r : Int), ts[i]? = some t → gs[i]? = some r → ∃ c, 0 ≤ r ∧ cs[r.toNat]? = some c ∧ c.op = t.op := fun i t r ht hr => by
    obtain ⟨j, hj1, hj2⟩ := g2 i t r ht hr
    obtain ⟨his, s, -, hrt, -⟩ := h.is j t r hj1 hj2
    rw [Is_eq] at his
    obtain ⟨c, c0, c1, c2, -⟩ := his
    exact ⟨c, c0, c1, by rw [c2]; exact canon_op_any (shape_spineAll (right_shape hrt).1).self⟩
  refine ⟨make_shapeL g1 hcell, fun hmk hk2 => ?_⟩
  have hgl : gs.length ≤ 2 := by rw [← hG, List.length_map]; exact hk2
  have hso : ∃ l, sortsO op = some l ∧ l.length = gs.length ∧ (nm = ⟨#[]⟩ ∨ op = 11) ∧ (op ≠ 11 ∨ wordB nm = true) ∧ (gs.zip l).all (kidOk cs) = true := by
    unfold makeB at hmk
    cases hs : sortsO op with
    | none => rw [hs] at hmk; cases hmk
    | some l =>
      rw [hs] at hmk
      simp only [Bool.and_eq_true, Bool.or_eq_true, decide_eq_true_eq, beq_iff_eq, Bool.not_eq_true', beq_eq_false_iff_ne] at hmk
      exact ⟨l, rfl, hmk.1, hmk.2.1, hmk.2.2.1, hmk.2.2.2⟩
  obtain ⟨l, hs1, hs2, hs3, hs4, hs5⟩ := hso
  have hvr := (sortsO_le hs1).2
  have hkd : ∃ kk, kidsS op = some kk ∧ l = kk.map (fun c => c == 114) ∧ ∀ c ∈ kk, c = 116 ∨ c = 114 := by
    cases hk : kidsS op with
    | none =>
      exfalso
      unfold kidsS at hk
      unfold sortsO at hs1
      repeat' split at hk
      all_goals first | (cases hk; done) | skip
      rename_i a1 a2 a3 a4
      rw [if_neg (by omega), if_neg a2, if_neg a3, if_neg a4] at hs1
      cases hs1
    | some kk =>
      have := sorts_kids hk hvr
      rw [hs1] at this
      injection this with this
      refine ⟨kk, rfl, this, fun c hc => ?_⟩
      unfold kidsS at hk
      repeat' split at hk
      all_goals first | (cases hk; done) | (cases hk; simp at hc; try omega)
  obtain ⟨kk, hk1, hk2', hk3⟩ := hkd
  have hkl : kk.length = ts.length := by rw [g1, ← hs2, hk2', List.length_map]
  have hsh : ∀ (i : Nat) (t : Ty) (c : Int), ts[i]? = some t → kk[i]? = some c → shapeB wordB t c = true := fun i t c ht hc => by
    obtain ⟨r, hr⟩ := get_of_len g1 ht
    obtain ⟨j, hj1, hj2⟩ := g2 i t r ht hr
    obtain ⟨his, s, hs, hrt, -⟩ := h.is j t r hj1 hj2
    have hst := (right_shape hrt).1
    obtain ⟨cc, c0, c1, c2⟩ := hcell i t r ht hr
    have hlb : l[i]? = some (c == 114) := by rw [hk2', List.getElem?_map, hc]; rfl
    have hko := List.all_eq_true.1 hs5 (r, c == 114) (List.mem_of_getElem? (zip_get hr hlb))
    unfold kidOk at hko
    rw [if_pos c0, c1] at hko
    simp only [beq_iff_eq] at hko
    rw [c2] at hko
    obtain ⟨_, _, p1, _⟩ := shape_parts hst
    have p1 : decide (8 ≤ t.op) = (s == 114) := by simpa using p1
    rw [p1] at hko
    have : c = s := by
      rcases hs with rfl | rfl <;> rcases hk3 c (List.mem_of_getElem? hc) with rfl | rfl
      · rfl
      · simp at hko
      · simp at hko
      · rfl
    rw [this]
    exact hst
  have hshs : shapesB wordB ts kk = true := by
    have key : ∀ (ts : List Ty) (kk : List Int), kk.length = ts.length → (∀ (i : Nat) (t : Ty) (c : Int), ts[i]? = some t → kk[i]? = some c → shapeB wordB t c = true) → shapesB wordB ts kk = true := by
      intro ts
      induction ts with
      | nil => intro kk _ _; rw [shapesB]
      | cons t ts ih =>
        intro kk h1 h2
        match kk, h1 with
        | c :: kk, h1 =>
          rw [shapesB, h2 0 t c rfl rfl, ih kk (by simpa using h1) fun i t' c' ht hc => h2 (i + 1) t' c' (by simpa using ht) (by simpa using hc)]
          rfl
    exact key ts kk hkl hsh
  have hshape : ∃ s, (s = 116 ∨ s = 114) ∧ shapeB wordB (.mk op nm 0 ts) s = true := by
    refine ⟨if 8 ≤ op then 114 else 116, by split <;> simp, shape_mk hk1 ?_ hkl.symm ?_ (Int.le_refl 0) (.inr (.inr rfl)) hshs⟩
    · by_cases h8 : 8 ≤ op
      · rw [if_pos h8, decide_eq_true h8]; rfl
      · rw [if_neg h8, decide_eq_false h8]; rfl
    · by_cases h11 : op = 11
      · rw [if_pos h11]; exact hs4.resolve_left (fun h => h h11)
      · rw [if_neg h11]
        have := hs3.resolve_right h11
        rw [this]
        exact decide_eq_true (by rw [ByteArray.toList_eq])
  obtain ⟨s, hs, hshT⟩ := hshape
  have hilist : IsL cs (ts.map canonS) gs := by
    rw [IsL_fa]
    refine ⟨by rw [List.length_map]; exact g1, fun i t r ht hr => ?_⟩
    rw [List.getElem?_map] at ht
    obtain ⟨t0, ht0, rfl⟩ := Option.map_eq_some_iff.1 ht
    obtain ⟨j, hj1, hj2⟩ := g2 i t0 r ht0 hr
    exact (h.is j t0 r hj1 hj2).1
  have hsmall : ∀ t ∈ ts, t.parts.length ≤ 100 ∧ Sm t ∧ (canonS t).parts.length = t.parts.length := fun t ht => by
    obtain ⟨i, hi⟩ := List.mem_iff_getElem?.1 ht
    obtain ⟨r, hr⟩ := get_of_len g1 hi
    obtain ⟨j, hj1, hj2⟩ := g2 i t r hi hr
    obtain ⟨-, s, -, hrt, hp, hm⟩ := h.is j t r hj1 hj2
    exact ⟨hp, hm, canon_len _ t (Nat.le_refl _) (shape_spineAll (right_shape hrt).1)⟩
  have htl : ts.length ≤ 2 := by omega
  have hsz : ∀ us : List Ty, us.length ≤ 2 → (∀ t ∈ us, t.parts.length ≤ 100) → (Ty.mk op nm 0 us).parts.length ≤ 201 := fun us h1 h2 => by
    rw [parts_kids, List.length_cons]
    simp only [Ty.kids]
    match us, h1 with
    | [], _ => simp
    | [a], _ => have := h2 a (by simp); simp; omega
    | [a, b], _ => have := h2 a (by simp); have := h2 b (by simp); simp; omega
    | _ :: _ :: _ :: _, h => simp at h
  have hw2 := put_is (σ := fun n => match cs.find? (numIs n) with | some c => c.op | none => 7) (t := .mk op nm 0 (ts.map canonS)) h.wf (fun c hc hv => by
      show c.op = match cs.find? (numIs c.num) with | some c => c.op | none => 7
      rw [find_num h.wf hc hv]) hvr rfl (by simp [Ty.kids, htl]) hilist
  have honce := hw2.2.once hw2.1.wf
  have hcs : shapeB wordB (.mk op nm 0 (ts.map canonS)) s = true := by
    obtain ⟨k', q0, q1, q2, q3, q4, q5, q6⟩ := shape_parts hshT
    exact shape_mk q0 q1 (by rw [List.length_map]; exact q2) q3 q4 q5 (shapes_map q6 fun x hx c hc => canon_shape _ x c (Nat.le_refl _) hc)
  have hnames : ∀ x ∈ (Ty.mk op nm 0 ts).parts, x.name.size ≤ 1048576 := fun x hx => by
    rw [parts_kids] at hx
    rcases List.mem_cons.1 hx with rfl | hx
    · exact hn
    · obtain ⟨t, ht, hx⟩ := List.mem_flatMap.1 hx
      exact (hsmall t ht).2.1.2 x hx
  refine ⟨.mk op nm 0 (ts.map canonS), hw2.2, sm_of hcs ?_, ?_, canon_ahead hshT, ⟨by have := hsz ts htl fun t ht => (hsmall t ht).1; omega, hnames⟩, shape_spineAll hshT⟩
  · have := hsz (ts.map canonS) (by simp [htl]) fun t ht => by
      obtain ⟨t0, h0, rfl⟩ := List.mem_map.1 ht
      have := hsmall t0 h0
      omega
    omega
  · unfold eitherT rightB
    rw [honce, Bool.and_true, Bool.and_true, Bool.or_eq_true]
    rcases hs with rfl | rfl
    · exact .inl hcs
    · exact .inr hcs
end Go.Proofs.Ytclehkgnacekkaa.Vm
end
section
namespace Go.Proofs.Ytclehkgnacekkaa.Vm
open Go.RowKit
def unTys (g : List D → Option (Ty × Nat)) : List (List D) → Option (List Ty × Nat)
  | [] => some ([], 0)
  | r :: rs => match g r with
    | some (t, m) => match unTys g rs with
      | some (ts, k) => some (t :: ts, m + k)
      | none => none
    | none => none
def unTy : Nat → List D → Option (Ty × Nat)
  | 0, _ => none
  | f + 1, [.sc (.int .u8 op), .sc (.string nm), .sc (.int .i64 n), .sl sz rows] => match rows with
    | [] => some (.mk op nm n [], 1)
    | r :: rs => match natEq sz 4 with
      | true => match unTys (unTy f) (r :: rs) with
        | some (ks, m) => some (.mk op nm n ks, m + 1)
        | none => none
      | false => none
  | _ + 1, _ => none
def Alike2 (ds es : List D) : Prop := ∀ (I : Nat → Nat → Prop) (w : World) (us : List Value), AtDs I w us ds → AtDs I w us es
theorem slice_alike {sz : Nat} {rows rows' : List (List D)} (hl : rows.length = rows'.length) (hr : ∀ (i : Nat) (r r' : List D), rows[i]? = some r → rows'[i]? = some r' → Alike2 r r' ∧ r'.length = sz) {I : Nat → Nat → Prop} {w : World} {v : Value} (h : AtD I w v (.sl sz rows)) : AtD I w v (.sl sz rows') := by
  cases h with
  | nil A cap => rw [List.eq_nil_of_length_eq_zero (l := rows') (by simpa using hl.symm)]; exact .nil _ _ _
  | sl b off cap _ _ us hcap hI hrl hl2 hc hd =>
    have hrl' : ∀ r ∈ rows', r.length = sz := fun r hr' => by
      obtain ⟨i, hi⟩ := List.mem_iff_getElem?.1 hr'
      have hlt : i < rows.length := by rw [hl]; exact (List.getElem?_eq_some_iff.1 hi).1
      exact (hr i _ r (List.getElem?_eq_getElem hlt) hi).2
    rw [hl]
    refine .sl b off cap sz rows' us (by rw [← hl]; exact hcap) (by rw [← hl]; exact hI) hrl' (by rw [← hl]; exact hl2) hc fun i u d hu hdd => ?_
    have hi : i < rows.length * sz := by rw [← hl2]; exact (List.getElem?_eq_some_iff.1 hu).1
    rcases Nat.eq_zero_or_pos sz with h0 | hpos
    · rw [h0, Nat.mul_zero] at hi; omega
    have hq : i / sz < rows.length := (Nat.div_lt_iff_lt_mul hpos).2 hi
    have hm : i % sz < sz := Nat.mod_lt _ hpos
    have ei : i / sz * sz + i % sz = i := by rw [Nat.mul_comm]; exact Nat.div_add_mod i _
    obtain ⟨r, hr1⟩ : ∃ r, rows[i / sz]? = some r := ⟨_, List.getElem?_eq_getElem hq⟩
    obtain ⟨r', hr2⟩ : ∃ r', rows'[i / sz]? = some r' := ⟨_, List.getElem?_eq_getElem (by omega)⟩
    have hal := (hr _ r r' hr1 hr2).1
    have hcs : AtDs I w ((us.drop (i / sz * sz)).take sz) r := by
      refine ⟨?_, fun j u d hu hd' => ?_⟩
      · have h1 := hrl r (List.mem_of_getElem? hr1)
        rw [h1, List.length_take, List.length_drop, hl2]
        have : (i / sz + 1) * sz ≤ rows.length * sz := Nat.mul_le_mul_right _ hq
        rw [Nat.add_mul] at this
        omega
      · have hj : j < sz := by
          have := (List.getElem?_eq_some_iff.1 hu).1
          rw [List.length_take] at this
          omega
        rw [List.getElem?_take_of_lt hj, List.getElem?_drop] at hu
        refine hd (i / sz * sz + j) u d hu ?_
        rw [flat_get hrl hr1 hj]
        exact hd'
    have h2 := hal I w _ hcs
    have hu2 : ((us.drop (i / sz * sz)).take sz)[i % sz]? = some u := by rw [List.getElem?_take_of_lt hm, List.getElem?_drop, ei]; exact hu
    have hd2 : r'[i % sz]? = some d := by rw [← hdd, ← flat_get hrl' hr2 hm, ei]
    exact h2.2 _ u d hu2 hd2
theorem unTy_s : ∀ (f : Nat),  (∀ (ds : List D) (t : Ty) (m : Nat), unTy f ds = some (t, m) → Alike2 ds (cT t) ∧ t.parts.length = m) ∧ ∀ (rows : List (List D)) (ts : List Ty) (m : Nat), unTys (unTy f) rows = some (ts, m) → rows.length = ts.length ∧ (partsL ts).length = m ∧ ∀ (i : Nat) (r r' : List D), rows[i]? = some r → (rT ts)[i]? = some r' → Alike2 r r' ∧ r'.length = 4 := by
  intro f
  induction f with
  | zero =>
    refine ⟨fun ds t m h => (by simp [unTy] at h), fun rows => ?_⟩
    cases rows with
    | nil => intro ts m h; rw [unTys] at h; cases h; exact ⟨rfl, by rw [partsL]; rfl, fun i r r' h => by simp at h⟩
    | cons r rs => intro ts m h; simp [unTys, unTy] at h
  | succ f ih =>
    have h1 : ∀ (ds : List D) (t : Ty) (m : Nat), unTy (f + 1) ds = some (t, m) → Alike2 ds (cT t) ∧ t.parts.length = m := by
      intro ds t m h
      unfold unTy at h
      split at h
      · cases h
      · rename_i fx op nm n sz rows ef
        cases ef
        split at h
        · cases h
          refine ⟨fun I w us hu => ?_, by rw [Ty.parts, partsL]; rfl⟩
          obtain ⟨u0, us0, rfl, a0, hu⟩ := hu.uncons
          obtain ⟨u1, us1, rfl, a1, hu⟩ := hu.uncons
          obtain ⟨u2, us2, rfl, a2, hu⟩ := hu.uncons
          obtain ⟨u3, us3, rfl, a3, hu⟩ := hu.uncons
          rw [cT, rT]
          refine AtDs.cons a0 (AtDs.cons a1 (AtDs.cons a2 (AtDs.cons ?_ hu)))
          cases a3 with
          | nil A cap => exact .nil _ _ _
          | sl b off cap _ _ us hcap hI hrl hl2 hc hd => exact .nil _ _ _
        · rename_i r rs
          split at h
          · rename_i hsz
            have hsz := natEq_eq hsz
            subst hsz
            split at h
            · rename_i ks k hk
              cases h
              obtain ⟨e1, e2, e3⟩ := ih.2 _ _ _ hk
              refine ⟨fun I w us hu => ?_, by rw [Ty.parts, List.length_cons, e2]⟩
              obtain ⟨u0, us0, rfl, a0, hu⟩ := hu.uncons
              obtain ⟨u1, us1, rfl, a1, hu⟩ := hu.uncons
              obtain ⟨u2, us2, rfl, a2, hu⟩ := hu.uncons
              obtain ⟨u3, us3, rfl, a3, hu⟩ := hu.uncons
              rw [cT]
              exact AtDs.cons a0 (AtDs.cons a1 (AtDs.cons a2 (AtDs.cons (slice_alike (by rw [rT_len]; exact e1) e3 a3) hu)))
            · cases h
          · cases h
      · cases h
    refine ⟨h1, ?_⟩
    intro rows
    induction rows with
    | nil => intro ts m h; rw [unTys] at h; cases h; exact ⟨rfl, by rw [partsL]; rfl, fun i r r' h => by simp at h⟩
    | cons r rs ihr =>
      intro ts m h
      rw [unTys] at h
      split at h
      · rename_i t m1 ht
        split at h
        · rename_i ts' k hts
          cases h
          obtain ⟨e1, e2, e3⟩ := ihr _ _ hts
          obtain ⟨a1, a2⟩ := h1 _ _ _ ht
          refine ⟨by simp [e1], by rw [partsL, List.length_append, a2, e2], fun i r1 r2 hr1 hr2 => ?_⟩
          cases i with
          | zero =>
            simp at hr1
            subst hr1
            rw [rT] at hr2
            simp at hr2
            subst hr2
            refine ⟨a1, ?_⟩
            obtain ⟨op, nm, n, ks⟩ := t
            rw [cT]; rfl
          | succ i => rw [rT] at hr2; exact e3 i r1 r2 (by simpa using hr1) (by simpa using hr2)
        · cases h
      · cases h
theorem Spec.alike {f : Nat} {rs rs' q : List R} (h : Spec f rs' q) (ha : ∀ I w vs, AtRs I w vs rs → AtRs I w vs rs') : Spec f rs q := ⟨h.1, fun I w args hI hat => h.2 I w args hI (ha I w args hat)⟩
theorem atR_ag {I : Nat → Nat → Prop} {w : World} {v : Value} {ds es : List D} (ha : Alike2 ds es) (h : AtR I w v (.ag ds)) : AtR I w v (.ag es) := by
  obtain ⟨us, e, hu⟩ := h
  exact ⟨us, e, ha I w us hu⟩
def unFs : List (List D) → Option (List (ByteArray × Ty) × Nat)
  | [] => some ([], 0)
  | (.sc (.string nm) :: ds) :: rs => match unTy 60 ds with
    | some (t, m) => match Nat.ble m 1048576 with
      | true => match unFs rs with
        | some (fs, k) => some ((nm, t) :: fs, k + 1)
        | none => none
      | false => none
    | none => none
  | _ :: _ => none
theorem unFs_s : ∀ (rows : List (List D)) (fs : List (ByteArray × Ty)) (k : Nat), unFs rows = some (fs, k) → rows.length = fs.length ∧ fs.length = k ∧ (∀ f ∈ fs, f.2.parts.length ≤ 1048576) ∧ ∀ (i : Nat) (r r' : List D), rows[i]? = some r → (rF fs)[i]? = some r' → Alike2 r r' ∧ r'.length = 5
  | [], fs, k, h => by rw [unFs] at h; cases h; exact ⟨rfl, rfl, fun f hf => by simp at hf, fun i r r' h => by simp at h⟩
  | r :: rs, fs, k, h => by
    unfold unFs at h
    split at h
    · rename_i e; cases e
    · rename_i nm ds rs' e
      cases e
      split at h
      · rename_i t m ht
        split at h
        · rename_i hm
          split at h
          · rename_i fs' k' hfs
            cases h
            obtain ⟨e1, e2, e3, e4⟩ := unFs_s _ _ _ hfs
            obtain ⟨a1, a2⟩ := (unTy_s 60).1 _ _ _ ht
            refine ⟨by simp [e1], by simp [e2], fun f hf => ?_, fun i r1 r2 h1 h2 => ?_⟩
            · rcases List.mem_cons.1 hf with rfl | hf
              · show t.parts.length ≤ _
                rw [a2]; exact Nat.le_of_ble_eq_true hm
              · exact e3 f hf
            · cases i with
              | zero =>
                simp at h1
                subst h1
                simp [rF] at h2
                subst h2
                refine ⟨fun I w us hu => ?_, ?_⟩
                · obtain ⟨u0, us0, rfl, a0, hu⟩ := hu.uncons
                  exact AtDs.cons a0 (a1 I w us0 hu)
                · obtain ⟨op, nm, n, ks⟩ := t
                  rw [cT]; rfl
              | succ i => exact e4 i r1 r2 (by simpa using h1) (by simpa [rF] using h2)
          · cases h
        · cases h
      · cases h
    · cases h
def joinPF : List R → Option (List R)
  | [.one (.sl sz rows), .ag tl] => match unFs rows with
    | some (fs, k) => match Nat.ble k 1000000, unTy 60 tl with
      | true, some (t, m) => match Nat.ble m 1048576 with
        | true => match fs with
          | [] => some [.ag (cT t)]
          | f :: fs => match natEq sz 5 with
            | true => some [.ag (joinD (rF (f :: fs)) (cT t))]
            | false => none
        | false => none
      | _, _ => none
    | none => none
  | _ => none
theorem join_ty (fs : List (ByteArray × Ty)) (t : Ty) (hk : fs.length ≤ 1000000) (hf : ∀ f ∈ fs, f.2.parts.length ≤ 1048576) (ht : t.parts.length ≤ 1048576) : Spec 63 [.one (.sl 5 (rF fs)), .ag (cT t)] [.ag (joinD (rF fs) (cT t))] := by
  have hc := copied_s t ht
  obtain ⟨op, nm, n, ks⟩ := t
  rw [cT] at hc ⊢
  refine join_s (rF fs) _ _ _ _ (by rw [rF, List.length_map]; omega) hc fun r hr => ?_
  rw [rF, List.mem_map] at hr
  obtain ⟨f, hf1, rfl⟩ := hr
  have hc2 := copied_s f.2 (hf f hf1)
  obtain ⟨nm, t⟩ := f
  obtain ⟨op, nm2, n, ks⟩ := t
  simp only at hc2 ⊢
  rw [cT] at hc2 ⊢
  exact ⟨_, _, _, _, _, rfl, hc2⟩
theorem join_pure (rs q : List R) (h : joinPF rs = some q) : Spec 63 rs q := by
  unfold joinPF at h
  split at h <;> try cases h
  rename_i sz rows tl
  split at h <;> try cases h
  rename_i fs k hfs
  split at h <;> try cases h
  rename_i t m hk ht
  split at h <;> try cases h
  rename_i hm
  obtain ⟨e1, e2, e3, e4⟩ := unFs_s _ _ _ hfs
  obtain ⟨a1, a2⟩ := (unTy_s 60).1 _ _ _ ht
  have hkk := Nat.le_of_ble_eq_true hk
  have hmm := Nat.le_of_ble_eq_true hm
  have hj := join_ty fs t (by omega) e3 (by omega)
  split at h
  · cases h
    refine hj.alike fun I w vs hv => ?_
    match vs, hv with
    | [v1, v2], hv =>
      refine ⟨?_, atR_ag a1 hv.2.1, trivial⟩
      have h1 : AtD I w v1 (.sl sz rows) := hv.1
      rw [List.eq_nil_of_length_eq_zero (l := rows) (by simpa using e1)] at h1
      show AtD I w v1 (.sl 5 (rF []))
      cases h1 with
      | nil A cap => exact .nil _ _ _
      | sl b off cap _ _ us hcap hI hrl hl2 hc hd => exact .nil _ _ _
  · split at h <;> try cases h
    rename_i hsz
    have hsz := natEq_eq hsz
    subst hsz
    refine hj.alike fun I w vs hv => ?_
    match vs, hv with
    | [v1, v2], hv => exact ⟨slice_alike (by rw [e1, rF, List.length_map]) e4 hv.1, atR_ag a1 hv.2.1, trivial⟩
end Go.Proofs.Ytclehkgnacekkaa.Vm
end

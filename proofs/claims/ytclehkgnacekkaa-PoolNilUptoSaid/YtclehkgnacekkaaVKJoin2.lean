/- kinds.Join: the whole. -/
import Derived.Test.YtclehkgnacekkaaVKJoin
set_option linter.unusedVariables false
set_option linter.unusedSimpArgs false
namespace Go.Proofs.Ytclehkgnacekkaa.Vm
open Go.RowKit
set_option maxRecDepth 100000
set_option maxHeartbeats 4000000
theorem join_xb : Try.f63.body = some (.seq (seqL (Try.f63.body.getD .skip)) (.seq (seqL (seqR (Try.f63.body.getD .skip))) (.seq (.seq (seqL (seqL (seqR (seqR (Try.f63.body.getD .skip))))) (.block 0 (.rangeFunc (.tmp 11) #[12, 13] (rangeA (seqR (seqL (seqR (seqR (Try.f63.body.getD .skip)))))) (rangeB (seqR (seqL (seqR (seqR (Try.f63.body.getD .skip))))))))) (seqR (seqR (seqR (Try.f63.body.getD .skip))))))) := by kernel_rfl
theorem join_xn : (Try.f63.name != "runtime.NumGoroutine") = true := by kernel_rfl
theorem join_x0 : okCode Try.prog (seqL (Try.f63.body.getD .skip)) = true := by kernel_rfl
theorem join_x1 : okCode Try.prog (seqL (seqR (Try.f63.body.getD .skip))) = true := by kernel_rfl
theorem join_xp : okCode Try.prog (seqL (seqL (seqR (seqR (Try.f63.body.getD .skip))))) = true := by kernel_rfl
theorem join_x2 : okCode Try.prog (seqR (seqR (seqR (Try.f63.body.getD .skip)))) = true := by kernel_rfl
theorem join_xr : okRes Try.f63.results.toList = true := by kernel_rfl
theorem join_xA : okCode Try.prog (rangeA (seqR (seqL (seqR (seqR (Try.f63.body.getD .skip)))))) = true := by kernel_rfl
theorem join_xB : okCode Try.prog (rangeB (seqR (seqL (seqR (seqR (Try.f63.body.getD .skip)))))) = true := by kernel_rfl
theorem pre_joinR (rows : List (List D)) (d0 d1 d2 d3 : D) (hcp : Spec 113 [.ag [d0, d1, d2, d3]] [.ag [d0, d1, d2, d3]]) (P : S → Prop) (hP : P ⟨jT rows d0 d1 d2 d3, jO d0 d1 d2 d3 [.d d0, .d d1, .d d2, .d d3] (.box [.d (.sl 5 rows)])⟩) :
    exec real (.seq (seqL (Try.f63.body.getD .skip)) (.seq (seqL (seqR (Try.f63.body.getD .skip))) (seqL (seqL (seqR (seqR (Try.f63.body.getD .skip))))))) (start [.one (.sl 5 rows), .ag [d0, d1, d2, d3]] (Try.f63.ntmps - lenL [R.one (.sl 5 rows), .ag [d0, d1, d2, d3]])) (fun x s => x = .normal ∧ P s) :=
  pre_join rows d0 d1 d2 d3 hcp P hP _ _ _ _ _ _ _ _ _ _ _ _ _ _ _ _ _ _ _ _ _ _ _ _ _ _ _ _ _ _ _ _ _ _ _ _ rfl
theorem join_s (rows : List (List D)) (d0 d1 d2 d3 : D) (hlen : rows.length * 80 ≤ 140737488351232) (htl : Spec 113 [.ag [d0, d1, d2, d3]] [.ag [d0, d1, d2, d3]]) (hrows : ∀ r ∈ rows, ∃ nm c0 c1 c2 c3, r = [nm, c0, c1, c2, c3] ∧ Spec 113 [.ag [c0, c1, c2, c3]] [.ag [c0, c1, c2, c3]]) :
    Spec 63 [.one (.sl 5 rows), .ag [d0, d1, d2, d3]] [.ag (joinD rows [d0, d1, d2, d3])] := by
  refine spec_range (Pre := fun s => s = ⟨jT rows d0 d1 d2 d3, jO d0 d1 d2 d3 [.d d0, .d d1, .d d2, .d d3] (.box [.d (.sl 5 rows)])⟩) Try.func63 join_xb join_xn join_x0 join_x1 join_xp ?_ ?_
  · exact pre_joinR rows d0 d1 d2 d3 htl _ rfl
  intro I I' g w W s a hs h
  subst hs
  obtain ⟨b, us, ty, h1, h2, h3, h4⟩ := h.frzBox (k := 4) rfl
  obtain ⟨v, us', rfl, hv, hn⟩ := h3.uncons
  obtain rfl := hn.unnil
  have hvD : AtD I' W v (.sl 5 rows) := by cases hv with | d h => exact h
  have hBs : W.cell? ⟨b, 0, none⟩ = some v := cells_cell h2
  have hbl : b < W.heap.size := (Array.getElem?_eq_some_iff.1 h2).1
  obtain ⟨bb, off, vs, hl, hup, hds, hr5, hseq⟩ := backF_seq (fun b k hb => (h.lt b k hb).1) hvD hbl hBs hlen
  have hcl : a.eval (.tmp 11) = .func (.func 137) #[] #[.pointer (some ⟨b, 0, none⟩)] := by
    have h5 := h4.get (.tmp 11)
    have h5 : AtV _ W g (a.eval (.tmp 11)) (.cl 137 [4]) := h5
    generalize a.eval (.tmp 11) = ax at h5 ⊢
    cases h5 with
    | cl f us ks hl hh =>
      match us, hl with
      | [u], _ => rw [(hh 0 u 4 rfl rfl).1, h1]
  have hst0 : RelI I (fun _ => False) ⟨w, fun _ => .nilFunc, 0, []⟩ (fun b' n => I' b' n ∨ (b' = b ∧ n ≤ 1)) g ⟨jT rows d0 d1 d2 d3, jO d0 d1 d2 d3 (ofD (accD rows [d0, d1, d2, d3] 0)) .dead⟩ a W := by
    have e : accD rows [d0, d1, d2, d3] 0 = [d0, d1, d2, d3] := by rw [accD, List.drop_eq_nil_of_le (by omega)]; rfl
    rw [e]
    exact h4
  refine range_ok (t := jT rows d0 d1 d2 d3) (p1 := 12) (p2 := 13) (gf := 137) (N := rows.length) (lb := #[.pointer (some ⟨b, 0, none⟩)])
    (u1 := fun k => .int .i64 ((rows.length - 1 - k : Nat) : Int)) (u2 := fun k => .agg (((vs.drop ((rows.length - 1 - k) * 5)).take 5).toArray)) (Kp := KpB b bb off (rows.length * 5)) (st := fun k => jO d0 d1 d2 d3 (ofD (accD rows [d0, d1, d2, d3] k)) .dead)
    (tk := fun k => setN (setN (jT rows d0 d1 d2 d3) 12 (vi .i64 ((rows.length - 1 - k : Nat) : Int))) 13 (.ag (ofD (rows.getD (rows.length - 1 - k) []))))
    join_xA join_xB hst0 (by decide) hcl (enters_of Try.func137 (by kernel_rfl) rfl) (hseq (FW none) 2 trivial rfl (by decide)) KpB.trans (fun W l o o' _ hl ho _ => KpB.turn W l o o' hl ho) ?_ ?_ ?_ ?_
  · intro W1 W2 hk
    refine ⟨fun v hv => ?_, fun i hi v hv => ?_⟩
    · rw [hk b 1 (.inr ⟨rfl, Nat.le_refl _⟩) 0 (by decide)]
      exact hv
    · obtain ⟨n, hn1, hn2⟩ := hup (fun e => by rw [e] at hi; simp at hi)
      rw [hk bb n (.inl hn2) (off + i) (by omega)]
      exact hv
  · intro k W1 I1 g1 hk hI1 hk1 hvs
    have hlt : rows.length - 1 - k < rows.length := by omega
    have e1 : ∀ (ts : Array Value) (i : Nat) (u : Value), (ts.setIfInBounds i u).toList = ts.toList.set i u := fun ts i u => by simp
    rw [e1, e1, setN_is, setN_is]
    refine (hvs.set (.d (.sc _ rfl)) 12).set (atV_ag ?_) 13
    refine AtDs.toV g1 ?_
    have h5 := (hds.drop ((rows.length - 1 - k) * 5)).take 5
    have e2 : (rows.flatten.drop ((rows.length - 1 - k) * 5)).take 5 = rows.getD (rows.length - 1 - k) [] := by
      have hg : rows[rows.length - 1 - k]? = some (rows.getD (rows.length - 1 - k) []) := by rw [List.getD_eq_getElem?_getD, List.getElem?_eq_getElem hlt]; rfl
      apply List.ext_getElem?
      intro i
      rw [List.getElem?_take]
      have h6 : (rows.getD (rows.length - 1 - k) []).length = 5 := hr5 _ (List.mem_of_getElem? hg)
      split
      · rename_i hi
        rw [List.getElem?_drop, flat_get hr5 hg hi]
      · rename_i hi
        rw [List.getElem?_eq_none (by omega)]
    rw [e2] at h5
    exact h5.mono (fun b j hb => hI1 b j (.inl hb)) (fun b j hb => hk1 b j (.inl hb))
  · intro k hk
    have hlt : rows.length - 1 - k < rows.length := by omega
    have hg : rows[rows.length - 1 - k]? = some (rows.getD (rows.length - 1 - k) []) := by rw [List.getD_eq_getElem?_getD, List.getElem?_eq_getElem hlt]; rfl
    have ea := accD_succ (tl := [d0, d1, d2, d3]) hk hg
    obtain ⟨nm, c0, c1, c2, c3, er, hsp⟩ := hrows _ (List.mem_of_getElem? hg)
    obtain ⟨a0, a1, a2, a3, e4⟩ := joinD_four (rows.drop (rows.length - k)) d0 d1 d2 d3
    have e5 : accD rows [d0, d1, d2, d3] k = [a0, a1, a2, a3] := e4
    have e6 : accD rows [d0, d1, d2, d3] (k + 1) = [.sc (.int .u8 11), nm, .sc (.int .i64 0), .sl 4 [[c0, c1, c2, c3], [a0, a1, a2, a3]]] := by rw [ea, er]; show [_, _, _, D.sl 4 [_, joinD _ _]] = _; rw [e4]; rfl
    try dsimp only
    rw [e5, e6, er]
    exact round_join rows d0 d1 d2 d3 a0 a1 a2 a3 nm c0 c1 c2 c3 _ hsp _ _ _ _ _ _ _ _ _ _ _ _ _ _ _ _ _ _ _ _ _ _ _ _ _ _ _ _ _ _ _ _ _ _ _ _ rfl
  · rintro D W1 hD ⟨I1, g1, q1, q2, q3, q4⟩ hd
    obtain ⟨a0, a1, a2, a3, e4⟩ := joinD_four rows d0 d1 d2 d3
    have e5 : accD rows [d0, d1, d2, d3] rows.length = [a0, a1, a2, a3] := by rw [accD, Nat.sub_self]; exact e4
    rw [e4]
    try dsimp only at q3
    rw [e5] at q3
    have hID : ∀ k, ¬ I1 D k := fun k => by rw [hD]; exact (q2 k).2
    have hD0 : w.heap.size ≤ D := by rw [hD]; exact h.fr.size
    refine ends_spec join_x2 join_xr q3 hID hD0 hd ?_
    exact end_join rows d0 d1 d2 d3 a0 a1 a2 a3 _ _ _ _ _ _ _ _ _ _ _ _ _ _ _ _ _ _ _ _ _ _ _ _ _ _ _ _ _ _ _ _ _ _ _ _ rfl
end Go.Proofs.Ytclehkgnacekkaa.Vm

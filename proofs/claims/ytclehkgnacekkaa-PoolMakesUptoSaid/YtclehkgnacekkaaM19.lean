/- Part 19 of the proof: VAlike. Conditions: none. -/
import Derived.Test.YtclehkgnacekkaaM3
import Derived.IntWalk
set_option linter.all false
set_option linter.unusedVariables false
set_option linter.unusedSimpArgs false
section
namespace Go.Proofs.Ytclehkgnacekkaa.Vm
open Go.RowKit
set_option maxRecDepth 100000
set_option maxHeartbeats 4000000
theorem alikes_len : ∀ {a b : List Ty}, a.length ≠ b.length → alikesB a b = false
  | a, b, h => by
    cases hh : alikesB a b
    · rfl
    · rw [alikes_iff] at hh
      exact absurd (by rw [hh]) h
theorem alikes_step {a b : List Ty} {k : Nat} {x y : Ty} (hx : a[k]? = some x) (hy : b[k]? = some y) : alikesB (a.drop k) (b.drop k) = (alikeB x y && alikesB (a.drop (k + 1)) (b.drop (k + 1))) := by
  obtain ⟨h1, e1⟩ := List.getElem?_eq_some_iff.1 hx
  obtain ⟨h2, e2⟩ := List.getElem?_eq_some_iff.1 hy
  rw [List.drop_eq_getElem_cons h1, List.drop_eq_getElem_cons h2, e1, e2, alikesB]
theorem Alike_s : ∀ t u : Ty, t.parts.length ≤ 1048576 → Spec 17 [.ag (cT t), .ag (cT u)] [.one (.sc (.bool (alikeB t u)))] := by
  intro t
  induction t using Ty.ind with
  | h t ih =>
    intro u hN
    have hkl := kids_le t
    obtain ⟨op, nm, n, ks⟩ := t
    obtain ⟨op2, nm2, n2, ks2⟩ := u
    simp only [Ty.kids] at hkl ih
    have hm : ks.length ≤ 1048576 := by omega
    rw [cT, cT]
    generalize hb : alikeB (.mk op nm n ks) (.mk op2 nm2 n2 ks2) = b
    obtain ⟨K, hK⟩ : ∃ K, K = rT ks := ⟨_, rfl⟩
    obtain ⟨K2, hK2⟩ : ∃ K, K = rT ks2 := ⟨_, rfl⟩
    rw [← hK, ← hK2]
    refine spec_of Try.func17 rfl (by kernel_rfl) (by kernel_rfl) (by kernel_rfl) fun qa qb qc qd qe qf qg qh qi qj qk ql qm qo qp qs qt qu qv qx qy qz va vc vd ve vf vg vh vj vk vl vm vn vo vp vq vr vt hA => ?_
    cbv
    repeat ((with_reducible apply next_at hA); cbv)
    obtain ⟨e1, e2, e3, e4, e5, e6, e7, e8, e9⟩ := ar_at hA
    obtain ⟨s1, s2, s3, -⟩ := str_at hA
    obtain ⟨r1, r2, -⟩ := row_at hA
    rw [alikeB] at hb
    cases h1 : qj op op2
    · cbv
      repeat ((with_reducible apply next_at hA); cbv)
      rw [e9] at h1
      rw [← hb, h1]
      exact ⟨rfl, trivial⟩
    cbv
    cases h2 : ql (qo nm) (qo nm2)
    · cbv
      repeat ((with_reducible apply next_at hA); cbv)
      rw [s1, s3, s3] at h2
      rw [← hb, h2]
      simp
    cbv
    cases h3 : qj n n2
    · cbv
      repeat ((with_reducible apply next_at hA); cbv)
      rw [e9] at h3
      rw [← hb, h3]
      simp
    cbv
    cases h4 : qj (qy K) (qy K2)
    · cbv
      repeat ((with_reducible apply next_at hA); cbv)
      have h5 : ks.length ≠ ks2.length := by
        rw [e9, r1, r1, hK, hK2, rT_len, rT_len] at h4
        intro h
        rw [h] at h4
        simp at h4
      rw [← hb, alikes_len h5]
      simp
    cbv
    repeat ((with_reducible apply next_at hA); cbv)
    have h5 : ks.length = ks2.length := by
      rw [e9, r1, r1, hK, hK2, rT_len, rT_len] at h4
      rw [beq_iff_eq] at h4
      exact Int.ofNat.inj h4
    refine loop_at hA (γ := Int) (fun z => [(5, vi .i64 z)]) (fun _ => []) (fun z => ∃ k : Nat, z = (k : Int) ∧ k ≤ ks.length ∧ alikesB (ks.drop k) (ks2.drop k) = b) (fun z => ks.length - z.toNat) 0 ?_ ?_ ?_
    · exact ⟨0, rfl, Nat.zero_le _, by rw [← hb, (by rw [← e9]; exact h1 : (op == op2) = true), (by rw [← s1, ← s3, ← s3]; exact h2 : (nm.toList == nm2.toList) = true), (by rw [← e9]; exact h3 : (n == n2) = true)]; rfl⟩
    · cbv
    · intro z hinv
      cbv
      repeat ((with_reducible apply next_at hA); cbv)
      obtain ⟨k, hz, hk, hE⟩ := hinv
      have hz : z = (k : Int) := hz
      have hlen : qy K = (ks.length : Int) := by rw [r1, hK, rT_len]
      have hlt : qh z (qy K) = decide (k < ks.length) := by rw [e7, hlen, hz]; exact decide_eq_decide.2 (by omega)
      by_cases h9 : k < ks.length
      · rw [decide_eq_true h9] at hlt
        obtain ⟨x, hx⟩ : ∃ x, ks[k]? = some x := ⟨_, List.getElem?_eq_getElem h9⟩
        obtain ⟨y, hy⟩ : ∃ y, ks2[k]? = some y := ⟨_, List.getElem?_eq_getElem (by omega)⟩
        have g1 : qz K z = some (cT x) := by rw [r2, hz, if_pos (by omega), hK]; exact rT_get hx
        have g2 : qz K2 z = some (cT y) := by rw [r2, hz, if_pos (by omega), hK2]; exact rT_get hy
        have hsp := ih x (List.mem_of_getElem? hx) y (by have := hkl.2 x (List.mem_of_getElem? hx); omega)
        have hst := alikes_step hx hy
        obtain ⟨o1, m1, n1, l1⟩ := x
        obtain ⟨o2, m2, n2', l2⟩ := y
        rw [cT] at g1 g2 hsp
        rw [cT] at hsp
        generalize rT l1 = L1 at *
        generalize rT l2 = L2 at *
        generalize alikeB (.mk o1 m1 n1 l1) (.mk o2 m2 n2' l2) = c at *
        rw [hlt]
        cbv
        repeat ((with_reducible apply next_at hA); cbv)
        rw [g1]
        cbv
        rw [g2]
        cbv
        refine calm_at hA _ hsp ?_
        cases c
        · cbv
          repeat ((with_reducible apply next_at hA); cbv)
          rw [← hE, hst]
          exact ⟨rfl, trivial⟩
        · cbv
          repeat ((with_reducible apply next_at hA); cbv)
          replace hz : z = (k : Int) := hz
          have hz1 : qa .i64 (qb z 1) = ((k + 1 : Nat) : Int) := by rw [e1, e2, hz, IntWalk.i64_in _ (by omega)]; omega
          refine ⟨qa .i64 (qb z 1), ⟨k + 1, hz1, h9, by rw [← hE, hst]; rfl⟩, by rw [hz1, hz]; omega, ?_⟩
          cbv
      · rw [decide_eq_false h9] at hlt
        rw [hlt]
        cbv
        repeat ((with_reducible apply next_at hA); cbv)
        rw [← hE, List.drop_eq_nil_of_le (by omega), List.drop_eq_nil_of_le (by omega), alikesB]
        exact ⟨rfl, trivial⟩
end Go.Proofs.Ytclehkgnacekkaa.Vm
end

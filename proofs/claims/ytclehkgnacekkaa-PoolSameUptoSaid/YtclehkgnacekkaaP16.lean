/- Part 16 of the proof: VPo10. Conditions: none. -/
import Derived.Test.YtclehkgnacekkaaP3
import Derived.Test.YtclehkgnacekkaaP14
set_option linter.all false
set_option linter.unusedVariables false
set_option linter.unusedSimpArgs false
section
namespace Go.Proofs.Ytclehkgnacekkaa.Vm
open Go.RowKit
set_option maxRecDepth 100000
set_option maxHeartbeats 4000000
theorem isvar9_s (x : Ty) : Spec 58 [.ag (cT x)] [.one (.sc (.bool (isVar x)))] := by
  unfold isVar
  obtain ⟨op, nm, n, ks⟩ := x
  rw [cT]
  simp only [Ty.op]
  generalize rT ks = L
  generalize h1 : (op == 7) = b1
  generalize h2 : (op == 10) = b2
  refine spec_of Try.func58 rfl (by kernel_rfl) (by kernel_rfl) (by kernel_rfl) fun qa qb qc qd qe qf qg qh qi qj qk ql qm qo qp qs qt qu qv qx qy qz va vc vd ve vf vg vh vj vk vl vm vn vo vp vq vr vt hA => ?_
  obtain ⟨e1, e2, e3, e4, e5, e6, e7, e8, e9⟩ := ar_at hA
  have q1 : qj op 7 = b1 := by rw [e9, ← h1]
  have q2 : qj op 10 = b2 := by rw [e9, ← h2]
  cases b1 <;> cases b2
  all_goals
    cbv
    repeat (first | (with_reducible apply next_at hA; cbv) | (rw [q1]; cbv) | (rw [q2]; cbv))
    try cbv
    repeat (first | (with_reducible apply next_at hA; cbv) | (rw [q1]; cbv) | (rw [q2]; cbv))
    try simp (maxSteps := 4000000) only [nc] at *
end Go.Proofs.Ytclehkgnacekkaa.Vm
end

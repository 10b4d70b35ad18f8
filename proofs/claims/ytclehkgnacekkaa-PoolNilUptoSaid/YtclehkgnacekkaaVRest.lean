/- The rest of a function, run by the kernel behind a walk by hand. -/
import Derived.Test.YtclehkgnacekkaaVConc
set_option linter.unusedVariables false
set_option linter.unusedSimpArgs false
namespace Go.Proofs.Ytclehkgnacekkaa.Vm
open Go.RowKit
theorem conc_rest {T : Tab} {hint : Nat → Bool} {n : Nat} {c : Code} {s : S} {l : List ResultVar} {q : List R}
    (hx : exec (conc T hint n) c s (fun x s => retC (conc T hint n) l (fun q' => match listEq resEq q' q with | true => True | false => False) x s)) : exec real c s (fun x s => retK real l q x s) := by
  have ih := conc_ok T hint n
  obtain ⟨⟨x, s'⟩, h1, h2⟩ := ih.rExecp c s (fun p => retC (conc T hint n) l (fun q' => match listEq resEq q' q with | true => True | false => False) p.1 p.2) hx
  obtain ⟨q', h3, h4, h5⟩ := retC_res ih h1
  split at h3
  · rename_i he
    have e := listEq_eq (fun _ _ => resEq_eq) he
    subst e
    exact ih.rExec _ _ _ _ (h2 (fun p => p = (x, s')) rfl) fun x2 s2 he => by
      obtain ⟨e1, e2⟩ := Prod.mk.inj he
      subst e1; subst e2
      exact h5
  · exact h3.elim
theorem conc_restall {α : Type} {T : Tab} {hint : Nat → Bool} {n : Nat} {c : Code} {s : α → S} {l : List ResultVar} {q : List R}
    (h : (fun a => exec (conc T hint n) c (s a) (fun x s => retC (conc T hint n) l (fun q' => match listEq resEq q' q with | true => True | false => False) x s)) = fun _ => True) (a : α) : exec real c (s a) (fun x s => retK real l q x s) :=
  conc_rest ((congrFun h a).mpr trivial)
end Go.Proofs.Ytclehkgnacekkaa.Vm

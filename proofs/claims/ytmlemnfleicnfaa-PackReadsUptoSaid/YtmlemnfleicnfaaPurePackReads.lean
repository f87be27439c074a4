/- What is left of the law PackReads: the bound that the walk asks. -/
import Derived.Test.YtmlemnfleicnfaaStmtPackReads
namespace Go.Proofs.Ytmlemnfleicnfaa.Pure
open Go.RowKit Go.Proofs.Ytmlemnfleicnfaa.PA
set_option linter.unusedVariables false in
theorem PackReads : colloquylaw08_PackReads.PureU := by
  intro x0 x1 g0 g1 hs
  have e : ∀ l : List Int, (l.map (fun _ => 1)).sum = l.length := fun l => by induction l with | nil => rfl | cons a l ih => simp only [List.map_cons, List.sum_cons, List.length_cons, ih]; omega
  rw [e, e] at hs
  refine ⟨0, if_pos ⟨fun x hx => ?_, by omega, by omega⟩⟩
  have h := g0.2 x hx
  simp only [Lit.wf, Bool.and_eq_true, decide_eq_true_eq] at h
  have h1 : IntKind.u8.min = 0 := rfl
  have h2 : IntKind.u8.max = 255 := rfl
  omega
end Go.Proofs.Ytmlemnfleicnfaa.Pure

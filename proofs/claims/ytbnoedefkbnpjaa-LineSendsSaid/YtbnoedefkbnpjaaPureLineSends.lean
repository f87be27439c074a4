/- What is left of the law LineSends: the bound that the walk asks. -/
import Derived.Test.YtbnoedefkbnpjaaStmtLineSends
namespace Go.Proofs.Ytbnoedefkbnpjaa.Pure
open Go.RowKit Go.Proofs.Ytbnoedefkbnpjaa.PA
set_option linter.unusedVariables false in
theorem LineSends : colloquylaw10_LineSends.PureU := fun x0 x1 _ g1 s _ => by
  have h : ((_ ∧ _) ∧ _) := s
  refine ⟨0, if_pos ⟨?_, fun x hx => ?_, g1.1⟩⟩
  · have h1 := h.1.1
    unfold reachBytes at h1
    omega
  · have h2 : _ ∧ _ ∧ _ := h.1.2 x hx
    have h3 := h2.2.1
    unfold reachBytes at h3
    omega
end Go.Proofs.Ytbnoedefkbnpjaa.Pure

/- What is left of the law BufPlays: the bound that the walk asks. -/
import Derived.Test.YtbnoedefkbnpjaaStmtBufPlays
namespace Go.Proofs.Ytbnoedefkbnpjaa.Pure
open Go.RowKit Go.Proofs.Ytbnoedefkbnpjaa.PA
set_option linter.unusedVariables false in
theorem BufPlays : colloquylaw11_BufPlays.PureU := fun x0 x1 _ g s => ⟨0, if_pos ⟨g.1, fun x hx => by have h : _ ∧ _ ∧ _ ∧ _ := s.2 x hx; have h2 := h.2.2.1; unfold reachBytes at h2; omega⟩⟩
end Go.Proofs.Ytbnoedefkbnpjaa.Pure

/- What is left of the law PackNeeds: the bound that the walk asks. -/
import Derived.Test.YtmlemnfleicnfaaStmtPackNeeds
namespace Go.Proofs.Ytmlemnfleicnfaa.Pure
open Go.RowKit Go.Proofs.Ytmlemnfleicnfaa.PA
set_option linter.unusedVariables false in
theorem PackNeeds : colloquylaw08_PackNeeds.PureU := fun x0 x1 x2 g _ _ => ⟨0, if_pos trivial⟩
end Go.Proofs.Ytmlemnfleicnfaa.Pure

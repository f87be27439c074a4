/- What is left of the law VfsSteps: the bound that the walk asks. -/
import Derived.Test.YtkdahjnmldeklaaStmtVfsSteps
namespace Go.Proofs.Ytkdahjnmldeklaa.Pure
open Go.RowKit Go.Proofs.Ytkdahjnmldeklaa.PA
set_option linter.unusedVariables false in
theorem VfsSteps : colloquylaw07_VfsSteps.PureU := fun x0 x1 g0 g1 s => ⟨0, if_pos trivial⟩
end Go.Proofs.Ytkdahjnmldeklaa.Pure

/- What is left of the law BufTakes: the bound that the walk asks. -/
import Derived.Test.YtbnoedefkbnpjaaStmtBufTakes
namespace Go.Proofs.Ytbnoedefkbnpjaa.Pure
open Go.RowKit Go.Proofs.Ytbnoedefkbnpjaa.PA
set_option linter.unusedVariables false in
theorem BufTakes : colloquylaw11_BufTakes.PureU := fun x0 x1 x2 _ _ h => ⟨0, if_pos h.1⟩
end Go.Proofs.Ytbnoedefkbnpjaa.Pure

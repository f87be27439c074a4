/- What is left of the law BufParts: the bound that the walk asks. -/
import Derived.Test.YtbnoedefkbnpjaaStmtBufParts
namespace Go.Proofs.Ytbnoedefkbnpjaa.Pure
open Go.RowKit Go.Proofs.Ytbnoedefkbnpjaa.PA
set_option linter.unusedVariables false in
theorem BufParts : colloquylaw11_BufParts.PureU := fun x0 x1 x2 _ h _ => ⟨0, if_pos h.1⟩
end Go.Proofs.Ytbnoedefkbnpjaa.Pure

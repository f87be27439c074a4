/- What is left of the law VfsKeeps: the bound that the walk asks. -/
import Derived.Test.YtkdahjnmldeklaaStmtVfsKeeps
namespace Go.Proofs.Ytkdahjnmldeklaa.Pure
open Go.RowKit Go.Proofs.Ytkdahjnmldeklaa.PA
set_option linter.unusedVariables false in
theorem VfsKeeps : colloquylaw07_VfsKeeps.PureU := fun x0 x1 x2 x3 g0 g1 g2 g3 s => ⟨0, if_pos g0.1⟩
end Go.Proofs.Ytkdahjnmldeklaa.Pure

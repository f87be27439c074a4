/- What is left to prove of the law BufParts: a statement over numbers and lists alone. -/

import Derived.Test.YtbnoedefkbnpjaaGBufParts
import Derived.Test.YtbnoedefkbnpjaaHOpen
namespace Go.Proofs.Ytbnoedefkbnpjaa.PA
open Go.RowKit Go.Proofs.YtbnoedefkbnpjaaW.PrintWords Go.Proofs.YtbnoedefkbnpjaaW.PrintLast Go.Proofs.YtbnoedefkbnpjaaW.PrintMore
set_option linter.unusedVariables false

def colloquylaw11_BufParts.PureU : Prop := ∀ (x0 : Int) (x1 : List (List (Int))) (x2 : Int), (Lit.int .i64 (x0)).wf = true → ((x1).length ≤ maxLen ∧ ∀ x ∈ x1, ((x).length ≤ maxLen ∧ ∀ y ∈ x, (Lit.int .u8 (y)).wf = true)) → (Lit.int .i64 (x2)).wf = true → ∃ _ : Nat, colloquylaw11_BufParts.f (x0) (x1) (x2) = some true
end Go.Proofs.Ytbnoedefkbnpjaa.PA

/- What is left to prove of the law BufTakes: a statement over numbers and lists alone. -/

import Derived.Test.YtbnoedefkbnpjaaGBufTakes
import Derived.Test.YtbnoedefkbnpjaaHOpen
namespace Go.Proofs.Ytbnoedefkbnpjaa.PA
open Go.RowKit Go.Proofs.YtbnoedefkbnpjaaW.PrintWords Go.Proofs.YtbnoedefkbnpjaaW.PrintLast Go.Proofs.YtbnoedefkbnpjaaW.PrintMore
set_option linter.unusedVariables false

def colloquylaw11_BufTakes.PureU : Prop := ∀ (x0 : Int) (x1 : List (Int)) (x2 : List (Int)), (Lit.int .i64 (x0)).wf = true → ((x1).length ≤ maxLen ∧ ∀ x ∈ x1, (Lit.int .u8 (x)).wf = true) → ((x2).length ≤ maxLen ∧ ∀ x ∈ x2, (Lit.int .i64 (x)).wf = true) → ∃ _ : Nat, colloquylaw11_BufTakes.f (x0) (x1) (x2) = some true
end Go.Proofs.Ytbnoedefkbnpjaa.PA

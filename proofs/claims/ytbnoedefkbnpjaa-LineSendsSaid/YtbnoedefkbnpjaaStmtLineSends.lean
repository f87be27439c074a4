/- What is left to prove of the law LineSends: a statement over numbers and lists alone. -/

import Derived.Test.YtbnoedefkbnpjaaGLineSends
import Derived.Test.YtbnoedefkbnpjaaHOpen
import Derived.Test.YtbnoedefkbnpjaaTy48
import Derived.Test.YtbnoedefkbnpjaaTy52
namespace Go.Proofs.Ytbnoedefkbnpjaa.PA
open Go.RowKit Go.Proofs.YtbnoedefkbnpjaaW.PrintWords Go.Proofs.YtbnoedefkbnpjaaW.PrintLast Go.Proofs.YtbnoedefkbnpjaaW.PrintMore
set_option linter.unusedVariables false

def colloquylaw10_LineSends.PureU : Prop := ∀ (x0 : S48) (x1 : List (List (Int))), good48 (x0) → ((x1).length ≤ maxLen ∧ ∀ y ∈ x1, ((y).length ≤ maxLen ∧ ∀ z ∈ y, (Lit.int .u8 (z)).wf = true)) → sz48 (x0) → ((x1).length * 24 ≤ reachBytes ∧ ∀ y ∈ x1, ((y).length * 1 ≤ reachBytes ∧ ∀ z ∈ y, True)) → ∃ _ : Nat, colloquylaw10_LineSends.f (x0.f0) (x0.f1) (x0.f2) (x1) = some true
end Go.Proofs.Ytbnoedefkbnpjaa.PA

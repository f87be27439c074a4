/- What is left to prove of the law BufPlays: a statement over numbers and lists alone. -/

import Derived.Test.YtbnoedefkbnpjaaGBufPlays
import Derived.Test.YtbnoedefkbnpjaaHOpen
import Derived.Test.YtbnoedefkbnpjaaTy31
namespace Go.Proofs.Ytbnoedefkbnpjaa.PA
open Go.RowKit Go.Proofs.YtbnoedefkbnpjaaW.PrintWords Go.Proofs.YtbnoedefkbnpjaaW.PrintLast Go.Proofs.YtbnoedefkbnpjaaW.PrintMore
set_option linter.unusedVariables false

def colloquylaw11_BufPlays.PureU : Prop := ∀ (x0 : Int) (x1 : List (S31)), (Lit.int .i64 (x0)).wf = true → ((x1).length ≤ maxLen ∧ ∀ y ∈ x1, good31 (y)) → ((x1).length * 40 ≤ reachBytes ∧ ∀ y ∈ x1, sz31 (y)) → ∃ _ : Nat, colloquylaw11_BufPlays.f (x0) (x1) = some true
end Go.Proofs.Ytbnoedefkbnpjaa.PA

/- What is left to prove of the law LineTime: a statement over numbers and lists alone. -/

import Derived.Test.YtbnoedefkbnpjaaGLineTime
import Derived.Test.YtbnoedefkbnpjaaHOpen
import Derived.Test.YtbnoedefkbnpjaaTy48
import Derived.Test.YtbnoedefkbnpjaaTy52
namespace Go.Proofs.Ytbnoedefkbnpjaa.PA
open Go.RowKit Go.Proofs.YtbnoedefkbnpjaaW.PrintWords Go.Proofs.YtbnoedefkbnpjaaW.PrintLast Go.Proofs.YtbnoedefkbnpjaaW.PrintMore
set_option linter.unusedVariables false

def colloquylaw10_LineTime.PureU : Prop := ∀ (x0 : S48) (x1 : List (Int)), good48 (x0) → ((x1).length ≤ maxLen ∧ ∀ y ∈ x1, (Lit.int .i64 (y)).wf = true) → wt48 (x0) + (((x1).map (fun _ => 1)).sum + 1) ≤ 1048576 → ∃ _ : Nat, colloquylaw10_LineTime.f (x0.f0) (x0.f1) (x0.f2) (x1) = some true
end Go.Proofs.Ytbnoedefkbnpjaa.PA

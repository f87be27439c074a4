/- What is left to prove of the law LineAll: a statement over numbers and lists alone. -/

import Derived.Test.YtbnoedefkbnpjaaGLineAll
import Derived.Test.YtbnoedefkbnpjaaHOpen
import Derived.Test.YtbnoedefkbnpjaaTy48
import Derived.Test.YtbnoedefkbnpjaaTy52
namespace Go.Proofs.Ytbnoedefkbnpjaa.PA
open Go.RowKit Go.Proofs.YtbnoedefkbnpjaaW.PrintWords Go.Proofs.YtbnoedefkbnpjaaW.PrintLast Go.Proofs.YtbnoedefkbnpjaaW.PrintMore
set_option linter.unusedVariables false

def colloquylaw10_LineAll.PureU : Prop := ∀ (x0 : S48), good48 (x0) → sz48 (x0) → ∃ _ : Nat, colloquylaw10_LineAll.f (x0.f0) (x0.f1) (x0.f2) = some true
end Go.Proofs.Ytbnoedefkbnpjaa.PA

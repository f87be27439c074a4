/- What is left to prove of the law TraceVerdicts: a statement over numbers and lists alone. -/

import Derived.Test.YtmlemnfleicnfaaHOpen
import Derived.Test.YtmlemnfleicnfaaPAx51
import Derived.Test.YtmlemnfleicnfaaTy70
namespace Go.Proofs.Ytmlemnfleicnfaa.PA
open Go.RowKit Go.Proofs.YtmlemnfleicnfaaW.PrintWords Go.Proofs.YtmlemnfleicnfaaW.PrintLast Go.Proofs.YtmlemnfleicnfaaW.PrintMore
set_option linter.unusedVariables false

def colloquylaw18_TraceVerdicts.PureU : Prop := ∀ (x0 : Int) (x1 : List (S70)) (x2 : Bool), (Lit.int .i64 (x0)).wf = true → ((x1).length ≤ maxLen ∧ ∀ x ∈ x1, good70 (x)) → ∃ k, colloquylaw18_TraceVerdicts.f k (x0) (x1) (x2) = some true
end Go.Proofs.Ytmlemnfleicnfaa.PA

/- What is left to prove of the law TraceFirst: a statement over numbers and lists alone. -/

import Derived.Test.YtmlemnfleicnfaaHOpen
import Derived.Test.YtmlemnfleicnfaaPAx54
import Derived.Test.YtmlemnfleicnfaaTy70
namespace Go.Proofs.Ytmlemnfleicnfaa.PA
open Go.RowKit Go.Proofs.YtmlemnfleicnfaaW.PrintWords Go.Proofs.YtmlemnfleicnfaaW.PrintLast Go.Proofs.YtmlemnfleicnfaaW.PrintMore
set_option linter.unusedVariables false

def colloquylaw18_TraceFirst.PureU : Prop := ∀ (x0 : List (S70)) (x1 : List (S70)) (x2 : Bool), ((x0).length ≤ maxLen ∧ ∀ x ∈ x0, good70 (x)) → ((x1).length ≤ maxLen ∧ ∀ x ∈ x1, good70 (x)) → (((x0).map (fun x => wt70 (x))).sum + 1) + (((x1).map (fun x => wt70 (x))).sum + 1) ≤ 1048576 → ∃ k, colloquylaw18_TraceFirst.f k (x0) (x1) (x2) = some true
end Go.Proofs.Ytmlemnfleicnfaa.PA

/- What is left to prove of the law TraceRight: a statement over numbers and lists alone. -/

import Derived.Test.YtmlemnfleicnfaaGTraceRight
import Derived.Test.YtmlemnfleicnfaaHOpen
import Derived.Test.YtmlemnfleicnfaaTy70
namespace Go.Proofs.Ytmlemnfleicnfaa.PA
open Go.RowKit Go.Proofs.YtmlemnfleicnfaaW.PrintWords Go.Proofs.YtmlemnfleicnfaaW.PrintLast Go.Proofs.YtmlemnfleicnfaaW.PrintMore
set_option linter.unusedVariables false

def colloquylaw18_TraceRight.PureU : Prop := ∀ (x0 : List (S70)), ((x0).length ≤ maxLen ∧ ∀ y ∈ x0, good70 (y)) → ((x0).length * 40 ≤ reachBytes ∧ ∀ y ∈ x0, sz70 (y)) → ∃ _ : Nat, colloquylaw18_TraceRight.f (x0) = some true
end Go.Proofs.Ytmlemnfleicnfaa.PA

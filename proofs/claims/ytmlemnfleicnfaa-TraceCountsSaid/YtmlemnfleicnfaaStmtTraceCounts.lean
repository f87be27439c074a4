/- What is left to prove of the law TraceCounts: a statement over numbers and lists alone. -/

import Derived.Test.YtmlemnfleicnfaaGTraceCounts
import Derived.Test.YtmlemnfleicnfaaHOpen
import Derived.Test.YtmlemnfleicnfaaTy61
namespace Go.Proofs.Ytmlemnfleicnfaa.PA
open Go.RowKit Go.Proofs.YtmlemnfleicnfaaW.PrintWords Go.Proofs.YtmlemnfleicnfaaW.PrintLast Go.Proofs.YtmlemnfleicnfaaW.PrintMore
set_option linter.unusedVariables false

def colloquylaw18_TraceCounts.PureU : Prop := ∀ (x0 : List (S61)), ((x0).length ≤ maxLen ∧ ∀ y ∈ x0, good61 (y)) → ((x0).length * 24 ≤ reachBytes ∧ ∀ y ∈ x0, sz61 (y)) → ∃ _ : Nat, colloquylaw18_TraceCounts.f (x0) = some true
end Go.Proofs.Ytmlemnfleicnfaa.PA

/- What is left to prove of the law PackNeeds: a statement over numbers and lists alone. -/

import Derived.Test.YtmlemnfleicnfaaGPackNeeds
import Derived.Test.YtmlemnfleicnfaaHOpen
namespace Go.Proofs.Ytmlemnfleicnfaa.PA
open Go.RowKit Go.Proofs.YtmlemnfleicnfaaW.PrintWords Go.Proofs.YtmlemnfleicnfaaW.PrintLast Go.Proofs.YtmlemnfleicnfaaW.PrintMore
set_option linter.unusedVariables false

def colloquylaw08_PackNeeds.PureU : Prop := ∀ (x0 : List (Int)) (x1 : Int) (x2 : Bool), ((x0).length ≤ maxLen ∧ ∀ y ∈ x0, (Lit.int .u8 (y)).wf = true) → (Lit.int .i64 (x1)).wf = true → ((x0).length * 1 ≤ reachBytes ∧ ∀ y ∈ x0, True) → ∃ _ : Nat, colloquylaw08_PackNeeds.f (x0) (x1) (x2) = some true
end Go.Proofs.Ytmlemnfleicnfaa.PA

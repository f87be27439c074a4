/- What is left to prove of the law PackBack: a statement over numbers and lists alone. -/

import Derived.Test.YtmlemnfleicnfaaGPackBack
import Derived.Test.YtmlemnfleicnfaaHOpen
namespace Go.Proofs.Ytmlemnfleicnfaa.PA
open Go.RowKit Go.Proofs.YtmlemnfleicnfaaW.PrintWords Go.Proofs.YtmlemnfleicnfaaW.PrintLast Go.Proofs.YtmlemnfleicnfaaW.PrintMore
set_option linter.unusedVariables false

def colloquylaw08_PackBack.PureU : Prop := ∀ (x0 : List (Int)) (x1 : List (ByteArray)), ((x0).length ≤ maxLen ∧ ∀ y ∈ x0, (Lit.int .i64 (y)).wf = true) → ((x1).length ≤ maxLen ∧ ∀ y ∈ x1, (y).size ≤ maxLen) → ((x0).length * 8 ≤ reachBytes ∧ ∀ y ∈ x0, True) → ((x1).length * 16 ≤ reachBytes ∧ ∀ y ∈ x1, ((y).size ≤ reachBytes)) → ∃ _ : Nat, colloquylaw08_PackBack.f (x0) (x1) = some true
end Go.Proofs.Ytmlemnfleicnfaa.PA

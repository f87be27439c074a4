/- What is left to prove of the law PackReads: a statement over numbers and lists alone. -/

import Derived.Test.YtmlemnfleicnfaaGPackReads
import Derived.Test.YtmlemnfleicnfaaHOpen
namespace Go.Proofs.Ytmlemnfleicnfaa.PA
open Go.RowKit Go.Proofs.YtmlemnfleicnfaaW.PrintWords Go.Proofs.YtmlemnfleicnfaaW.PrintLast Go.Proofs.YtmlemnfleicnfaaW.PrintMore
set_option linter.unusedVariables false

def colloquylaw08_PackReads.PureU : Prop := ∀ (x0 : List (Int)) (x1 : List (Int)), ((x0).length ≤ maxLen ∧ ∀ y ∈ x0, (Lit.int .u8 (y)).wf = true) → ((x1).length ≤ maxLen ∧ ∀ y ∈ x1, (Lit.int .i64 (y)).wf = true) → (((x0).map (fun _ => 1)).sum + 1) + (((x1).map (fun _ => 1)).sum + 1) ≤ 1048576 → ∃ _ : Nat, colloquylaw08_PackReads.f (x0) (x1) = some true
end Go.Proofs.Ytmlemnfleicnfaa.PA

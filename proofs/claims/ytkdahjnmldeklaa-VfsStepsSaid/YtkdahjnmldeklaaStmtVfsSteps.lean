/- What is left to prove of the law VfsSteps: a statement over numbers and lists alone. -/

import Derived.Test.YtkdahjnmldeklaaGVfsS
import Derived.Test.YtkdahjnmldeklaaHOpen
namespace Go.Proofs.Ytkdahjnmldeklaa.PA
open Go.RowKit Go.Proofs.YtkdahjnmldeklaaW.PrintWords Go.Proofs.YtkdahjnmldeklaaW.PrintLast Go.Proofs.YtkdahjnmldeklaaW.PrintMore
set_option linter.unusedVariables false

def colloquylaw07_VfsSteps.PureU : Prop := ∀ (x0 : Int) (x1 : List (Int)), (Lit.int .i64 (x0)).wf = true → ((x1).length ≤ maxLen ∧ ∀ y ∈ x1, (Lit.int .i64 (y)).wf = true) → ((x1).length * 8 ≤ reachBytes ∧ ∀ y ∈ x1, True) → ∃ _ : Nat, colloquylaw07_VfsSteps.f (x0) (x1) = some true
end Go.Proofs.Ytkdahjnmldeklaa.PA

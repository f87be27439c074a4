/- What is left to prove of the law VfsKeeps: a statement over numbers and lists alone. -/

import Derived.Test.YtkdahjnmldeklaaGVfsK
import Derived.Test.YtkdahjnmldeklaaHOpen
namespace Go.Proofs.Ytkdahjnmldeklaa.PA
open Go.RowKit Go.Proofs.YtkdahjnmldeklaaW.PrintWords Go.Proofs.YtkdahjnmldeklaaW.PrintLast Go.Proofs.YtkdahjnmldeklaaW.PrintMore
set_option linter.unusedVariables false

def colloquylaw07_VfsKeeps.PureU : Prop := ∀ (x0 : List (List (Int))) (x1 : Int) (x2 : Int) (x3 : Int), ((x0).length ≤ maxLen ∧ ∀ y ∈ x0, ((y).length ≤ maxLen ∧ ∀ z ∈ y, (Lit.int .u8 (z)).wf = true)) → (Lit.int .i64 (x1)).wf = true → (Lit.int .i64 (x2)).wf = true → (Lit.int .i64 (x3)).wf = true → ((x0).length * 24 ≤ reachBytes ∧ ∀ y ∈ x0, ((y).length * 1 ≤ reachBytes ∧ ∀ z ∈ y, True)) → ∃ _ : Nat, colloquylaw07_VfsKeeps.f (x0) (x1) (x2) (x3) = some true
end Go.Proofs.Ytkdahjnmldeklaa.PA

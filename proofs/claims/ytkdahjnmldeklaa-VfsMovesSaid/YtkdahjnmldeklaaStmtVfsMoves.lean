/- What is left to prove of the law VfsMoves: a statement over numbers and lists alone. -/

import Derived.Test.YtkdahjnmldeklaaGVfsM
import Derived.Test.YtkdahjnmldeklaaHOpen
namespace Go.Proofs.Ytkdahjnmldeklaa.PA
open Go.RowKit Go.Proofs.YtkdahjnmldeklaaW.PrintWords Go.Proofs.YtkdahjnmldeklaaW.PrintLast Go.Proofs.YtkdahjnmldeklaaW.PrintMore
set_option linter.unusedVariables false

def colloquylaw07_VfsMoves.PureU : Prop := ∀ (x0 : List (Int)) (x1 : List (Int)) (x2 : List (Int)) (x3 : Int), ((x0).length ≤ maxLen ∧ ∀ y ∈ x0, (Lit.int .u8 (y)).wf = true) → ((x1).length ≤ maxLen ∧ ∀ y ∈ x1, (Lit.int .u8 (y)).wf = true) → ((x2).length ≤ maxLen ∧ ∀ y ∈ x2, (Lit.int .u8 (y)).wf = true) → (Lit.int .i64 (x3)).wf = true → ((x0).length * 1 ≤ reachBytes ∧ ∀ y ∈ x0, True) → ((x1).length * 1 ≤ reachBytes ∧ ∀ y ∈ x1, True) → ((x2).length * 1 ≤ reachBytes ∧ ∀ y ∈ x2, True) → ∃ _ : Nat, colloquylaw07_VfsMoves.f (x0) (x1) (x2) (x3) = some true
end Go.Proofs.Ytkdahjnmldeklaa.PA

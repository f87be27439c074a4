/- What is left to prove of the law VfsRoom: a statement over numbers and lists alone. -/

import Derived.Test.YtkdahjnmldeklaaGVfsR
import Derived.Test.YtkdahjnmldeklaaHOpen
import Derived.Test.YtkdahjnmldeklaaTy45
namespace Go.Proofs.Ytkdahjnmldeklaa.PA
open Go.RowKit Go.Proofs.YtkdahjnmldeklaaW.PrintWords Go.Proofs.YtkdahjnmldeklaaW.PrintLast Go.Proofs.YtkdahjnmldeklaaW.PrintMore
set_option linter.unusedVariables false

def colloquylaw07_VfsRoom.PureU : Prop := ∀ (x0 : Int) (x1 : List (S45)), (Lit.int .i64 (x0)).wf = true → ((x1).length ≤ maxLen ∧ ∀ y ∈ x1, good45 (y)) → ((x1).length * 96 ≤ reachBytes ∧ ∀ y ∈ x1, sz45 (y)) → ∃ _ : Nat, colloquylaw07_VfsRoom.f (x0) (x1) = some true
end Go.Proofs.Ytkdahjnmldeklaa.PA

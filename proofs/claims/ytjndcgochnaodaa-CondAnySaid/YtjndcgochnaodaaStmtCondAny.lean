/- What is left to prove of the law CondAny: a statement over numbers and lists alone. -/

import Derived.Test.YtjndcgochnaodaaGCond8
import Derived.Test.YtjndcgochnaodaaHOpenX
import Derived.Test.YtjndcgochnaodaaTy27
import Derived.Test.YtjndcgochnaodaaTy36
namespace Go.Proofs.Ytjndcgochnaodaa.PA
open Go.RowKit Go.Proofs.YtjndcgochnaodaaW.PrintWords Go.Proofs.YtjndcgochnaodaaW.PrintLast Go.Proofs.YtjndcgochnaodaaW.PrintMore
set_option linter.unusedVariables false

def colloquylaw12_CondAny.PureU : Prop := ∀ (x0 : List (S24)) (x1 : S27), ((x0).length ≤ maxLen ∧ ∀ y ∈ x0, good24 (y)) → good27 (x1) → ((x0).length * 64 ≤ reachBytes ∧ ∀ y ∈ x0, szR24 (y)) → sz27 (x1) → ∃ _ : Nat, colloquylaw12_CondAny.f (x0) (x1.f0) (x1.f1) = some true
end Go.Proofs.Ytjndcgochnaodaa.PA

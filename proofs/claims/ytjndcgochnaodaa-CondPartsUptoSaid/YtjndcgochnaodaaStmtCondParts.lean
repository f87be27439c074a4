/- What is left to prove of the law CondParts: a statement over numbers and lists alone. -/

import Derived.Test.YtjndcgochnaodaaGCond9
import Derived.Test.YtjndcgochnaodaaHOpenX
import Derived.Test.YtjndcgochnaodaaTy27
import Derived.Test.YtjndcgochnaodaaTy36
namespace Go.Proofs.Ytjndcgochnaodaa.PA
open Go.RowKit Go.Proofs.YtjndcgochnaodaaW.PrintWords Go.Proofs.YtjndcgochnaodaaW.PrintLast Go.Proofs.YtjndcgochnaodaaW.PrintMore
set_option linter.unusedVariables false

def colloquylaw12_CondParts.PureU : Prop := ∀ (x0 : S24) (x1 : S24) (x2 : S27), good24 (x0) → good24 (x1) → good27 (x2) → wt24 (x0) + wt24 (x1) + wt27 (x2) ≤ 1048576 → ∃ _ : Nat, colloquylaw12_CondParts.f (x0.f0) (x0.f1) (x0.f2) (x0.f3) (x1.f0) (x1.f1) (x1.f2) (x1.f3) (x2.f0) (x2.f1) = some true
end Go.Proofs.Ytjndcgochnaodaa.PA

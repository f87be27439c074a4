/- What is left to prove of the law CondNames: a statement over numbers and lists alone. -/

import Derived.Test.YtjndcgochnaodaaGCond11
import Derived.Test.YtjndcgochnaodaaHOpenX
import Derived.Test.YtjndcgochnaodaaTy27
import Derived.Test.YtjndcgochnaodaaTy36
namespace Go.Proofs.Ytjndcgochnaodaa.PA
open Go.RowKit Go.Proofs.YtjndcgochnaodaaW.PrintWords Go.Proofs.YtjndcgochnaodaaW.PrintLast Go.Proofs.YtjndcgochnaodaaW.PrintMore
set_option linter.unusedVariables false

def colloquylaw12_CondNames.PureU : Prop := ∀ (x0 : S24) (x1 : S27), good24 (x0) → good27 (x1) → wt24 (x0) + wt27 (x1) ≤ 1048576 → ∃ _ : Nat, colloquylaw12_CondNames.f (x0.f0) (x0.f1) (x0.f2) (x0.f3) (x1.f0) (x1.f1) = some true
end Go.Proofs.Ytjndcgochnaodaa.PA

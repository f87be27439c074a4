/- What is left to prove of the law CondFirst: a statement over numbers and lists alone. -/

import Derived.Test.YtjndcgochnaodaaGCond6
import Derived.Test.YtjndcgochnaodaaHOpen
namespace Go.Proofs.Ytjndcgochnaodaa.PA
open Go.RowKit Go.Proofs.YtjndcgochnaodaaW.PrintWords Go.Proofs.YtjndcgochnaodaaW.PrintLast Go.Proofs.YtjndcgochnaodaaW.PrintMore
set_option linter.unusedVariables false

def colloquylaw12_CondFirst.PureU : Prop := ∀ (x0 : ByteArray) (x1 : ByteArray) (x2 : ByteArray), (x0).size ≤ maxLen → (x1).size ≤ maxLen → (x2).size ≤ maxLen → x0.size ≤ 140737488351232 → x1.size ≤ 140737488351232 → x2.size ≤ 140737488351232 → ∃ _ : Nat, colloquylaw12_CondFirst.f (x0) (x1) (x2) = some true
end Go.Proofs.Ytjndcgochnaodaa.PA

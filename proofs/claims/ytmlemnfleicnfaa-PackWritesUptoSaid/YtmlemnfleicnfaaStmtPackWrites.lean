/- What is left to prove of the law PackWrites: a statement over numbers and lists alone. -/

import Derived.Test.YtmlemnfleicnfaaHOpen
import Derived.Test.YtmlemnfleicnfaaPAx24
namespace Go.Proofs.Ytmlemnfleicnfaa.PA
open Go.RowKit Go.Proofs.YtmlemnfleicnfaaW.PrintWords Go.Proofs.YtmlemnfleicnfaaW.PrintLast Go.Proofs.YtmlemnfleicnfaaW.PrintMore
set_option linter.unusedVariables false

def colloquylaw08_PackWrites.PureU : Prop := ∀ (x0 : List (Int)) (x1 : Int) (x2 : ByteArray), ((x0).length ≤ maxLen ∧ ∀ x ∈ x0, (Lit.int .u8 (x)).wf = true) → (Lit.int .i64 (x1)).wf = true → (x2).size ≤ maxLen → (((x0).map (fun _ => 1)).sum + 1) + ((x2).size + 1) ≤ 1048576 → ∃ k, colloquylaw08_PackWrites.f k (x0) (x1) (x2) = some true
end Go.Proofs.Ytmlemnfleicnfaa.PA

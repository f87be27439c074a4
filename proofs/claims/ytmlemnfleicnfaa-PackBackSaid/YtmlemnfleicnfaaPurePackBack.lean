/- What is left of the law PackBack: the bound that the walk asks. -/
import Derived.Test.YtmlemnfleicnfaaStmtPackBack
namespace Go.Proofs.Ytmlemnfleicnfaa.Pure
open Go.RowKit Go.Proofs.Ytmlemnfleicnfaa.PA
set_option linter.unusedVariables false in
theorem PackBack : colloquylaw08_PackBack.PureU := by
  intro x0 x1 g0 g1 s0 s1
  have h1 : x0.length ≤ 9223372036854775807 := Nat.le_trans g0.1 (by decide)
  have h2 : x1.length ≤ 9223372036854775807 := Nat.le_trans g1.1 (by decide)
  refine ⟨0, if_pos ⟨h1, h2, fun s hs => ?_⟩⟩
  have := g1.2 s hs
  have h3 := s1.2 s hs
  simp only [maxLen, reachBytes] at *
  omega
end Go.Proofs.Ytmlemnfleicnfaa.Pure

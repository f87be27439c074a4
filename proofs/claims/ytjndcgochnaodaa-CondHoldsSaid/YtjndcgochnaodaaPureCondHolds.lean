/- What is left of the law CondHolds: the bound that the walk asks. -/
import Derived.Test.YtjndcgochnaodaaStmtCondHolds
namespace Go.Proofs.Ytjndcgochnaodaa.Pure
open Go.RowKit Go.Proofs.Ytjndcgochnaodaa.PA
set_option linter.unusedVariables false in
theorem CondHolds : colloquylaw12_CondHolds.PureU := by intro x0 x1 g0 g1 z0 z1; have hs : smallN 20 x0 := small_of 20 x0 (z0 20); have e : reachBytes = 140737488351232 := rfl; have h2 := z1.2.1; exact ⟨0, by unfold colloquylaw12_CondHolds.f; rw [if_pos ⟨hs, by omega⟩]⟩
end Go.Proofs.Ytjndcgochnaodaa.Pure

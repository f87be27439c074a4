/- What is left of the law CondAny: the bound that the walk asks. -/
import Derived.Test.YtjndcgochnaodaaStmtCondAny
namespace Go.Proofs.Ytjndcgochnaodaa.Pure
open Go.RowKit Go.Proofs.Ytjndcgochnaodaa.PA
set_option linter.unusedVariables false in
theorem CondAny : colloquylaw12_CondAny.PureU := by intro x0 x1 g0 g1 z0 z1; have hs : ∀ x ∈ x0, smallN 20 x := fun x hx => small_of 20 x (z0.2 x hx 20); have e : reachBytes = 140737488351232 := rfl; have h2 := z1.2.1; exact ⟨0, by unfold colloquylaw12_CondAny.f; rw [if_pos ⟨hs, by omega⟩]⟩
end Go.Proofs.Ytjndcgochnaodaa.Pure

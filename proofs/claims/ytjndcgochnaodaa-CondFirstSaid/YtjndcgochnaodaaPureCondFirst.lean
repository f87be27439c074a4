/- What is left of the law CondFirst: the bound that the walk asks. -/
import Derived.Test.YtjndcgochnaodaaStmtCondFirst
namespace Go.Proofs.Ytjndcgochnaodaa.Pure
open Go.RowKit Go.Proofs.Ytjndcgochnaodaa.PA
set_option linter.unusedVariables false in
theorem CondFirst : colloquylaw12_CondFirst.PureU := by intro x0 x1 x2 h0 h1 h2 h3 h4 h5; exact ⟨0, by unfold colloquylaw12_CondFirst.f; rw [if_pos (by omega)]⟩
end Go.Proofs.Ytjndcgochnaodaa.Pure

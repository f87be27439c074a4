/- What is left of the law CondSimple: the bound that the walk asks. -/
import Derived.Test.YtjndcgochnaodaaStmtCondSimple
namespace Go.Proofs.Ytjndcgochnaodaa.Pure
open Go.RowKit Go.Proofs.Ytjndcgochnaodaa.PA
set_option linter.unusedVariables false in
theorem CondSimple : colloquylaw12_CondSimple.PureU := by intro x0 x1 g0 g1 h; have e0 : wt24 x0 = wtN 21 x0 := rfl; have h0 : wtN 21 x0 ≤ 1048576 := (by omega); have s0 : smallN 20 x0 := smallN_le 20 x0 (small_wt 21 x0 (Nat.le_trans h0 (by decide))); exact ⟨0, by unfold colloquylaw12_CondSimple.f; rw [if_pos ⟨s0, h0⟩]⟩
end Go.Proofs.Ytjndcgochnaodaa.Pure

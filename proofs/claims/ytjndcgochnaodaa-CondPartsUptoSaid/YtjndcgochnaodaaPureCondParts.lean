/- What is left of the law CondParts: the bound that the walk asks. -/
import Derived.Test.YtjndcgochnaodaaStmtCondParts
namespace Go.Proofs.Ytjndcgochnaodaa.Pure
open Go.RowKit Go.Proofs.Ytjndcgochnaodaa.PA
set_option linter.unusedVariables false in
theorem CondParts : colloquylaw12_CondParts.PureU := by intro x0 x1 x2 g0 g1 g2 h; have e0 : wt24 x0 = wtN 21 x0 := rfl; have e1 : wt24 x1 = wtN 21 x1 := rfl; have h0 : wtN 21 x0 ≤ 1048576 := (by omega); have h1 : wtN 21 x1 ≤ 1048576 := (by omega); have s0 : smallN 20 x0 := smallN_le 20 x0 (small_wt 21 x0 (Nat.le_trans h0 (by decide))); have s1 : smallN 20 x1 := smallN_le 20 x1 (small_wt 21 x1 (Nat.le_trans h1 (by decide))); exact ⟨0, by unfold colloquylaw12_CondParts.f; rw [if_pos ⟨s0, s1, h0⟩]⟩
end Go.Proofs.Ytjndcgochnaodaa.Pure

/- What is left of the law CondNames: the bound that the walk asks. -/
import Derived.Test.YtjndcgochnaodaaStmtCondNames
namespace Go.Proofs.Ytjndcgochnaodaa.Pure
open Go.RowKit Go.Proofs.Ytjndcgochnaodaa.PA
set_option linter.unusedVariables false in
theorem CondNames : colloquylaw12_CondNames.PureU := by intro x0 x1 g0 g1 h; have e0 : wt24 x0 = wtN 21 x0 := rfl; have h0 : wtN 21 x0 ≤ 1048576 := (by omega); have s0 : smallN 20 x0 := smallN_le 20 x0 (small_wt 21 x0 (Nat.le_trans h0 (by decide))); have hl : x1.f1.length ≤ (x1.f1.map (fun x => wt36 (x))).sum := sum_len (fun y => (by unfold wt36; omega)) x1.f1; have e1 : (x1.f1.map (fun x => wt36 (x))).sum ≤ wt27 x1 := (by unfold wt27; omega); exact ⟨0, by unfold colloquylaw12_CondNames.f; rw [if_pos ⟨s0, h0, by omega⟩]⟩
end Go.Proofs.Ytjndcgochnaodaa.Pure

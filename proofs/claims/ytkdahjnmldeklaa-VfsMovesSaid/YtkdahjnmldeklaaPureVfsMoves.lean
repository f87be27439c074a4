/- What is left of the law VfsMoves: the bound that the walk asks. -/
import Derived.Test.YtkdahjnmldeklaaStmtVfsMoves
namespace Go.Proofs.Ytkdahjnmldeklaa.Pure
open Go.RowKit Go.Proofs.Ytkdahjnmldeklaa.PA
set_option linter.unusedVariables false in
theorem VfsMoves : colloquylaw07_VfsMoves.PureU := by intro x0 x1 x2 x3 g0 g1 g2 g3 s0 s1 s2; have h0 := s0.1; have h1 := s1.1; have h2 := s2.1; unfold reachBytes at h0 h1 h2; exact ⟨0, if_pos ⟨by omega, by omega, by omega⟩⟩
end Go.Proofs.Ytkdahjnmldeklaa.Pure

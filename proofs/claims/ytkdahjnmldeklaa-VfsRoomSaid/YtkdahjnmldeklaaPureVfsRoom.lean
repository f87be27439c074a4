/- What is left of the law VfsRoom: the bound that the walk asks. -/
import Derived.Test.YtkdahjnmldeklaaStmtVfsRoom
namespace Go.Proofs.Ytkdahjnmldeklaa.Pure
open Go.RowKit Go.Proofs.Ytkdahjnmldeklaa.PA
set_option linter.unusedVariables false in
theorem VfsRoom : colloquylaw07_VfsRoom.PureU := by intro x0 x1 g0 g1 s; unfold reachBytes at s; exact ⟨0, if_pos ⟨by have h := s.1; omega, fun x hx => by have h : _ ∧ _ ∧ _ ∧ _ := s.2 x hx; have h1 : x.f1.size ≤ 140737488351232 := h.2.1; have h2 : x.f2.size ≤ 140737488351232 := h.2.2.1; exact ⟨by omega, by omega⟩⟩⟩
end Go.Proofs.Ytkdahjnmldeklaa.Pure

/- What is left of the law LineTime: the bound that the walk asks. -/
import Derived.Test.YtbnoedefkbnpjaaStmtLineTime
namespace Go.Proofs.Ytbnoedefkbnpjaa.Pure
open Go.RowKit Go.Proofs.Ytbnoedefkbnpjaa.PA
set_option linter.unusedVariables false in
theorem LineTime : colloquylaw10_LineTime.PureU := fun x0 x1 g0 g1 hb => by
  have h1 : ∀ (l : List Int), (l.map (fun _ => 1)).sum = l.length := by
    intro l
    induction l with
    | nil => rfl
    | cons a l ih => rw [List.map_cons, List.sum_cons, List.length_cons, ih]; omega
  have hw : ∀ x : S52, x.f1.length + 1 ≤ wt52 x := by
    intro x
    unfold wt52
    rw [h1]
    omega
  have hs : ∀ l : List S52, (l.map (fun x => x.f1.length)).sum ≤ (l.map (fun x => wt52 x)).sum ∧ l.length ≤ (l.map (fun x => wt52 x)).sum := by
    intro l
    induction l with
    | nil => simp
    | cons a l ih =>
      have := hw a
      simp only [List.map_cons, List.sum_cons, List.length_cons]
      omega
  have hb2 : (x0.f0.map (fun x => wt52 x)).sum ≤ 1048576 := by
    unfold wt48 at hb
    omega
  have h2 := hs x0.f0
  have h3 := g1.1
  refine ⟨0, if_pos ⟨by omega, fun x hx => ?_, by omega, h3⟩⟩
  have h4 := mem_le_sum (fun x => wt52 x) _ x hx
  have h5 := hw x
  omega
end Go.Proofs.Ytbnoedefkbnpjaa.Pure

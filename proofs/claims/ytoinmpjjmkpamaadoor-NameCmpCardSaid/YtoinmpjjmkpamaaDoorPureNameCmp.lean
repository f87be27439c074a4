/- Every two texts stand to each other as the document says. -/
import Derived.Test.YtoinmpjjmkpamaaDoorPureRefCmp
namespace Go.Proofs.YtoinmpjjmkpamaaDoor.Pure
open Go.RowKit Go.Proofs.YtoinmpjjmkpamaaDoor.PA Go.Proofs.YtoinmpjjmkpamaaDoorW.PrintWords Go.Proofs.YtoinmpjjmkpamaaDoorW.PrintLast Go.Proofs.YtoinmpjjmkpamaaDoorW.PrintMore

theorem alive_ev : Ev (fun k => name_Cmp.f k (⟨#[116, 50]⟩ : ByteArray) (⟨#[116, 49, 48]⟩ : ByteArray)) (-1) := by
  have h := cmp_ev 3 (⟨#[116, 50]⟩ : ByteArray) (⟨#[116, 49, 48]⟩ : ByteArray) (show 2 < 3 by omega) (show 2 ≤ 140737488351300 by omega) (show 3 ≤ 140737488351300 by omega)
  rw [show cmpL 3 (bl (⟨#[116, 50]⟩ : ByteArray)) (bl (⟨#[116, 49, 48]⟩ : ByteArray)) = -1 by decide +kernel] at h
  exact h
theorem NameCmp : colloquylaw02_NameCmp.Pure := by
  intro s t hs ht
  refine Ev.rounds ?_
  unfold colloquylaw02_NameCmp.f
  refine Ev.bind alive_ev (Ev.congr (fun k => if_pos rfl) ?_)
  have hj : ∀ b : Bool, Ev (fun k => colloquylaw02_NameCmp.j0 k s t b) true := by
    intro b
    cases b with
    | true =>
      refine Ev.step (f := fun _ => some true) (fun k => ?_) (Ev.now _)
      simp only [colloquylaw02_NameCmp.j0]
      rw [if_pos (by trivial)]
    | false =>
      refine Ev.step (f := fun k => (name_Cmp.f k s t).bind fun t131 => (colloquyref02_Cmp.f k s t).bind fun t132 => some (t131 == t132)) (fun k => ?_) ?_
      · simp only [colloquylaw02_NameCmp.j0]
        rw [if_neg (by simp)]
      · refine Ev.bind (cmp_ev (s.size + 1) s t (by omega) (by omega) (by omega)) (Ev.bind (rcmp_ev (s.size + 1) s t (by omega) (by omega) (by omega)) ?_)
        rw [beq_self_eq_true]
        exact Ev.now _
  by_cases h : (s.size : Int) > 2000
  · exact Ev.congr (fun k => if_pos h) (hj true)
  · exact Ev.congr (fun k => if_neg h) (hj _)
end Go.Proofs.YtoinmpjjmkpamaaDoor.Pure

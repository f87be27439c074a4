/- The order of names is one: the other way round it is the other way round, it is handed on, and only a text itself stands at its place. -/
import Derived.Test.YtoinmpjjmkpamaaDoorPureEncLib
import Derived.Test.YtoinmpjjmkpamaaDoorPAx33
namespace Go.Proofs.YtoinmpjjmkpamaaDoor.Pure
open Go.RowKit Go.Proofs.YtoinmpjjmkpamaaDoor.PA Go.Proofs.YtoinmpjjmkpamaaDoorW.PrintWords Go.Proofs.YtoinmpjjmkpamaaDoorW.PrintLast Go.Proofs.YtoinmpjjmkpamaaDoorW.PrintMore

theorem alive_ev : Ev (fun k => name_Cmp.f k (⟨#[116, 50]⟩ : ByteArray) (⟨#[116, 49, 48]⟩ : ByteArray)) (-1) := by
  have h := cmp_ev 3 (⟨#[116, 50]⟩ : ByteArray) (⟨#[116, 49, 48]⟩ : ByteArray) (show 2 < 3 by omega) (show 2 ≤ 140737488351300 by omega) (show 3 ≤ 140737488351300 by omega)
  rw [show cmpL 3 (bl (⟨#[116, 50]⟩ : ByteArray)) (bl (⟨#[116, 49, 48]⟩ : ByteArray)) = -1 by decide +kernel] at h
  exact h
theorem lexN_range : ∀ x y, -1 ≤ lexN x y ∧ lexN x y ≤ 1
  | [], [] => by simp [lexN]
  | [], _ :: _ => by simp [lexN]
  | _ :: _, [] => by simp [lexN]
  | a :: x, b :: y => by
    have := lexN_range x y
    rw [lexN]
    repeat' split
    all_goals omega
theorem NameOrder : colloquylaw02_NameOrder.Pure := by
  intro s t u hs ht hu
  refine Ev.rounds ?_
  have ls := bl_len s
  have lt := bl_len t
  have lu := bl_len u
  obtain ⟨F, hF⟩ : ∃ F, F = s.size + t.size + u.size + 1 := ⟨_, rfl⟩
  have st := cmp_ev F s t (by omega) (by omega) (by omega)
  have ts := cmp_ev F t s (by omega) (by omega) (by omega)
  have tu := cmp_ev F t u (by omega) (by omega) (by omega)
  have su := cmp_ev F s u (by omega) (by omega) (by omega)
  have hanti := cmpL_anti F (bl s) (bl t) (by omega) (by omega)
  have hle := cmpL_le F (bl s) (bl t) (bl u) (by omega) (by omega) (by omega)
  have hself := cmpL_self F (bl s) (by omega)
  have hzero := cmpL_zero F (bl s) (bl t) (by omega) (by omega)
  have hr : -1 ≤ cmpL F (bl t) (bl s) ∧ cmpL F (bl t) (bl s) ≤ 1 := by
    rw [cmpL_enc F _ _ (by omega) (by omega)]
    exact lexN_range _ _
  have heq : ((cmpL F (bl s) (bl t) == 0) != (s.toList == t.toList)) = false := by
    rw [ByteArray.toList_eq, ByteArray.toList_eq]
    show ((cmpL F (bl s) (bl t) == 0) != (bl s == bl t)) = false
    by_cases e : bl s = bl t
    · rw [← e, hself]
      simp
    · have : cmpL F (bl s) (bl t) ≠ 0 := fun h => e (hzero h)
      rw [beq_eq_false_iff_ne.2 this, beq_eq_false_iff_ne.2 e]
      rfl
  unfold colloquylaw02_NameOrder.f
  refine Ev.bind alive_ev (Ev.congr (fun k => if_pos rfl) ?_)
  refine Ev.bind st (Ev.bind ts ?_)
  have hw : cmpL F (bl s) (bl t) = wrap64 (-cmpL F (bl t) (bl s)) := by
    rw [wrap_id (by omega) (by omega)]
    exact hanti
  refine Ev.congr (fun k => if_pos hw) ?_
  refine Ev.bind st ?_
  rw [heq]
  refine Ev.step (f := fun k => (name_Cmp.f k s t).bind fun t137 => (if t137 > 0 then (some true) else ((name_Cmp.f k t u).bind fun t138 => (if t138 > 0 then (some true) else ((name_Cmp.f k s u).bind fun t139 => (some (decide (t139 ≤ 0)))))))) (fun k => ?_) ?_
  · simp only [colloquylaw02_NameOrder.j0]
    rw [if_neg (by simp)]
  refine Ev.bind st ?_
  by_cases h1 : cmpL F (bl s) (bl t) > 0
  · exact Ev.congr (fun k => if_pos h1) (Ev.now _)
  refine Ev.congr (fun k => if_neg h1) ?_
  refine Ev.bind tu ?_
  by_cases h2 : cmpL F (bl t) (bl u) > 0
  · exact Ev.congr (fun k => if_pos h2) (Ev.now _)
  refine Ev.congr (fun k => if_neg h2) ?_
  refine Ev.bind su ?_
  rw [decide_eq_true (hle (by omega) (by omega))]
  exact Ev.now _
end Go.Proofs.YtoinmpjjmkpamaaDoor.Pure

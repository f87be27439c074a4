/- Conditions of one property: right, and holding, in plain words. -/
import Derived.Test.YtjndcgochnaodaaHWordB
import Derived.Test.YtjndcgochnaodaaGCond1
namespace Go.Proofs.Ytjndcgochnaodaa.PA
open Go.RowKit Go.Proofs.YtjndcgochnaodaaW.PrintWords Go.Proofs.YtjndcgochnaodaaW.PrintLast Go.Proofs.YtjndcgochnaodaaW.PrintMore
theorem fi_right {n : Nat} {nm : ByteArray} (h : ∀ k, n ≤ k → name_Word.f k nm = some (wordB nm)) (kd : Int) (hk : kd = 1 ∨ kd = 2) (a : ByteArray) : cond_Right.f (n + 6) kd nm a [] = some (wordB nm) := by
  have e : ∀ x7 : Bool, cond_right.j1 (n + 4) x7 kd nm a [] = some (wordB nm) := by
    intro x7
    rcases hk with rfl | rfl <;> simp only [cond_right.j1, cond_right.j2, if_true, beq_self_eq_true, show ¬ (2 : Int) = 1 by decide, if_false]
    all_goals
      rw [h (n + 2) (by omega)]
      cases wordB nm <;> rfl
  unfold cond_Right.f
  simp only [cond_right.f, cond_right.l0]
  rw [if_neg (by decide), if_neg (by decide)]
  split <;> rw [e] <;> rfl
theorem fi_is {n : Nat} {nm : ByteArray} (h : ∀ k, n ≤ k → name_Word.f k nm = some (wordB nm)) (a b : ByteArray) (ps : List S36) : cond_Holds.f (n + 6) 1 nm a [] b ps = some (wordB nm && hasB ps nm a) := by
  unfold cond_Holds.f
  rw [fi_right h 1 (.inl rfl) a, Option.bind_some]
  cases wordB nm
  · rfl
  · rfl
theorem fi_isnt {n : Nat} {nm : ByteArray} (h : ∀ k, n ≤ k → name_Word.f k nm = some (wordB nm)) (a b : ByteArray) (ps : List S36) : cond_Holds.f (n + 6) 2 nm a [] b ps = some (wordB nm && !hasB ps nm a) := by
  unfold cond_Holds.f
  rw [fi_right h 2 (.inr rfl) a, Option.bind_some]
  cases wordB nm
  · rfl
  · rfl
theorem has_first (nm a : ByteArray) (v : ByteArray) (ps : List S36) : hasB (⟨nm, v⟩ :: ps) nm a = (v.toList == a.toList) := by
  have e : idxI (nameIs nm) (⟨nm, v⟩ :: ps) = 0 := by
    unfold idxI
    rw [if_pos (by simp [nameIs])]
  unfold hasB
  rw [e]
  rfl
theorem has_none (nm a : ByteArray) : hasB [] nm a = false := by
  unfold hasB idxI
  rfl
end Go.Proofs.Ytjndcgochnaodaa.PA

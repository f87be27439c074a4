/- Events: which decide, which are right, when a trace is right. -/
import Derived.Test.YtmlemnfleicnfaaHLazy
import Derived.Test.YtmlemnfleicnfaaHKinds
namespace Go.Proofs.Ytmlemnfleicnfaa.PA
open Go.RowKit Go.Proofs.YtmlemnfleicnfaaW.PrintWords Go.Proofs.YtmlemnfleicnfaaW.PrintLast Go.Proofs.YtmlemnfleicnfaaW.PrintMore
set_option linter.unusedVariables false
set_option linter.unusedSimpArgs false
def decL (x : S70) : Bool := if x.f0 = 5 ∨ x.f0 = 6 ∨ x.f0 = 7 then decide (x.f1 < 0) else decide (x.f0 = 8 ∨ x.f0 = 9 ∨ x.f0 = 11 ∨ x.f0 = 12 ∨ x.f0 = 13)
def noText (x : S70) : Bool := x.f2.toList == (⟨#[]⟩ : ByteArray).toList
def rightL (x : S70) : Bool :=
  decide (1 ≤ x.f0) && decide (x.f0 ≤ 14) && decide ((if x.f0 = 5 ∨ x.f0 = 6 ∨ x.f0 = 7 then -1 else 0) ≤ x.f1) &&
  decide (x.f1 ≤ (if x.f0 = 1 ∨ x.f0 = 14 ∨ x.f0 = 3 ∨ x.f0 = 4 ∨ x.f0 = 5 ∨ x.f0 = 6 ∨ x.f0 = 7 then x.f1 else 0)) &&
  (decide (x.f0 = 3 ∨ x.f0 = 4 ∨ x.f0 = 2) || noText x) && decide (0 ≤ x.f3)
theorem right_at {x : S70} (h : rightL x = true) : 0 ≤ x.f3 := by
  unfold rightL at h
  simp only [Bool.and_eq_true, decide_eq_true_eq] at h
  exact h.2
def okAt (es : List S70) (i : Nat) : Prop :=
  rightL (es.getD i z70) = true ∧ ((es.getD i z70).f0 = 1 → (es.getD i z70).f3 = 0) ∧ ((es.getD i z70).f0 ≠ 1 → 0 < i → (es.getD (i - 1) z70).f3 ≤ (es.getD i z70).f3) ∧ (decL (es.getD i z70) = true → es.length ≤ i + 1)
noncomputable def rightAll (es : List S70) : Bool := @decide (∀ i, i < es.length → okAt es i) (Classical.propDecidable _)
theorem right_no {es : List S70} {i : Nat} (h : i < es.length) (hn : ¬ okAt es i) : rightAll es = false := by
  unfold rightAll
  exact @decide_eq_false _ (Classical.propDecidable _) (fun hh => hn (hh i h))
theorem right_yes {es : List S70} (h : ∀ i, i < es.length → okAt es i) : rightAll es = true := by
  unfold rightAll
  exact @decide_eq_true _ (Classical.propDecidable _) h
section
variable {es : List S70} {i at_ at1 : Int}
theorem ok_no (h0 : 0 ≤ i) (hi : i < es.length) (hat : at_ = (if i = 0 then 0 else (es.getD (i.toNat - 1) z70).f3)) (hk1 : (es.getD i.toNat z70).f0 = 1 → at1 = 0) (hk2 : (es.getD i.toNat z70).f0 ≠ 1 → at1 = at_)
    (h : (rightL (es.getD i.toNat z70) = false ∨ (es.getD i.toNat z70).f3 < at1) ∨ decL (es.getD i.toNat z70) = true ∧ i < (es.length : Int) - 1) : ¬ okAt es i.toNat := by
  rintro ⟨h1, h2, h3, h4⟩
  have h5 := right_at h1
  rcases h with (h | h) | ⟨hd, hl⟩
  · rw [h1] at h; cases h
  · by_cases hk : (es.getD i.toNat z70).f0 = 1
    · have := hk1 hk; omega
    · have e := hk2 hk
      have h6 := h3 hk
      by_cases hz : i = 0
      · rw [if_pos hz] at hat; omega
      · rw [if_neg hz] at hat
        have := h6 (by omega)
        omega
  · have := h4 hd; omega
theorem ok_yes (h0 : 0 ≤ i) (hi : i < es.length) (hat : at_ = (if i = 0 then 0 else (es.getD (i.toNat - 1) z70).f3)) (hk0 : (es.getD i.toNat z70).f0 = 1 → (es.getD i.toNat z70).f3 = 0) (hk2 : (es.getD i.toNat z70).f0 ≠ 1 → at1 = at_)
    (h : (rightL (es.getD i.toNat z70) = true ∧ at1 ≤ (es.getD i.toNat z70).f3) ∧ (decL (es.getD i.toNat z70) = false ∨ (es.length : Int) - 1 ≤ i)) : okAt es i.toNat := by
  obtain ⟨⟨h1, h2⟩, h3⟩ := h
  refine ⟨h1, hk0, fun hk hp => ?_, fun hd => ?_⟩
  · have e := hk2 hk
    rw [if_neg (by omega)] at hat
    omega
  · rcases h3 with h3 | h3
    · rw [h3] at hd; cases hd
    · omega
end
theorem all_succ {es : List S70} {i : Int} (h0 : 0 ≤ i) (h : ∀ j : Nat, j < i.toNat → okAt es j) (h1 : okAt es i.toNat) : ∀ j : Nat, j < (i + 1).toNat → okAt es j := by
  intro j hj
  by_cases hji : j = i.toNat
  · exact hji ▸ h1
  · exact h j (by omega)
theorem rightL_iff (x : S70) : rightL x = true ↔ ((1 ≤ x.f0 ∧ x.f0 ≤ 14) ∧ (if x.f0 = 5 ∨ x.f0 = 6 ∨ x.f0 = 7 then -1 else 0) ≤ x.f1 ∧ x.f1 ≤ (if x.f0 = 1 ∨ x.f0 = 14 ∨ x.f0 = 3 ∨ x.f0 = 4 ∨ x.f0 = 5 ∨ x.f0 = 6 ∨ x.f0 = 7 then x.f1 else 0)) ∧ ((x.f0 = 3 ∨ x.f0 = 4 ∨ x.f0 = 2) ∨ x.f2.toList = (⟨#[]⟩ : ByteArray).toList) ∧ 0 ≤ x.f3 := by
  unfold rightL noText
  simp only [Bool.and_eq_true, Bool.or_eq_true, decide_eq_true_eq, beq_iff_eq]
  constructor
  · rintro ⟨⟨⟨⟨⟨a, b⟩, c⟩, d⟩, e⟩, f⟩
    exact ⟨⟨⟨a, b⟩, c, d⟩, e, f⟩
  · rintro ⟨⟨⟨a, b⟩, c, d⟩, e, f⟩
    exact ⟨⟨⟨⟨⟨a, b⟩, c⟩, d⟩, e⟩, f⟩
section
variable {es : List S70} {i : Int} {x : S70}
theorem rl_no1 (h : ((x.f0 < 1 ∨ 14 < x.f0) ∨ x.f3 < 0) ∨ x.f1 < -1) : ¬ rightL x = true := by
  rw [rightL_iff]
  rintro ⟨⟨a, b, c⟩, d, e⟩
  split at b <;> omega
theorem rl_no2 (h : ((¬x.f0 = 5 ∧ ¬x.f0 = 6) ∧ ¬x.f0 = 7) ∧ x.f1 < 0 ∨ (((¬x.f0 = 5 ∧ ¬x.f0 = 6) ∧ ¬x.f0 = 7) ∧ ((¬x.f0 = 1 ∧ ¬x.f0 = 3) ∧ ¬x.f0 = 4) ∧ ¬x.f0 = 14) ∧ ¬x.f1 = 0) : ¬ rightL x = true := by
  rw [rightL_iff]
  rintro ⟨⟨a, b, c⟩, d, e⟩
  split at b <;> split at c <;> omega
theorem rl_no3 (h : ((¬x.f0 = 2 ∧ ¬x.f0 = 3) ∧ ¬x.f0 = 4) ∧ ¬x.f2.toList = (⟨#[]⟩ : ByteArray).toList) : ¬ rightL x = true := by
  rw [rightL_iff]
  rintro ⟨a, d | d, e⟩
  · omega
  · exact h.2 d
theorem rl_yes (h1 : ((1 ≤ x.f0 ∧ x.f0 ≤ 14) ∧ 0 ≤ x.f3) ∧ -1 ≤ x.f1) (h2 : (((x.f0 = 5 ∨ x.f0 = 6) ∨ x.f0 = 7) ∨ 0 ≤ x.f1) ∧ ((((x.f0 = 5 ∨ x.f0 = 6) ∨ x.f0 = 7) ∨ ((x.f0 = 1 ∨ x.f0 = 3) ∨ x.f0 = 4) ∨ x.f0 = 14) ∨ x.f1 = 0))
    (h3 : ((x.f0 = 2 ∨ x.f0 = 3) ∨ x.f0 = 4) ∨ x.f2.toList = (⟨#[]⟩ : ByteArray).toList) : rightL x = true := by
  rw [rightL_iff]
  refine ⟨⟨by omega, ?_, ?_⟩, ?_, by omega⟩
  · split <;> omega
  · split <;> omega
  · rcases h3 with h3 | h3
    · exact .inl (by omega)
    · exact .inr h3
theorem rr_no1 (h0 : 0 ≤ i) (hi : i < es.length) (h : (((es.getD i.toNat z70).f0 < 1 ∨ 14 < (es.getD i.toNat z70).f0) ∨ (es.getD i.toNat z70).f3 < 0) ∨ (es.getD i.toNat z70).f1 < -1) : ¬ okAt es i.toNat := fun k => rl_no1 h k.1
theorem rr_no2 (h0 : 0 ≤ i) (hi : i < es.length) (h : ((¬(es.getD i.toNat z70).f0 = 5 ∧ ¬(es.getD i.toNat z70).f0 = 6) ∧ ¬(es.getD i.toNat z70).f0 = 7) ∧ (es.getD i.toNat z70).f1 < 0 ∨ (((¬(es.getD i.toNat z70).f0 = 5 ∧ ¬(es.getD i.toNat z70).f0 = 6) ∧ ¬(es.getD i.toNat z70).f0 = 7) ∧ ((¬(es.getD i.toNat z70).f0 = 1 ∧ ¬(es.getD i.toNat z70).f0 = 3) ∧ ¬(es.getD i.toNat z70).f0 = 4) ∧ ¬(es.getD i.toNat z70).f0 = 14) ∧ ¬(es.getD i.toNat z70).f1 = 0) : ¬ okAt es i.toNat := fun k => rl_no2 h k.1
theorem rr_no3 (h0 : 0 ≤ i) (hi : i < es.length) (h : ((¬(es.getD i.toNat z70).f0 = 2 ∧ ¬(es.getD i.toNat z70).f0 = 3) ∧ ¬(es.getD i.toNat z70).f0 = 4) ∧ ¬(es.getD i.toNat z70).f2.toList = (⟨#[]⟩ : ByteArray).toList) : ¬ okAt es i.toNat := fun k => rl_no3 h k.1
theorem pred_is (h0 : 0 < i) : (i - 1).toNat = i.toNat - 1 := by omega
theorem rr_no4 (h0 : 0 ≤ i) (hi : i < es.length) (h : ((es.getD i.toNat z70).f0 = 1 ∧ ¬(es.getD i.toNat z70).f3 = 0 ∨ (¬(es.getD i.toNat z70).f0 = 1 ∧ 0 < i) ∧ (es.getD i.toNat z70).f3 < (es.getD (i - 1).toNat z70).f3) ∨ i + 1 < (es.length : Int) ∧ decL (es.getD i.toNat z70) = true) : ¬ okAt es i.toNat := by
  rintro ⟨h1, h2, h3, h4⟩
  rcases h with (⟨a, b⟩ | ⟨⟨a, b⟩, c⟩) | ⟨a, b⟩
  · exact b (h2 a)
  · rw [pred_is b] at c
    have := h3 a (by omega)
    omega
  · have := h4 b
    omega
theorem rr_yes (h0 : 0 ≤ i) (hi : i < es.length) (h1 : (((1 ≤ (es.getD i.toNat z70).f0 ∧ (es.getD i.toNat z70).f0 ≤ 14) ∧ 0 ≤ (es.getD i.toNat z70).f3) ∧ -1 ≤ (es.getD i.toNat z70).f1)) (h2 : ((((es.getD i.toNat z70).f0 = 5 ∨ (es.getD i.toNat z70).f0 = 6) ∨ (es.getD i.toNat z70).f0 = 7) ∨ 0 ≤ (es.getD i.toNat z70).f1) ∧ (((((es.getD i.toNat z70).f0 = 5 ∨ (es.getD i.toNat z70).f0 = 6) ∨ (es.getD i.toNat z70).f0 = 7) ∨ (((es.getD i.toNat z70).f0 = 1 ∨ (es.getD i.toNat z70).f0 = 3) ∨ (es.getD i.toNat z70).f0 = 4) ∨ (es.getD i.toNat z70).f0 = 14) ∨ (es.getD i.toNat z70).f1 = 0))
    (h3 : (((es.getD i.toNat z70).f0 = 2 ∨ (es.getD i.toNat z70).f0 = 3) ∨ (es.getD i.toNat z70).f0 = 4) ∨ (es.getD i.toNat z70).f2.toList = (⟨#[]⟩ : ByteArray).toList)
    (h4 : ((¬(es.getD i.toNat z70).f0 = 1 ∨ (es.getD i.toNat z70).f3 = 0) ∧ (((es.getD i.toNat z70).f0 = 1 ∨ i ≤ 0) ∨ (es.getD (i - 1).toNat z70).f3 ≤ (es.getD i.toNat z70).f3)) ∧ ((es.length : Int) ≤ i + 1 ∨ decL (es.getD i.toNat z70) = false)) : okAt es i.toNat := by
  refine ⟨rl_yes h1 h2 h3, fun hk => ?_, fun hk hp => ?_, fun hd => ?_⟩
  · rcases h4.1.1 with h | h
    · exact absurd hk h
    · exact h
  · rcases h4.1.2 with (h | h) | h
    · exact absurd h hk
    · omega
    · rwa [pred_is (by omega)] at h
  · rcases h4.2 with h | h
    · omega
    · rw [h] at hd; cases hd
end
end Go.Proofs.Ytmlemnfleicnfaa.PA

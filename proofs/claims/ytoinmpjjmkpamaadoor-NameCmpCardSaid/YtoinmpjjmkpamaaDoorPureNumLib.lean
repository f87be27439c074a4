/- Runs of digits: stripped and held against each other, or padded: one answer. -/
import Derived.Test.YtoinmpjjmkpamaaDoorPureLessLib
namespace Go.Proofs.YtoinmpjjmkpamaaDoor.Pure
open Go.RowKit Go.Proofs.YtoinmpjjmkpamaaDoor.PA Go.Proofs.YtoinmpjjmkpamaaDoorW.PrintWords Go.Proofs.YtoinmpjjmkpamaaDoorW.PrintLast Go.Proofs.YtoinmpjjmkpamaaDoorW.PrintMore

theorem ltF_rep (d : Bool) (u v : List UInt8) : ∀ q : Nat, ltF d (List.replicate q 48 ++ u) (List.replicate q 48 ++ v) = ltF d u v := by
  intro q
  induction q with
  | zero => rfl
  | succ q ih =>
    rw [List.replicate_succ, List.cons_append, List.cons_append, ltF, if_pos rfl, ih]
theorem ltF_lex (d : Bool) : ∀ x y : List UInt8, x.length = y.length → ltF d x y = if Op.bytesLess x y = true then true else if x = y then d else false := by
  intro x
  induction x with
  | nil =>
    intro y h
    have : y = [] := List.eq_nil_of_length_eq_zero h.symm
    subst this
    simp [ltF, Op.bytesLess]
  | cons a x ih =>
    intro y h
    cases y with
    | nil => simp at h
    | cons b y =>
      have h' : x.length = y.length := by simpa using h
      by_cases e : a = b
      · subst e
        rw [ltF, if_pos rfl, ih y h']
        simp [Op.bytesLess]
      · rw [ltF, if_neg e]
        simp [Op.bytesLess, e, UInt8.lt_iff_toNat_lt]
theorem strip_split (l : List UInt8) : ∃ i, l = List.replicate i 48 ++ Lib.trimLeftB l 48 ∧ (Lib.trimLeftB l 48 = [] ∨ ∃ c r, Lib.trimLeftB l 48 = c :: r ∧ c ≠ 48) := by
  unfold Lib.trimLeftB
  induction l with
  | nil => exact ⟨0, rfl, Or.inl rfl⟩
  | cons a l ih =>
    by_cases h : a = 48
    · subst h
      obtain ⟨i, h1, h2⟩ := ih
      refine ⟨i + 1, ?_, ?_⟩
      · rw [List.dropWhile_cons_of_pos (by simp), List.replicate_succ, List.cons_append, ← h1]
      · rw [List.dropWhile_cons_of_pos (by simp)]
        exact h2
    · refine ⟨0, ?_, Or.inr ⟨a, l, ?_, h⟩⟩
      · rw [List.dropWhile_cons_of_neg (by simpa using h)]
        rfl
      · rw [List.dropWhile_cons_of_neg (by simpa using h)]
theorem pad_strip (n : Nat) (a x : List UInt8) (i : Nat) (h : a = List.replicate i 48 ++ x) (hn : a.length ≤ n) : padB n a = List.replicate (n - x.length) 48 ++ x := by
  have hl : a.length = i + x.length := by rw [h, List.length_append, List.length_replicate]
  unfold padB
  rw [hl]
  conv => lhs; rw [h]
  rw [← List.append_assoc, List.replicate_append_replicate]
  congr 2
  omega
/-- Stripped heads stand above a zero. -/
def High (x : List UInt8) : Prop := x = [] ∨ ∃ c r, x = c :: r ∧ 48 < c.toNat
theorem ltF_short (d : Bool) (x y : List UInt8) (p q : Nat) (hl : p + x.length = q + y.length) (hxy : x.length < y.length) (hy : High y) : ltF d (List.replicate p 48 ++ x) (List.replicate q 48 ++ y) = true := by
  have hp : p = q + ((p - q - 1) + 1) := by omega
  rw [hp, ← List.replicate_append_replicate, List.append_assoc, ltF_rep, List.replicate_succ, List.cons_append]
  rcases hy with rfl | ⟨c, r, rfl, hc⟩
  · simp at hxy
  · have e : (48 : UInt8) ≠ c := by
      rintro rfl
      exact absurd hc (by decide)
    rw [ltF, if_neg e]
    exact decide_eq_true hc
theorem ltF_long (d : Bool) (x y : List UInt8) (p q : Nat) (hl : p + x.length = q + y.length) (hxy : y.length < x.length) (hx : High x) : ltF d (List.replicate p 48 ++ x) (List.replicate q 48 ++ y) = false := by
  have hq : q = p + ((q - p - 1) + 1) := by omega
  rw [hq, ← List.replicate_append_replicate, List.append_assoc, ltF_rep, List.replicate_succ, List.cons_append]
  rcases hx with rfl | ⟨c, r, rfl, hc⟩
  · simp at hxy
  · have e : c ≠ (48 : UInt8) := by
      rintro rfl
      exact absurd hc (by decide)
    rw [ltF, if_neg e]
    refine decide_eq_false ?_
    show ¬ c.toNat < 48
    omega
theorem lex_tri : ∀ x y : List UInt8, Op.bytesLess x y = false → x ≠ y → Op.bytesLess y x = true := by
  intro x
  induction x with
  | nil =>
    intro y h hne
    cases y with
    | nil => exact absurd rfl hne
    | cons b y => simp [Op.bytesLess] at h
  | cons a x ih =>
    intro y h hne
    cases y with
    | nil => simp [Op.bytesLess]
    | cons b y =>
      by_cases e : a = b
      · subst e
        simp [Op.bytesLess] at h ⊢
        exact ih y h (fun e => hne (by rw [e]))
      · simp [Op.bytesLess, e, UInt8.lt_iff_toNat_lt] at h ⊢
        have : a.toNat ≠ b.toNat := fun h => e (UInt8.toNat_inj.1 h)
        left
        have h2 := UInt8.le_iff_toNat_le.1 h
        omega
theorem less_strip (a b x y : List UInt8) (i j : Nat) (ha : a = List.replicate i 48 ++ x) (hb : b = List.replicate j 48 ++ y) (hx : High x) (hy : High y) :
    lessL a b = if x.length < y.length then true else if y.length < x.length then false else if Op.bytesLess x y = true then true else if x = y then decide (a.length < b.length) else false := by
  have la : a.length = i + x.length := by rw [ha, List.length_append, List.length_replicate]
  have lb : b.length = j + y.length := by rw [hb, List.length_append, List.length_replicate]
  unfold lessL
  rw [pad_strip _ a x i ha (by omega), pad_strip _ b y j hb (by omega)]
  by_cases h1 : x.length < y.length
  · rw [if_pos h1]
    exact ltF_short _ x y _ _ (by omega) h1 hy
  rw [if_neg h1]
  by_cases h2 : y.length < x.length
  · rw [if_pos h2]
    exact ltF_long _ x y _ _ (by omega) h2 hx
  rw [if_neg h2]
  have e : x.length = y.length := by omega
  rw [e, ltF_rep, ltF_lex _ x y e]
theorem num_less (a b : List UInt8) (ha : ∀ c ∈ a, 48 ≤ c.toNat) (hb : ∀ c ∈ b, 48 ≤ c.toNat) : numL a b = if lessL a b = true then -1 else if lessL b a = true then 1 else 0 := by
  have hh : ∀ l : List UInt8, (∀ c ∈ l, 48 ≤ c.toNat) → ∃ i, l = List.replicate i 48 ++ Lib.trimLeftB l 48 ∧ High (Lib.trimLeftB l 48) := by
    intro l hl
    obtain ⟨i, h1, h2⟩ := strip_split l
    refine ⟨i, h1, ?_⟩
    rcases h2 with h2 | ⟨c, r, h2, h3⟩
    · exact Or.inl h2
    · refine Or.inr ⟨c, r, h2, ?_⟩
      have h4 := hl c (by rw [h1, h2]; simp)
      have h5 : c.toNat ≠ 48 := fun h => h3 (UInt8.toNat_inj.1 h)
      omega
  obtain ⟨i, ha1, hx⟩ := hh a ha
  obtain ⟨j, hb1, hy⟩ := hh b hb
  rw [less_strip a b _ _ i j ha1 hb1 hx hy, less_strip b a _ _ j i hb1 ha1 hy hx]
  unfold numL orI cmpI lexI
  generalize Lib.trimLeftB a 48 = x
  generalize Lib.trimLeftB b 48 = y
  by_cases h1 : x.length < y.length
  · simp [h1]
  by_cases h2 : y.length < x.length
  · simp [h1, h2]
  by_cases h3 : Op.bytesLess x y = true
  · simp [h1, h2, h3]
  by_cases h4 : x = y
  · subst h4
    by_cases h5 : a.length < b.length
    · simp [h3, h5]
    · by_cases h6 : b.length < a.length
      · simp [h3, h5, h6]
      · simp [h3, h5, h6]
  · have := lex_tri x y (Bool.eq_false_iff.2 h3) h4
    simp [h1, h2, h3, h4, this]
end Go.Proofs.YtoinmpjjmkpamaaDoor.Pure

/- Words: what both texts say of them is one plain test. (Lines of the pure text of NameWords.) -/
import Derived.Test.YtjndcgochnaodaaPAx47
import Derived.Test.YtjndcgochnaodaaPAx5
namespace Go.Proofs.Ytjndcgochnaodaa.PA
open Go.RowKit Go.Proofs.YtjndcgochnaodaaW.PrintWords Go.Proofs.YtjndcgochnaodaaW.PrintLast Go.Proofs.YtjndcgochnaodaaW.PrintMore
def ltrB (c : Int) : Bool := decide (97 ≤ c ∧ c ≤ 122 ∨ 65 ≤ c ∧ c ≤ 90)
def digB (c : Int) : Bool := decide (48 ≤ c ∧ c ≤ 57)
def okc (c : Int) : Bool := decide ((97 ≤ c ∧ c ≤ 122 ∨ 65 ≤ c ∧ c ≤ 90) ∨ (48 ≤ c ∧ c ≤ 57) ∨ c = 45 ∨ c = 95)
theorem letter_eq (c : Int) : name_letter.f c = some (ltrB c) := by
  unfold name_letter.f ltrB
  repeat' split
  all_goals first
    | exact congrArg some (decide_eq_true (by omega)).symm
    | exact congrArg some (decide_eq_false (by omega)).symm
    | exact congrArg some (decide_eq_decide.2 (by omega))
theorem rletter_eq (c : Int) : colloquyref02_Letter.f c = some (ltrB c) := letter_eq c
theorem digit_eq (c : Int) : name_digit.f c = some (digB c) := by
  unfold name_digit.f digB
  repeat' split
  all_goals first
    | exact congrArg some (decide_eq_true (by omega)).symm
    | exact congrArg some (decide_eq_false (by omega)).symm
    | exact congrArg some (decide_eq_decide.2 (by omega))
theorem rdigit_eq (c : Int) : colloquyref02_Digit.f c = some (digB c) := digit_eq c
/-- So many bytes from a place on are of a word. -/
def allF (s : ByteArray) : Nat → Nat → Bool
  | 0, _ => true
  | d + 1, n => okc (bt s n) && allF s d (n + 1)
theorem allF_at (s : ByteArray) : ∀ (d n i : Nat), allF s d n = true → n ≤ i → i < n + d → okc (bt s i) = true := by
  intro d
  induction d with
  | zero => intro n i _ h1 h2; omega
  | succ d ih =>
    intro n i h h1 h2
    simp only [allF, Bool.and_eq_true] at h
    by_cases e : i = n
    · rw [e]; exact h.1
    · exact ih (n + 1) i h.2 (by omega) (by omega)
theorem word_l (s : ByteArray) (hm : s.size ≤ 281474976710656) : ∀ (d n : Nat), n ≤ s.size → d = s.size - n → Ev (fun k => name_Word.l0 k s (s.size : Int) n) (allF s d n) := by
  intro d
  induction d with
  | zero =>
    intro n hn hd
    refine Ev.step (f := fun _ => some true) (fun k => ?_) (Ev.now _)
    simp only [name_Word.l0]
    rw [if_neg (by omega)]
  | succ d ih =>
    intro n hn hd
    have e : wrap64 ((n : Int) + 1) = ((n + 1 : Nat) : Int) := by unfold wrap64; omega
    refine Ev.step (f := fun k => if okc (bt s n) = true then name_Word.l0 k s (s.size : Int) ((n + 1 : Nat) : Int) else some false) (fun k => ?_) ?_
    · simp only [name_Word.l0]
      rw [if_pos (by omega), if_pos (by omega), if_pos (by omega), letter_eq, digit_eq, e]
      simp only [Option.bind_some, ltrB, digB, okc, decide_eq_true_eq]
      generalize bt s n = c
      repeat' split
      all_goals first | rfl | (exfalso; omega)
    · simp only [allF]
      by_cases h : okc (bt s n) = true
      · refine Ev.congr (fun k => if_pos h) ?_
        rw [h, Bool.true_and]
        exact ih (n + 1) (by omega) (by omega)
      · refine Ev.congr (fun k => if_neg h) ?_
        rw [Bool.eq_false_iff.2 h, Bool.false_and]
        exact Ev.now _
theorem rword_l (s : ByteArray) (hm : s.size ≤ 281474976710656) : ∀ (d n : Nat), 1 ≤ n → n ≤ s.size → d = s.size - n → Ev (fun k => colloquyref02_Word.l0 k s n) (allF s d n && decide (s.size ≤ 40)) := by
  intro d
  induction d with
  | zero =>
    intro n h1 hn hd
    refine Ev.step (f := fun _ => some (allF s 0 n && decide (s.size ≤ 40))) (fun k => ?_) (Ev.now _)
    simp only [colloquyref02_Word.l0]
    rw [if_neg (by omega), if_pos (by omega)]
    simp only [allF, Bool.true_and]
    exact congrArg some (decide_eq_decide.2 (by omega))
  | succ d ih =>
    intro n h1 hn hd
    have e : wrap64 ((n : Int) + 1) = ((n + 1 : Nat) : Int) := by unfold wrap64; omega
    refine Ev.step (f := fun k => if okc (bt s n) = true then colloquyref02_Word.l0 k s ((n + 1 : Nat) : Int) else some false) (fun k => ?_) ?_
    · have hn0 : ¬ ((n : Int) = 0) := by omega
      simp only [colloquyref02_Word.l0]
      rw [if_pos (by omega), if_pos (by omega), rletter_eq, rdigit_eq, e, if_neg hn0]
      simp only [Option.bind_some, ltrB, digB, okc, decide_eq_true_eq]
      generalize bt s n = c
      repeat' split
      all_goals first | rfl | (exfalso; omega)
    · simp only [allF]
      by_cases h : okc (bt s n) = true
      · refine Ev.congr (fun k => if_pos h) ?_
        rw [h, Bool.true_and]
        exact ih (n + 1) (by omega) (by omega) (by omega)
      · refine Ev.congr (fun k => if_neg h) ?_
        rw [Bool.eq_false_iff.2 h, Bool.false_and, Bool.false_and]
        exact Ev.now _
/-- Is a text a word? -/
def wordB (s : ByteArray) : Bool := decide (1 ≤ s.size ∧ s.size ≤ 40) && ltrB (bt s 0) && allF s s.size 0
theorem word_j (s : ByteArray) (hm : s.size ≤ 281474976710656) (b : Bool) : Ev (fun k => name_Word.j0 k s b) (!b && allF s s.size 0) := by
  refine Ev.step (f := fun k => if b = true then some false else name_Word.l0 k s (s.size : Int) 0) (fun k => ?_) ?_
  · simp only [name_Word.j0]
  · cases b with
    | true => exact Ev.congr (fun k => if_pos rfl) (Ev.now _)
    | false =>
      refine Ev.congr (fun k => if_neg (by simp)) ?_
      have := word_l s hm s.size 0 (by omega) (by omega)
      simpa using this
theorem word_ev (s : ByteArray) (hm : s.size ≤ 281474976710656) : Ev (fun k => name_Word.f k s) (wordB s) := by
  unfold name_Word.f wordB
  by_cases h1 : (s.size : Int) < 1
  · refine Ev.congr (fun k => if_pos h1) ?_
    rw [decide_eq_false (by omega), Bool.false_and, Bool.false_and]
    exact word_j s hm true
  refine Ev.congr (fun k => if_neg h1) ?_
  by_cases h2 : (s.size : Int) > 40
  · refine Ev.congr (fun k => if_pos h2) ?_
    rw [decide_eq_false (by omega), Bool.false_and, Bool.false_and]
    exact word_j s hm true
  refine Ev.congr (fun k => if_neg h2) ?_
  refine Ev.congr (fun k => if_pos (by omega)) ?_
  rw [letter_eq]
  simp only [Option.bind_some]
  rw [decide_eq_true (by omega), Bool.true_and]
  have := word_j s hm (!ltrB (bt s 0))
  rwa [Bool.not_not] at this
theorem rword_ev (s : ByteArray) (hm : s.size ≤ 281474976710656) : Ev (fun k => colloquyref02_Word.f k s) (wordB s) := by
  unfold colloquyref02_Word.f wordB
  by_cases h0 : s.size = 0
  · refine Ev.step (f := fun _ => some false) (fun k => ?_) ?_
    · simp only [colloquyref02_Word.l0]
      rw [if_neg (by omega), if_neg (by omega)]
    · rw [decide_eq_false (by omega), Bool.false_and, Bool.false_and]
      exact Ev.now _
  refine Ev.step (f := fun k => if ltrB (bt s 0) = true then colloquyref02_Word.l0 k s ((1 : Nat) : Int) else some false) (fun k => ?_) ?_
  · simp only [colloquyref02_Word.l0]
    rw [if_pos (by omega), if_pos (by omega), rletter_eq]
    simp only [Option.bind_some, if_true]
    rw [show wrap64 (0 + 1) = ((1 : Nat) : Int) by unfold wrap64; omega]
  · by_cases h : ltrB (bt s 0) = true
    · refine Ev.congr (fun k => if_pos h) ?_
      have hk : okc (bt s 0) = true := by
        have := of_decide_eq_true h
        exact decide_eq_true (by omega)
      have hx := rword_l s hm (s.size - 1) 1 (by omega) (by omega) rfl
      have ha : allF s s.size 0 = allF s (s.size - 1) 1 := by
        obtain ⟨m, hmm⟩ : ∃ m, s.size = m + 1 := ⟨s.size - 1, by omega⟩
        rw [hmm]
        show (okc (bt s ((0 : Nat) : Int)) && allF s m 1) = allF s m 1
        rw [show ((0 : Nat) : Int) = 0 from rfl, hk, Bool.true_and]
      rw [h, Bool.and_true, ha, Bool.and_comm]
      have hd : decide (1 ≤ s.size ∧ s.size ≤ 40) = decide (s.size ≤ 40) := decide_eq_decide.2 (by omega)
      rw [hd]
      exact hx
    · refine Ev.congr (fun k => if_neg h) ?_
      rw [Bool.eq_false_iff.2 h, Bool.and_false, Bool.false_and]
      exact Ev.now _
end Go.Proofs.Ytjndcgochnaodaa.PA

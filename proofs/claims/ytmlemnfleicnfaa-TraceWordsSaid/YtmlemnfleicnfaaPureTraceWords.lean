/- Every verdict has the word, and every text the verdict, that is said. -/
import Derived.Test.YtmlemnfleicnfaaPAx14
namespace Go.Proofs.Ytmlemnfleicnfaa.Pure
open Go.RowKit Go.Proofs.Ytmlemnfleicnfaa.PA Go.Proofs.YtmlemnfleicnfaaW.PrintWords Go.Proofs.YtmlemnfleicnfaaW.PrintLast Go.Proofs.YtmlemnfleicnfaaW.PrintMore

/-- Where a text stands first in a list. -/
def idx (l : List UInt8) : List ByteArray → Nat → Int
  | [], _ => -1
  | x :: xs, n => if l = x.toList then (n : Int) else idx l xs (n + 1)
theorem rdOf_drop (xs : List ByteArray) (n : Nat) (h : n < xs.length) : xs.drop n = rdOf ByteArray.empty xs n :: xs.drop (n + 1) := by
  rw [List.drop_eq_getElem_cons h]
  unfold rdOf
  rw [Int.toNat_natCast, List.getD_eq_getElem?_getD, List.getElem?_eq_getElem h]
  rfl
theorem index_ev (xs : List ByteArray) (s : ByteArray) (hm : xs.length ≤ 1000) : ∀ (d n : Nat), n ≤ xs.length → d = xs.length - n →
    Ev (fun k => slices_Index_string_string.l0 k xs s xs.length n) (idx s.toList (xs.drop n) n) := by
  intro d
  induction d with
  | zero =>
    intro n hn hd
    rw [List.drop_of_length_le (by omega)]
    refine Ev.step (f := fun _ => some (-1)) (fun k => ?_) (Ev.now _)
    simp only [slices_Index_string_string.l0]
    rw [if_neg (by omega)]
  | succ d ih =>
    intro n hn hd
    have hlt : n < xs.length := by omega
    rw [rdOf_drop xs n hlt]
    unfold idx
    by_cases h : s.toList = (rdOf ByteArray.empty xs n).toList
    · rw [if_pos h]
      refine Ev.step (f := fun _ => some (n : Int)) (fun k => ?_) (Ev.now _)
      simp only [slices_Index_string_string.l0]
      rw [if_pos (by omega), if_pos (by omega), if_pos (by omega), if_pos h]
    · rw [if_neg h]
      refine Ev.step (f := fun k => slices_Index_string_string.l0 k xs s xs.length ((n + 1 : Nat) : Int)) (fun k => ?_) (ih (n + 1) (by omega) (by omega))
      simp only [slices_Index_string_string.l0]
      have e : wrap64 ((n : Int) + 1) = ((n + 1 : Nat) : Int) := by unfold wrap64; omega
      rw [if_pos (by omega), if_pos (by omega), if_pos (by omega), if_neg h, e]
def parseOf (l : List UInt8) : Int := mx (idx l wordsL 0) 0
theorem parse_ev (s : ByteArray) : Ev (fun k => trace_Parse.f k s) (parseOf s.toList) := by
  unfold trace_Parse.f
  have := index_ev wordsL s (by decide) 8 0 (by decide) (by decide)
  exact Ev.bind (g := fun k => slices_Index_string_string.f k wordsL s) this (Ev.now _)
def wordAt (n : Nat) : List UInt8 := (wordsL.getD n ⟨#[]⟩).toList
theorem words_lists : wordsL.map ByteArray.toList = [[], [80, 65, 83, 83], [70, 65, 73, 76], [88, 80, 65, 83, 83], [88, 70, 65, 73, 76], [85, 78, 82, 69, 83, 79, 76, 86, 69, 68], [85, 78, 84, 69, 83, 84, 69, 68], [85, 78, 83, 85, 80, 80, 79, 82, 84, 69, 68]] := by decide +kernel
def idxL (l : List UInt8) : List (List UInt8) → Nat → Int
  | [], _ => -1
  | x :: xs, n => if l = x then (n : Int) else idxL l xs (n + 1)
theorem idx_map (l : List UInt8) : ∀ (xs : List ByteArray) (n : Nat), idx l xs n = idxL l (xs.map ByteArray.toList) n := by
  intro xs
  induction xs with
  | nil => intro n; rfl
  | cons x xs ih => intro n; simp only [idx, idxL, List.map_cons, ih]
theorem parse_eq (l : List UInt8) : parseOf l = if l = [80, 65, 83, 83] then 1 else if l = [70, 65, 73, 76] then 2 else if l = [88, 80, 65, 83, 83] then 3 else if l = [88, 70, 65, 73, 76] then 4
    else if l = [85, 78, 82, 69, 83, 79, 76, 86, 69, 68] then 5 else if l = [85, 78, 84, 69, 83, 84, 69, 68] then 6 else if l = [85, 78, 83, 85, 80, 80, 79, 82, 84, 69, 68] then 7 else 0 := by
  unfold parseOf
  rw [idx_map, words_lists]
  simp only [idxL]
  by_cases h0 : l = []
  · subst h0; decide
  rw [if_neg h0]
  repeat' split
  all_goals rfl
theorem parse_range (l : List UInt8) : 0 ≤ parseOf l ∧ parseOf l ≤ 7 := by
  rw [parse_eq]
  repeat' split
  all_goals decide
theorem wordAt_get (n : Nat) (h1 : 1 ≤ n) (h7 : n ≤ 7) : wordAt n = (wordsL.map ByteArray.toList).getD n [] := by
  have h8 : n = 1 ∨ n = 2 ∨ n = 3 ∨ n = 4 ∨ n = 5 ∨ n = 6 ∨ n = 7 := by omega
  rcases h8 with rfl | rfl | rfl | rfl | rfl | rfl | rfl <;> rfl
theorem word_parse (l : List UInt8) (n : Nat) (h1 : 1 ≤ n) (h7 : n ≤ 7) : (wordAt n == l) = (parseOf l == (n : Int)) := by
  rw [wordAt_get n h1 h7, words_lists, parse_eq, Bool.eq_iff_iff, beq_iff_eq, beq_iff_eq]
  have h8 : n = 1 ∨ n = 2 ∨ n = 3 ∨ n = 4 ∨ n = 5 ∨ n = 6 ∨ n = 7 := by omega
  constructor
  · intro h
    subst h
    rcases h8 with rfl | rfl | rfl | rfl | rfl | rfl | rfl <;> decide
  · intro h
    rcases h8 with rfl | rfl | rfl | rfl | rfl | rfl | rfl
    all_goals
      split at h
      · rename_i e
        first | exact e.symm | exact absurd h (by decide)
      split at h
      · rename_i e
        first | exact e.symm | exact absurd h (by decide)
      split at h
      · rename_i e
        first | exact e.symm | exact absurd h (by decide)
      split at h
      · rename_i e
        first | exact e.symm | exact absurd h (by decide)
      split at h
      · rename_i e
        first | exact e.symm | exact absurd h (by decide)
      split at h
      · rename_i e
        first | exact e.symm | exact absurd h (by decide)
      split at h
      · rename_i e
        first | exact e.symm | exact absurd h (by decide)
      exact absurd h (by decide)
theorem rtext_eq (n : Nat) (h1 : 1 ≤ n) (h7 : n ≤ 7) : colloquyref18_Text.f (n : Int) = some (wordsL.getD n ⟨#[]⟩) := by
  have h8 : n = 1 ∨ n = 2 ∨ n = 3 ∨ n = 4 ∨ n = 5 ∨ n = 6 ∨ n = 7 := by omega
  rcases h8 with rfl | rfl | rfl | rfl | rfl | rfl | rfl <;> rfl
theorem texts_same (v : Int) : trace_Text.f v = colloquyref18_Text.f v := by
  unfold trace_Text.f
  by_cases h : v < 0 ∨ 7 < v
  · rw [if_pos h]
    unfold colloquyref18_Text.f
    rw [if_neg (by omega), if_neg (by omega), if_neg (by omega), if_neg (by omega), if_neg (by omega), if_neg (by omega), if_neg (by omega)]
  · rw [if_neg h]
    obtain ⟨n, rfl⟩ := Int.eq_ofNat_of_zero_le (show 0 ≤ v by omega)
    rw [Int.toNat_natCast]
    by_cases h0 : n = 0
    · subst h0; rfl
    · exact (rtext_eq n (by omega) (by omega)).symm
theorem words_ev : Ev (fun k => colloquylaw18_words.f k) true := by
  have h : colloquylaw18_words.f 40 = some true := by decide +kernel
  exact ⟨40, fun k hk => at_rounds colloquylaw18_words.mono hk h⟩
theorem words_l (s : ByteArray) : ∀ (d n : Nat), 1 ≤ n → n ≤ 8 → d = 8 - n → Ev (fun k => colloquylaw18_TraceWords.l0 k s (parseOf s.toList) n) true := by
  obtain ⟨r0, r7⟩ := parse_range s.toList
  intro d
  induction d with
  | zero =>
    intro n h1 h8 hd
    refine Ev.step (f := fun _ => some true) (fun k => ?_) (Ev.now _)
    simp only [colloquylaw18_TraceWords.l0]
    rw [if_neg (by omega), if_pos (by omega), decide_eq_true r7]
  | succ d ih =>
    intro n h1 h8 hd
    have hw := word_parse s.toList n h1 (by omega)
    have hself := word_parse (wordAt n) n h1 (by omega)
    rw [beq_self_eq_true] at hself
    refine Ev.step (f := fun k => (trace_Parse.f k (wordsL.getD n ⟨#[]⟩)).bind fun t => if t = (n : Int) then colloquylaw18_TraceWords.l0 k s (parseOf s.toList) ((n + 1 : Nat) : Int) else some false) (fun k => ?_) ?_
    · simp only [colloquylaw18_TraceWords.l0]
      have e : wrap64 ((n : Int) + 1) = ((n + 1 : Nat) : Int) := by unfold wrap64; omega
      rw [if_pos (by omega), rtext_eq n h1 (by omega), Option.bind_some, if_neg, texts_same, rtext_eq n h1 (by omega), Option.bind_some, e]
      show ¬ (((wordAt n == s.toList) != (parseOf s.toList == (n : Int))) = true)
      rw [hw]
      simp
    · refine Ev.bind (parse_ev _) (Ev.congr (fun k => if_pos ?_) (ih (n + 1) (by omega) (by omega) (by omega)))
      exact (beq_iff_eq.1 hself.symm)
theorem TraceWords : colloquylaw18_TraceWords.Pure := by
  intro v s _ _
  refine Ev.rounds ?_
  unfold colloquylaw18_TraceWords.f
  refine Ev.bind words_ev (Ev.congr (fun k => if_pos rfl) ?_)
  rw [texts_same]
  obtain ⟨t, ht⟩ : ∃ t, colloquyref18_Text.f v = some t := by
    rw [← texts_same]
    exact ⟨_, rfl⟩
  rw [ht]
  simp only [Option.bind_some]
  refine Ev.step (f := fun k => (trace_Parse.f k s).bind fun t => colloquylaw18_TraceWords.l0 k s t 1) (fun k => ?_) (Ev.bind (parse_ev s) (words_l s 7 1 (by omega) (by omega) (by omega)))
  simp only [colloquylaw18_TraceWords.j0]
  rw [if_neg (by simp)]
end Go.Proofs.Ytmlemnfleicnfaa.Pure

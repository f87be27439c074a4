/- Several texts of this seat in one (HWordB HCondF HCondR HCondH): put together by a program of this session. -/
import Derived.Test.YtjndcgochnaodaaPAx47
import Derived.Test.YtjndcgochnaodaaPAx5
import Derived.Test.YtjndcgochnaodaaGMix1
import Derived.Test.YtjndcgochnaodaaPAx48
namespace Go.Proofs.Ytjndcgochnaodaa.PA
open Go.RowKit Go.Proofs.YtjndcgochnaodaaW.PrintWords Go.Proofs.YtjndcgochnaodaaW.PrintLast Go.Proofs.YtjndcgochnaodaaW.PrintMore
def ltrB (c : Int) : Bool := decide (97 ≤ c ∧ c ≤ 122 ∨ 65 ≤ c ∧ c ≤ 90)
def digB (c : Int) : Bool := decide (48 ≤ c ∧ c ≤ 57)
def okc (c : Int) : Bool := decide ((97 ≤ c ∧ c ≤ 122 ∨ 65 ≤ c ∧ c ≤ 90) ∨ (48 ≤ c ∧ c ≤ 57) ∨ c = 45 ∨ c = 95)
theorem letter_eq (c : Int) : name_letter.f c = some (ltrB c) := by
  unfold name_letter.f ltrB
  repeat' split
  all_goals first
    | exact congrArg some (decide_eq_true (by omega)).symm
    | exact congrArg some (decide_eq_false (by omega)).symm
    | exact congrArg some (decide_eq_decide.2 (by omega))
theorem rletter_eq (c : Int) : colloquyref02_Letter.f c = some (ltrB c) := letter_eq c
theorem digit_eq (c : Int) : name_digit.f c = some (digB c) := by
  unfold name_digit.f digB
  repeat' split
  all_goals first
    | exact congrArg some (decide_eq_true (by omega)).symm
    | exact congrArg some (decide_eq_false (by omega)).symm
    | exact congrArg some (decide_eq_decide.2 (by omega))
theorem rdigit_eq (c : Int) : colloquyref02_Digit.f c = some (digB c) := digit_eq c
/-- So many bytes from a place on are of a word. -/
def allF (s : ByteArray) : Nat → Nat → Bool
  | 0, _ => true
  | d + 1, n => okc (bt s n) && allF s d (n + 1)
theorem allF_at (s : ByteArray) : ∀ (d n i : Nat), allF s d n = true → n ≤ i → i < n + d → okc (bt s i) = true := by
  intro d
  induction d with
  | zero => intro n i _ h1 h2; omega
  | succ d ih =>
    intro n i h h1 h2
    simp only [allF, Bool.and_eq_true] at h
    by_cases e : i = n
    · rw [e]; exact h.1
    · exact ih (n + 1) i h.2 (by omega) (by omega)
theorem word_l (s : ByteArray) (hm : s.size ≤ 281474976710656) : ∀ (d n : Nat), n ≤ s.size → d = s.size - n → Ev (fun k => name_Word.l0 k s (s.size : Int) n) (allF s d n) := by
  intro d
  induction d with
  | zero =>
    intro n hn hd
    refine Ev.step (f := fun _ => some true) (fun k => ?_) (Ev.now _)
    simp only [name_Word.l0]
    rw [if_neg (by omega)]
  | succ d ih =>
    intro n hn hd
    have e : wrap64 ((n : Int) + 1) = ((n + 1 : Nat) : Int) := by unfold wrap64; omega
    refine Ev.step (f := fun k => if okc (bt s n) = true then name_Word.l0 k s (s.size : Int) ((n + 1 : Nat) : Int) else some false) (fun k => ?_) ?_
    · simp only [name_Word.l0]
      rw [if_pos (by omega), if_pos (by omega), if_pos (by omega), letter_eq, digit_eq, e]
      simp only [Option.bind_some, ltrB, digB, okc, decide_eq_true_eq]
      generalize bt s n = c
      repeat' split
      all_goals first | rfl | (exfalso; omega)
    · simp only [allF]
      by_cases h : okc (bt s n) = true
      · refine Ev.congr (fun k => if_pos h) ?_
        rw [h, Bool.true_and]
        exact ih (n + 1) (by omega) (by omega)
      · refine Ev.congr (fun k => if_neg h) ?_
        rw [Bool.eq_false_iff.2 h, Bool.false_and]
        exact Ev.now _
theorem rword_l (s : ByteArray) (hm : s.size ≤ 281474976710656) : ∀ (d n : Nat), 1 ≤ n → n ≤ s.size → d = s.size - n → Ev (fun k => colloquyref02_Word.l0 k s n) (allF s d n && decide (s.size ≤ 40)) := by
  intro d
  induction d with
  | zero =>
    intro n h1 hn hd
    refine Ev.step (f := fun _ => some (allF s 0 n && decide (s.size ≤ 40))) (fun k => ?_) (Ev.now _)
    simp only [colloquyref02_Word.l0]
    rw [if_neg (by omega), if_pos (by omega)]
    simp only [allF, Bool.true_and]
    exact congrArg some (decide_eq_decide.2 (by omega))
  | succ d ih =>
    intro n h1 hn hd
    have e : wrap64 ((n : Int) + 1) = ((n + 1 : Nat) : Int) := by unfold wrap64; omega
    refine Ev.step (f := fun k => if okc (bt s n) = true then colloquyref02_Word.l0 k s ((n + 1 : Nat) : Int) else some false) (fun k => ?_) ?_
    · have hn0 : ¬ ((n : Int) = 0) := by omega
      simp only [colloquyref02_Word.l0]
      rw [if_pos (by omega), if_pos (by omega), rletter_eq, rdigit_eq, e, if_neg hn0]
      simp only [Option.bind_some, ltrB, digB, okc, decide_eq_true_eq]
      generalize bt s n = c
      repeat' split
      all_goals first | rfl | (exfalso; omega)
    · simp only [allF]
      by_cases h : okc (bt s n) = true
      · refine Ev.congr (fun k => if_pos h) ?_
        rw [h, Bool.true_and]
        exact ih (n + 1) (by omega) (by omega) (by omega)
      · refine Ev.congr (fun k => if_neg h) ?_
        rw [Bool.eq_false_iff.2 h, Bool.false_and, Bool.false_and]
        exact Ev.now _
/-- Is a text a word? -/
def wordB (s : ByteArray) : Bool := decide (1 ≤ s.size ∧ s.size ≤ 40) && ltrB (bt s 0) && allF s s.size 0
theorem word_j (s : ByteArray) (hm : s.size ≤ 281474976710656) (b : Bool) : Ev (fun k => name_Word.j0 k s b) (!b && allF s s.size 0) := by
  refine Ev.step (f := fun k => if b = true then some false else name_Word.l0 k s (s.size : Int) 0) (fun k => ?_) ?_
  · simp only [name_Word.j0]
  · cases b with
    | true => exact Ev.congr (fun k => if_pos rfl) (Ev.now _)
    | false =>
      refine Ev.congr (fun k => if_neg (by simp)) ?_
      have := word_l s hm s.size 0 (by omega) (by omega)
      simpa using this
theorem word_ev (s : ByteArray) (hm : s.size ≤ 281474976710656) : Ev (fun k => name_Word.f k s) (wordB s) := by
  unfold name_Word.f wordB
  by_cases h1 : (s.size : Int) < 1
  · refine Ev.congr (fun k => if_pos h1) ?_
    rw [decide_eq_false (by omega), Bool.false_and, Bool.false_and]
    exact word_j s hm true
  refine Ev.congr (fun k => if_neg h1) ?_
  by_cases h2 : (s.size : Int) > 40
  · refine Ev.congr (fun k => if_pos h2) ?_
    rw [decide_eq_false (by omega), Bool.false_and, Bool.false_and]
    exact word_j s hm true
  refine Ev.congr (fun k => if_neg h2) ?_
  refine Ev.congr (fun k => if_pos (by omega)) ?_
  rw [letter_eq]
  simp only [Option.bind_some]
  rw [decide_eq_true (by omega), Bool.true_and]
  have := word_j s hm (!ltrB (bt s 0))
  rwa [Bool.not_not] at this
theorem rword_ev (s : ByteArray) (hm : s.size ≤ 281474976710656) : Ev (fun k => colloquyref02_Word.f k s) (wordB s) := by
  unfold colloquyref02_Word.f wordB
  by_cases h0 : s.size = 0
  · refine Ev.step (f := fun _ => some false) (fun k => ?_) ?_
    · simp only [colloquyref02_Word.l0]
      rw [if_neg (by omega), if_neg (by omega)]
    · rw [decide_eq_false (by omega), Bool.false_and, Bool.false_and]
      exact Ev.now _
  refine Ev.step (f := fun k => if ltrB (bt s 0) = true then colloquyref02_Word.l0 k s ((1 : Nat) : Int) else some false) (fun k => ?_) ?_
  · simp only [colloquyref02_Word.l0]
    rw [if_pos (by omega), if_pos (by omega), rletter_eq]
    simp only [Option.bind_some, if_true]
    rw [show wrap64 (0 + 1) = ((1 : Nat) : Int) by unfold wrap64; omega]
  · by_cases h : ltrB (bt s 0) = true
    · refine Ev.congr (fun k => if_pos h) ?_
      have hk : okc (bt s 0) = true := by
        have := of_decide_eq_true h
        exact decide_eq_true (by omega)
      have hx := rword_l s hm (s.size - 1) 1 (by omega) (by omega) rfl
      have ha : allF s s.size 0 = allF s (s.size - 1) 1 := by
        obtain ⟨m, hmm⟩ : ∃ m, s.size = m + 1 := ⟨s.size - 1, by omega⟩
        rw [hmm]
        show (okc (bt s ((0 : Nat) : Int)) && allF s m 1) = allF s m 1
        rw [show ((0 : Nat) : Int) = 0 from rfl, hk, Bool.true_and]
      rw [h, Bool.and_true, ha, Bool.and_comm]
      have hd : decide (1 ≤ s.size ∧ s.size ≤ 40) = decide (s.size ≤ 40) := decide_eq_decide.2 (by omega)
      rw [hd]
      exact hx
    · refine Ev.congr (fun k => if_neg h) ?_
      rw [Bool.eq_false_iff.2 h, Bool.and_false, Bool.false_and]
      exact Ev.now _
end Go.Proofs.Ytjndcgochnaodaa.PA

/- Conditions of one property: right, and holding, in plain words. -/
namespace Go.Proofs.Ytjndcgochnaodaa.PA
open Go.RowKit Go.Proofs.YtjndcgochnaodaaW.PrintWords Go.Proofs.YtjndcgochnaodaaW.PrintLast Go.Proofs.YtjndcgochnaodaaW.PrintMore
set_option linter.unusedVariables false
theorem fi_right {n : Nat} {nm : ByteArray} (h : ∀ k, n ≤ k → name_Word.f k nm = some (wordB nm)) (kd : Int) (hk : kd = 1 ∨ kd = 2) (a : ByteArray) : cond_Right.f (n + 6) kd nm a [] = some (wordB nm) := by
  have e : ∀ x7 : Bool, cond_right.j1 (n + 4) x7 kd nm a [] = some (wordB nm) := by
    intro x7
    rcases hk with rfl | rfl <;> simp only [cond_right.j1, cond_right.j2, if_true, beq_self_eq_true, show ¬ (2 : Int) = 1 by decide, if_false]
    all_goals
      rw [h (n + 2) (by omega)]
      cases wordB nm <;> rfl
  unfold cond_Right.f
  simp only [cond_right.f, cond_right.l0]
  rw [if_neg (by decide), if_neg (by decide)]
  split <;> rw [e] <;> rfl
theorem fi_is {n : Nat} {nm : ByteArray} (h : ∀ k, n ≤ k → name_Word.f k nm = some (wordB nm)) (a b : ByteArray) (ps : List S36) : cond_Holds.f (n + 6) 1 nm a [] b ps = some (wordB nm && hasB ps nm a) := by
  unfold cond_Holds.f
  rw [fi_right h 1 (.inl rfl) a, Option.bind_some]
  cases wordB nm
  · rfl
  · rfl
theorem fi_isnt {n : Nat} {nm : ByteArray} (h : ∀ k, n ≤ k → name_Word.f k nm = some (wordB nm)) (a b : ByteArray) (ps : List S36) : cond_Holds.f (n + 6) 2 nm a [] b ps = some (wordB nm && !hasB ps nm a) := by
  unfold cond_Holds.f
  rw [fi_right h 2 (.inr rfl) a, Option.bind_some]
  cases wordB nm
  · rfl
  · rfl
theorem has_first (nm a : ByteArray) (v : ByteArray) (ps : List S36) : hasB (⟨nm, v⟩ :: ps) nm a = (v.toList == a.toList) := by
  have e : idxI (nameIs nm) (⟨nm, v⟩ :: ps) = 0 := by
    unfold idxI
    rw [if_pos (by simp [nameIs])]
  unfold hasB
  rw [e]
  rfl
theorem has_none (nm a : ByteArray) : hasB [] nm a = false := by
  unfold hasB idxI
  rfl
end Go.Proofs.Ytjndcgochnaodaa.PA

/- Conditions: what both texts say of right conditions is one plain test; and of those that hold. -/
namespace Go.Proofs.Ytjndcgochnaodaa.PA
open Go.RowKit Go.Proofs.YtjndcgochnaodaaW.PrintWords Go.Proofs.YtjndcgochnaodaaW.PrintLast Go.Proofs.YtjndcgochnaodaaW.PrintMore
set_option linter.unusedVariables false
def bareB (nm vl : ByteArray) : Bool := (nm.toList == ([] : List UInt8)) && (vl.toList == ([] : List UInt8))
def shapeB (kd : Int) (nm vl : ByteArray) (kids : List S24) : Bool :=
  if kd = 1 ∨ kd = 2 then wordB nm && (kids.length == 0) else if kd = 3 then bareB nm vl && (kids.length == 1) else if kd = 4 ∨ kd = 5 then bareB nm vl && decide (2 ≤ kids.length) else false
def rightB : Nat → S24 → Bool
  | 0, _ => false
  | d + 1, x => x.f3.all (rightB d) && shapeB x.f0 x.f1 x.f2 x.f3
def smallN : Nat → S24 → Prop
  | 0, _ => True
  | n + 1, x => x.f1.size ≤ 281474976710656 ∧ x.f3.length ≤ 281474976710656 ∧ ∀ y ∈ x.f3, smallN n y
/-- How much a condition weighs, so many levels deep. -/
def wtN : Nat → S24 → Nat
  | 0, _ => 1
  | n + 1, x => (1 + ((x.f1.size + 1) + ((x.f2.size + 1) + ((x.f3.map (wtN n)).sum + 1)))) + 1
theorem wt_pos : ∀ (n : Nat) (x : S24), 1 ≤ wtN n x
  | 0, _ => Nat.le_refl _
  | n + 1, x => by unfold wtN; omega
theorem le_sum_mem {n : Nat} : ∀ {l : List Nat}, n ∈ l → n ≤ l.sum
  | [], h => by cases h
  | x :: xs, h => by
    rw [List.sum_cons]
    rcases List.mem_cons.1 h with rfl | h
    · omega
    · have := le_sum_mem h; omega
theorem smallN_le : ∀ (n : Nat) (x : S24), smallN (n + 1) x → smallN n x
  | 0, _, _ => trivial
  | n + 1, x, h => ⟨h.1, h.2.1, fun y hy => smallN_le n y (h.2.2 y hy)⟩
theorem sum_len {α : Type} {f : α → Nat} (h : ∀ x, 1 ≤ f x) : ∀ l : List α, l.length ≤ (l.map f).sum
  | [] => by simp
  | x :: xs => by
    have := sum_len h xs
    have := h x
    rw [List.map_cons, List.sum_cons, List.length_cons]
    omega
theorem small_wt : ∀ (n : Nat) (x : S24), wtN n x ≤ 281474976710656 → smallN n x
  | 0, _, _ => trivial
  | n + 1, x, h => by
    unfold wtN at h
    have h1 := sum_len (wt_pos n) x.f3
    refine ⟨by omega, by omega, fun y hy => small_wt n y ?_⟩
    have := le_sum_mem (List.mem_map.2 ⟨y, hy, rfl⟩ : wtN n y ∈ x.f3.map (wtN n))
    omega
theorem Ev.is {α : Type} {f : Nat → Option α} {r : α} (h : ∀ k, f k = some r) : Ev f r := ⟨0, fun k _ => h k⟩
theorem j2_ev (nm vl : ByteArray) (kids : List S24) (kd : Int) (x7 x33 : Bool) (hs : nm.size ≤ 281474976710656) : Ev (fun k => cond_right.j2 k x7 kd x33 kd nm vl kids)
    (if x33 = true then wordB nm && (kids.length == 0) else if kd = 3 then x7 && (kids.length == 1) else if kd = 4 ∨ kd = 5 then x7 && decide (2 ≤ kids.length) else false) := by
  have e0 : ((kids.length : Int) == 0) = (kids.length == 0) := by rw [Bool.eq_iff_iff]; simp
  have e1 : ((kids.length : Int) == 1) = (kids.length == 1) := by rw [Bool.eq_iff_iff]; simp; omega
  have e2 : decide ((kids.length : Int) ≥ 2) = decide (2 ≤ kids.length) := decide_eq_decide.2 (by omega)
  cases x33 with
  | true =>
    refine Ev.step (f := fun k => (name_Word.f k nm).bind fun t => if t = true then some ((kids.length : Int) == 0) else some false) (fun k => by simp only [cond_right.j2, if_true]) ?_
    refine Ev.bind (word_ev nm hs) (Ev.is fun k => ?_)
    rw [if_pos rfl, e0]
    cases wordB nm <;> rfl
  | false =>
    refine Ev.step (f := fun _ => some (if kd = 3 then x7 && (kids.length == 1) else if kd = 4 ∨ kd = 5 then x7 && decide (2 ≤ kids.length) else false)) (fun k => ?_) (Ev.is fun k => by rw [if_neg Bool.false_ne_true])
    simp only [cond_right.j2, e1, e2, Bool.false_eq_true, if_false]
    by_cases h3 : kd = 3
    · rw [if_pos h3, if_pos h3]; cases x7 <;> rfl
    · rw [if_neg h3, if_neg h3]
      by_cases h4 : kd = 4
      · cases x7 <;> simp [h4]
      · rw [if_neg h4]
        by_cases h5 : kd = 5
        · cases x7 <;> simp [h5]
        · rw [if_neg h5, if_neg (by omega)]
theorem shape_ev (nm vl : ByteArray) (kids : List S24) (kd : Int) (hs : nm.size ≤ 281474976710656) : Ev (fun k => cond_right.j1 k (bareB nm vl) kd nm vl kids) (shapeB kd nm vl kids) := by
  unfold shapeB
  by_cases h1 : kd = 1
  · refine Ev.step (f := fun k => cond_right.j2 k (bareB nm vl) kd true kd nm vl kids) (fun k => by simp only [cond_right.j1, if_pos h1]; rw [show (kd == 1) = true by simp [h1]]) ?_
    rw [if_pos (.inl h1)]
    simpa using j2_ev nm vl kids kd (bareB nm vl) true hs
  · refine Ev.step (f := fun k => cond_right.j2 k (bareB nm vl) kd (kd == 2) kd nm vl kids) (fun k => by simp only [cond_right.j1, if_neg h1]) ?_
    have h := j2_ev nm vl kids kd (bareB nm vl) (kd == 2) hs
    by_cases h2 : kd = 2
    · rw [if_pos (.inr h2)]
      rwa [if_pos (by simp [h2])] at h
    · rw [if_neg (by omega)]
      rwa [if_neg (by simp [h2])] at h
theorem all_drop {α : Type} (p : α → Bool) (l : List α) (i : Nat) (z : α) (h : i < l.length) : (l.drop i).all p = (p (l.getD i z) && (l.drop (i + 1)).all p) := by
  rw [List.drop_eq_getElem_cons h, List.all_cons, List.getD_eq_getElem?_getD, List.getElem?_eq_getElem h]
  rfl
theorem rl_ev (nm vl : ByteArray) (kids : List S24) (kd : Int) (hs : nm.size ≤ 281474976710656) (hl : kids.length ≤ 281474976710656) (d : Nat) (hd : d ≤ 100) (IH : ∀ y ∈ kids, Ev (fun k => cond_right.f k y.f0 y.f1 y.f2 y.f3 (d : Int)) (rightB d y)) :
    ∀ m i : Nat, i ≤ kids.length → m = kids.length - i → Ev (fun k => cond_right.l0 k ((d + 1 : Nat) : Int) kids (kids.length : Int) i kd nm vl kids) ((kids.drop i).all (rightB d) && shapeB kd nm vl kids) := by
  intro m
  induction m with
  | zero =>
    intro i hi hm
    rw [List.drop_of_length_le (by omega), List.all_nil, Bool.true_and]
    refine Ev.step (f := fun k => cond_right.j1 k (bareB nm vl) kd nm vl kids) (fun k => ?_) (shape_ev nm vl kids kd hs)
    simp only [cond_right.l0]
    rw [if_neg (by omega)]
    unfold bareB
    by_cases h : nm.toList = []
    · rw [if_pos h, h]; rfl
    · rw [if_neg h, show (nm.toList == ([] : List UInt8)) = false by simpa using h, Bool.false_and]
  | succ m ih =>
    intro i hi hm
    rw [all_drop _ _ _ z24 (by omega)]
    have e : wrap64 ((i : Int) + 1) = ((i + 1 : Nat) : Int) := by unfold wrap64; omega
    have e2 : wrap64 (((d + 1 : Nat) : Int) - 1) = (d : Int) := by unfold wrap64; omega
    refine Ev.step (f := fun k => (cond_right.f k (rd_T24 kids i).f0 (rd_T24 kids i).f1 (rd_T24 kids i).f2 (rd_T24 kids i).f3 (d : Int)).bind fun t => if t = true then cond_right.l0 k ((d + 1 : Nat) : Int) kids (kids.length : Int) ((i + 1 : Nat) : Int) kd nm vl kids else some false) (fun k => ?_) ?_
    · simp only [cond_right.l0]
      rw [if_pos (by omega), if_pos (by omega), if_pos (by omega), e, e2]
    · have hy : rd_T24 kids i = kids.getD i z24 := by unfold rd_T24; rw [Int.toNat_natCast]
      rw [hy]
      refine Ev.bind (IH _ (by rw [List.getD_eq_getElem?_getD, List.getElem?_eq_getElem (show i < kids.length by omega)]; exact List.getElem_mem _)) ?_
      by_cases hb : rightB d (kids.getD i z24) = true
      · refine Ev.congr (fun k => if_pos hb) ?_
        rw [hb, Bool.true_and]
        exact ih (i + 1) (by omega) (by omega)
      · refine Ev.congr (fun k => if_neg hb) ?_
        rw [Bool.eq_false_iff.2 hb, Bool.false_and, Bool.false_and]
        exact Ev.now _
theorem right_ev : ∀ (d : Nat) (x : S24), d ≤ 100 → smallN d x → Ev (fun k => cond_right.f k x.f0 x.f1 x.f2 x.f3 (d : Int)) (rightB d x) := by
  intro d
  induction d with
  | zero =>
    intro x _ _
    exact Ev.step (f := fun _ => some false) (fun k => by simp only [cond_right.f]; rw [if_pos (by omega)]) (Ev.now _)
  | succ d ih =>
    intro x hd hs
    refine Ev.step (f := fun k => cond_right.l0 k ((d + 1 : Nat) : Int) x.f3 (x.f3.length : Int) ((0 : Nat) : Int) x.f0 x.f1 x.f2 x.f3) (fun k => by simp only [cond_right.f]; rw [if_neg (by omega)]; rfl) ?_
    have h := rl_ev x.f1 x.f2 x.f3 x.f0 hs.1 hs.2.1 d (by omega) (fun y hy => ih y (by omega) (hs.2.2 y hy)) x.f3.length 0 (by omega) (by omega)
    rwa [List.drop_zero] at h
/-! the reference -/
theorem rr_loop (nm vl : ByteArray) (kids : List S24) (kd : Int) (hl : kids.length ≤ 281474976710656) (d : Nat) (hd : d ≤ 100) (IH : ∀ y ∈ kids, Ev (fun k => colloquyref12_Right.f k y.f0 y.f1 y.f2 y.f3 (d : Int)) (rightB d y)) :
    ∀ m i : Nat, i ≤ kids.length → m = kids.length - i → Ev (fun k => colloquyref12_Right.l0 k ((d + 1 : Nat) : Int) i kd nm vl kids) ((kids.drop i).all (rightB d) && bareB nm vl) := by
  intro m
  induction m with
  | zero =>
    intro i hi hm
    rw [List.drop_of_length_le (by omega), List.all_nil, Bool.true_and]
    refine Ev.step (f := fun _ => some (bareB nm vl)) (fun k => ?_) (Ev.now _)
    simp only [colloquyref12_Right.l0]
    rw [if_neg (by omega)]
    unfold bareB
    by_cases h : nm.toList = []
    · rw [if_pos h, h]; rfl
    · rw [if_neg h, show (nm.toList == ([] : List UInt8)) = false by simpa using h, Bool.false_and]
  | succ m ih =>
    intro i hi hm
    rw [all_drop _ _ _ z24 (by omega)]
    have e : wrap64 ((i : Int) + 1) = ((i + 1 : Nat) : Int) := by unfold wrap64; omega
    have e2 : wrap64 (((d + 1 : Nat) : Int) - 1) = (d : Int) := by unfold wrap64; omega
    refine Ev.step (f := fun k => (colloquyref12_Right.f k (rd_T24 kids i).f0 (rd_T24 kids i).f1 (rd_T24 kids i).f2 (rd_T24 kids i).f3 (d : Int)).bind fun t => if t = true then colloquyref12_Right.l0 k ((d + 1 : Nat) : Int) ((i + 1 : Nat) : Int) kd nm vl kids else some false) (fun k => ?_) ?_
    · simp only [colloquyref12_Right.l0]
      rw [if_pos (by omega), if_pos (by omega), e, e2]
    · have hy : rd_T24 kids i = kids.getD i z24 := by unfold rd_T24; rw [Int.toNat_natCast]
      rw [hy]
      refine Ev.bind (IH _ (by rw [List.getD_eq_getElem?_getD, List.getElem?_eq_getElem (show i < kids.length by omega)]; exact List.getElem_mem _)) ?_
      by_cases hb : rightB d (kids.getD i z24) = true
      · refine Ev.congr (fun k => if_pos hb) ?_
        rw [hb, Bool.true_and]
        exact ih (i + 1) (by omega) (by omega)
      · refine Ev.congr (fun k => if_neg hb) ?_
        rw [Bool.eq_false_iff.2 hb, Bool.false_and, Bool.false_and]
        exact Ev.now _
theorem rright_ev : ∀ (d : Nat) (x : S24), d ≤ 100 → smallN d x → Ev (fun k => colloquyref12_Right.f k x.f0 x.f1 x.f2 x.f3 (d : Int)) (rightB d x) := by
  intro d
  induction d with
  | zero =>
    intro x _ _
    exact Ev.step (f := fun _ => some false) (fun k => by simp only [colloquyref12_Right.f]; rw [if_pos (by omega)]) (Ev.now _)
  | succ d ih =>
    intro x hd hs
    obtain ⟨hs1, hs2, hs3⟩ := hs
    have hlp := rr_loop x.f1 x.f2 x.f3 x.f0 hs2 d (by omega) (fun y hy => ih y (by omega) (hs3 y hy)) x.f3.length 0 (by omega) (by omega)
    rw [List.drop_zero] at hlp
    have hj2 : Ev (fun k => colloquyref12_Right.j2 k ((d + 1 : Nat) : Int) x.f0 x.f1 x.f2 x.f3) (x.f3.all (rightB d) && bareB x.f1 x.f2) := Ev.step (fun k => by simp only [colloquyref12_Right.j2]; rfl) hlp
    have hj1 : ∀ b : Bool, Ev (fun k => colloquyref12_Right.j1 k ((d + 1 : Nat) : Int) b x.f0 x.f1 x.f2 x.f3) (b && decide (2 ≤ x.f3.length) && (x.f3.all (rightB d) && bareB x.f1 x.f2)) := by
      intro b
      cases b with
      | false => exact Ev.step (f := fun _ => some false) (fun k => by simp only [colloquyref12_Right.j1]; rw [if_neg (by decide)]) (Ev.is fun k => by simp)
      | true =>
        by_cases h2 : (x.f3.length : Int) < 2
        · exact Ev.step (f := fun _ => some false) (fun k => by simp only [colloquyref12_Right.j1, if_true]; rw [if_pos h2]) (Ev.is fun k => by rw [decide_eq_false (by omega)]; simp)
        · refine Ev.step (f := fun k => colloquyref12_Right.j2 k ((d + 1 : Nat) : Int) x.f0 x.f1 x.f2 x.f3) (fun k => by simp only [colloquyref12_Right.j1, if_true]; rw [if_neg h2]) ?_
          rw [decide_eq_true (by omega), Bool.true_and, Bool.true_and]
          exact hj2
    have hj0 : Ev (fun k => colloquyref12_Right.j0 k ((d + 1 : Nat) : Int) x.f0 (decide (x.f0 = 1 ∨ x.f0 = 2)) x.f0 x.f1 x.f2 x.f3) (rightB (d + 1) x) := by
      show Ev _ (x.f3.all (rightB d) && shapeB x.f0 x.f1 x.f2 x.f3)
      unfold shapeB
      by_cases h12 : x.f0 = 1 ∨ x.f0 = 2
      · rw [if_pos h12]
        by_cases h0 : (x.f3.length : Int) = 0
        · refine Ev.step (f := fun k => (colloquyref02_Word.f k x.f1).bind fun t => some t) (fun k => by simp only [colloquyref12_Right.j0]; rw [if_pos (by simpa using h12), if_pos h0]) ?_
          refine Ev.bind (rword_ev x.f1 hs1) (Ev.is fun k => ?_)
          have : x.f3 = [] := List.length_eq_zero_iff.1 (by omega)
          rw [this]
          simp
        · refine Ev.step (f := fun _ => some false) (fun k => by simp only [colloquyref12_Right.j0]; rw [if_pos (by simpa using h12), if_neg h0]) (Ev.is fun k => ?_)
          rw [show (x.f3.length == 0) = false by simp; intro h; rw [h] at h0; exact h0 rfl]
          simp
      · rw [if_neg h12]
        by_cases h3 : x.f0 = 3
        · rw [if_pos h3]
          by_cases h1 : (x.f3.length : Int) = 1
          · refine Ev.step (f := fun k => colloquyref12_Right.j2 k ((d + 1 : Nat) : Int) x.f0 x.f1 x.f2 x.f3) (fun k => by simp only [colloquyref12_Right.j0]; rw [if_neg (by simpa using h12), if_pos h3, if_pos h1]) ?_
            rw [show (x.f3.length == 1) = true by simp; omega, Bool.and_true]
            exact hj2
          · refine Ev.step (f := fun _ => some false) (fun k => by simp only [colloquyref12_Right.j0]; rw [if_neg (by simpa using h12), if_pos h3, if_neg h1]) (Ev.is fun k => ?_)
            rw [show (x.f3.length == 1) = false by simp; omega]
            simp
        · rw [if_neg h3]
          by_cases h4 : x.f0 = 4
          · refine Ev.step (f := fun k => colloquyref12_Right.j1 k ((d + 1 : Nat) : Int) true x.f0 x.f1 x.f2 x.f3) (fun k => by simp only [colloquyref12_Right.j0]; rw [if_neg (by simpa using h12), if_neg h3, if_pos h4, show (x.f0 == 4) = true by simp [h4]]) ?_
            rw [if_pos (.inl h4)]
            have := hj1 true
            rwa [Bool.true_and, Bool.and_comm, Bool.and_assoc] at this
          · refine Ev.step (f := fun k => colloquyref12_Right.j1 k ((d + 1 : Nat) : Int) (x.f0 == 5) x.f0 x.f1 x.f2 x.f3) (fun k => by simp only [colloquyref12_Right.j0]; rw [if_neg (by simpa using h12), if_neg h3, if_neg h4]) ?_
            have := hj1 (x.f0 == 5)
            by_cases h5 : x.f0 = 5
            · rw [if_pos (.inr h5)]
              rw [show (x.f0 == 5) = true by simp [h5]] at this ⊢
              rwa [Bool.true_and, Bool.and_comm, Bool.and_assoc] at this
            · rw [if_neg (by omega), Bool.and_false]
              rw [show (x.f0 == 5) = false by simp [h5]] at this ⊢
              simpa using this
    refine Ev.step (f := fun k => colloquyref12_Right.j0 k ((d + 1 : Nat) : Int) x.f0 (decide (x.f0 = 1 ∨ x.f0 = 2)) x.f0 x.f1 x.f2 x.f3) (fun k => ?_) hj0
    simp only [colloquyref12_Right.f]
    rw [if_neg (by omega)]
    by_cases h1 : x.f0 = 1
    · rw [if_pos h1, show (x.f0 == 1) = true by simp [h1], decide_eq_true (.inl h1)]
    · rw [if_neg h1, show (x.f0 == 2) = decide (x.f0 = 1 ∨ x.f0 = 2) by rw [Bool.eq_iff_iff]; simp [h1]]
end Go.Proofs.Ytjndcgochnaodaa.PA

/- Conditions: of right ones both texts say the same of whether they hold. -/
namespace Go.Proofs.Ytjndcgochnaodaa.PA
open Go.RowKit Go.Proofs.YtjndcgochnaodaaW.PrintWords Go.Proofs.YtjndcgochnaodaaW.PrintLast Go.Proofs.YtjndcgochnaodaaW.PrintMore
set_option linter.unusedVariables false
theorem Ev.map {α β : Type} {g : Nat → Option α} {a : α} (f : α → β) (h : Ev g a) : Ev (fun k => (g k).map f) (f a) := by
  obtain ⟨K, hK⟩ := h
  exact ⟨K, fun k hk => by show (g k).map f = _; rw [hK k hk]; rfl⟩
theorem anyM_ev {α : Type} {p : Nat → α → Option Bool} {q : α → Bool} : ∀ (l : List α), (∀ y ∈ l, Ev (fun k => p k y) (q y)) → Ev (fun k => anyM (p k) l) (l.any q)
  | [], _ => Ev.is fun k => rfl
  | x :: xs, h => by
    have h1 := h x (List.mem_cons_self ..)
    have h2 := anyM_ev xs (fun y hy => h y (List.mem_cons_of_mem _ hy))
    refine Ev.congr (f := fun k => (p k x).bind fun b => if b then some true else anyM (p k) xs) (fun k => by rw [anyM]) (Ev.bind h1 ?_)
    cases hq : q x
    · refine Ev.congr (fun k => if_neg Bool.false_ne_true) ?_
      rw [List.any_cons, hq, Bool.false_or]; exact h2
    · refine Ev.congr (fun k => if_pos rfl) ?_
      rw [List.any_cons, hq, Bool.true_or]; exact Ev.now _
def holdB (ps : List S36) : Nat → S24 → Bool
  | 0, _ => false
  | d + 1, x => if x.f0 = 1 then hasB ps x.f1 x.f2 else if x.f0 = 2 then !hasB ps x.f1 x.f2 else if x.f0 = 3 then !holdB ps d (x.f3.getD 0 z24) else if x.f0 = 4 then x.f3.all (holdB ps d) else x.f3.any (holdB ps d)
theorem rightB_kids {d : Nat} {x : S24} (h : rightB (d + 1) x = true) : (∀ y ∈ x.f3, rightB d y = true) ∧ shapeB x.f0 x.f1 x.f2 x.f3 = true := by
  have h : (x.f3.all (rightB d) && shapeB x.f0 x.f1 x.f2 x.f3) = true := h
  rw [Bool.and_eq_true, List.all_eq_true] at h
  exact h
theorem shape_one {kd : Int} {nm vl : ByteArray} {kids : List S24} (h : shapeB kd nm vl kids = true) (h3 : kd = 3) : kids.length = 1 := by
  unfold shapeB at h
  rw [if_neg (by omega), if_pos h3, Bool.and_eq_true] at h
  simpa using h.2
theorem getD0_mem {l : List S24} (h : l.length = 1) : l.getD 0 z24 ∈ l := by
  rw [List.getD_eq_getElem?_getD, List.getElem?_eq_getElem (show 0 < l.length by omega)]
  exact List.getElem_mem _
theorem hold_ev (b : ByteArray) (ps : List S36) : ∀ (d : Nat) (x : S24), rightB d x = true → Ev (fun k => cond_holds.f k x.f0 x.f1 x.f2 x.f3 b ps) (holdB ps d x) := by
  intro d
  induction d with
  | zero => intro x h; cases h
  | succ d ih =>
    intro x h
    obtain ⟨hk, hsh⟩ := rightB_kids h
    unfold holdB
    by_cases h1 : x.f0 = 1
    · rw [if_pos h1]; exact Ev.step (f := fun _ => some (hasB ps x.f1 x.f2)) (fun k => by unfold cond_holds.f; rw [if_pos h1]) (Ev.now _)
    rw [if_neg h1]
    by_cases h2 : x.f0 = 2
    · rw [if_pos h2]; exact Ev.step (f := fun _ => some (!hasB ps x.f1 x.f2)) (fun k => by rw [cond_holds.f, if_neg h1, if_pos h2]) (Ev.now _)
    rw [if_neg h2]
    by_cases h3 : x.f0 = 3
    · rw [if_pos h3]
      have hl := shape_one hsh h3
      refine Ev.step (f := fun k => (cond_holds.f k (x.f3.getD 0 z24).f0 (x.f3.getD 0 z24).f1 (x.f3.getD 0 z24).f2 (x.f3.getD 0 z24).f3 b ps).map (!·)) (fun k => by rw [cond_holds.f, if_neg h1, if_neg h2, if_pos h3, if_pos (by omega)]) (Ev.map (!·) (ih _ (hk _ (getD0_mem hl))))
    rw [if_neg h3]
    by_cases h4 : x.f0 = 4
    · rw [if_pos h4]
      refine Ev.step (f := fun k => (anyM (fun y => (cond_holds.f k y.f0 y.f1 y.f2 y.f3 b ps).map (!·)) x.f3).map (!·)) (fun k => by rw [cond_holds.f, if_neg h1, if_neg h2, if_neg h3, if_pos h4]) ?_
      have := Ev.map (!·) (anyM_ev (p := fun k y => (cond_holds.f k y.f0 y.f1 y.f2 y.f3 b ps).map (!·)) (q := fun y => !holdB ps d y) x.f3 (fun y hy => Ev.map (!·) (ih y (hk y hy))))
      rwa [← List.all_eq_not_any_not] at this
    · rw [if_neg h4]
      refine Ev.step (f := fun k => anyM (fun y => cond_holds.f k y.f0 y.f1 y.f2 y.f3 b ps) x.f3) (fun k => by rw [cond_holds.f, if_neg h1, if_neg h2, if_neg h3, if_neg h4]) ?_
      exact anyM_ev (p := fun k y => cond_holds.f k y.f0 y.f1 y.f2 y.f3 b ps) (q := holdB ps d) x.f3 (fun y hy => ih y (hk y hy))
theorem has_cons (p : S36) (ps : List S36) (nm vl : ByteArray) : hasB (p :: ps) nm vl = if p.f0.toList = nm.toList then (p.f1.toList == vl.toList) else hasB ps nm vl := by
  have hlt := idxI_lt (nameIs nm) ps
  by_cases h : p.f0.toList = nm.toList
  · rw [if_pos h]
    have e : idxI (nameIs nm) (p :: ps) = 0 := by unfold idxI; rw [if_pos (by simp [nameIs, h])]
    unfold hasB; rw [e]; rfl
  · rw [if_neg h]
    have e : idxI (nameIs nm) (p :: ps) = if idxI (nameIs nm) ps < 0 then -1 else idxI (nameIs nm) ps + 1 := by rw [idxI, if_neg (by simp [nameIs, h])]
    unfold hasB
    rw [e]
    by_cases h0 : idxI (nameIs nm) ps < 0
    · rw [if_pos h0, decide_eq_false (by omega), decide_eq_false (by omega)]; rfl
    · rw [if_neg h0, decide_eq_true (by omega), decide_eq_true (by omega)]
      obtain ⟨n, hn⟩ : ∃ n : Nat, idxI (nameIs nm) ps = n := ⟨(idxI (nameIs nm) ps).toNat, by omega⟩
      rw [hn, show ((n : Int) + 1).toNat = n + 1 by omega, Int.toNat_natCast, List.getD_cons_succ]
theorem Right_ev (x : S24) (hs : smallN 20 x) : Ev (fun k => cond_Right.f k x.f0 x.f1 x.f2 x.f3) (rightB 20 x) :=
  Ev.congr (fun k => by unfold cond_Right.f; rfl) (Ev.bind (right_ev 20 x (by omega) hs) (Ev.now _))
theorem Holds_ev (b : ByteArray) (ps : List S36) (x : S24) (hs : smallN 20 x) : Ev (fun k => cond_Holds.f k x.f0 x.f1 x.f2 x.f3 b ps) (rightB 20 x && holdB ps 20 x) := by
  refine Ev.congr (fun k => by unfold cond_Holds.f; rfl) (Ev.bind (Right_ev x hs) ?_)
  cases h : rightB 20 x
  · refine Ev.congr (fun k => if_neg Bool.false_ne_true) ?_
    rw [Bool.false_and]; exact Ev.now _
  · refine Ev.congr (fun k => if_pos rfl) ?_
    rw [Bool.true_and]; exact hold_ev b ps 20 x h
end Go.Proofs.Ytjndcgochnaodaa.PA


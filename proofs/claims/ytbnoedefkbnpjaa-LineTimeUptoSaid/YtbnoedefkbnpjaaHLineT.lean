/- A session's time, in plain words: where it is after so many chunks. -/
import Derived.Test.YtbnoedefkbnpjaaHLine
namespace Go.Proofs.Ytbnoedefkbnpjaa.PA
open Go.RowKit Go.Proofs.YtbnoedefkbnpjaaW.PrintWords Go.Proofs.YtbnoedefkbnpjaaW.PrintLast Go.Proofs.YtbnoedefkbnpjaaW.PrintMore
set_option linter.unusedVariables false
set_option linter.unusedSimpArgs false
def tkL (x : S52) : Int := mn (mx x.f0 0) 1000000
def lastL (chs : List S52) (j : Int) : Int := ((chs.take j.toNat).map tkL).sum
def bytesL (chs : List S52) (j : Int) : List Int := (chs.take j.toNat).flatMap (fun x => x.f1)
theorem take_succ52 (chs : List S52) (j : Int) (h0 : 0 ≤ j) (h1 : j < chs.length) : chs.take (j + 1).toNat = chs.take j.toNat ++ [chs.getD j.toNat z52] := (take_snoc52 chs j h0 h1).symm
theorem lastL_succ (chs : List S52) (j : Int) (h0 : 0 ≤ j) (h1 : j < chs.length) : lastL chs (j + 1) = lastL chs j + tkL (chs.getD j.toNat z52) := by
  unfold lastL
  rw [take_succ52 chs j h0 h1, List.map_append, List.sum_append]
  simp
theorem bytesL_succ (chs : List S52) (j : Int) (h0 : 0 ≤ j) (h1 : j < chs.length) : bytesL chs (j + 1) = bytesL chs j ++ (chs.getD j.toNat z52).f1 := by
  unfold bytesL
  rw [take_succ52 chs j h0 h1, List.flatMap_append]
  simp
theorem lastL_mono (chs : List S52) (i : Int) (h0 : 0 ≤ i) : ∀ (n : Nat), i + n ≤ chs.length → lastL chs i ≤ lastL chs (i + n) := by
  intro n
  induction n with
  | zero => intro _; simp
  | succ n ih =>
    intro h
    have h1 := ih (by omega)
    have h2 := lastL_succ chs (i + n) (by omega) (by omega)
    have h3 := (tk_b (chs.getD (i + n).toNat z52).f0).1
    have e : i + ((n + 1 : Nat) : Int) = i + n + 1 := by omega
    rw [e, h2]
    unfold tkL
    omega
theorem bytes_sum (xs : List S52) : (xs.flatMap (fun x => x.f1)).length = (xs.map (fun x => x.f1.length)).sum := by
  induction xs with
  | nil => rfl
  | cons x xs ih => simp [List.flatMap_cons, ih]
theorem sum_take (f : S52 → Nat) (xs : List S52) : ∀ n, ((xs.take n).map f).sum ≤ (xs.map f).sum := by
  induction xs with
  | nil => intro n; simp
  | cons x xs ih =>
    intro n
    cases n with
    | zero => simp
    | succ n => have := ih n; simp only [List.take_succ_cons, List.map_cons, List.sum_cons]; omega
theorem mx_ge (a b : Int) : a ≤ mx a b ∧ b ≤ mx a b := by
  unfold mx
  split <;> omega
structure Reach (chs : List S52) (at_ now last : Int) (al : List Int) (most : Int) : Prop where
  fl : last = lastL chs at_
  fa : al = bytesL chs at_
  now0 : 0 ≤ now
  now1 : now ≤ most
  lm : last ≤ most
theorem reach_len {chs : List S52} {at_ now last most : Int} {al : List Int} (h : Reach chs at_ now last al most) (hs : (chs.map (fun x => x.f1.length)).sum ≤ 1048576) : al.length ≤ 1048576 := by
  rw [h.fa]
  unfold bytesL
  rw [bytes_sum]
  exact Nat.le_trans (sum_take _ _ _) hs
theorem next_one {chs : List S52} {en wt at_ now last lim : Int} (h : (nextL chs en wt at_ now last lim).k = 1) : at_ < chs.length ∧ ¬ mx lim now < last + tkL (chs.getD at_.toNat z52) ∧
    nextL chs en wt at_ now last lim = ⟨1, at_ + 1, mx now (last + tkL (chs.getD at_.toNat z52)), last + tkL (chs.getD at_.toNat z52), (chs.getD at_.toNat z52).f1⟩ := by
  unfold nextL at h
  split at h
  · cases h
  split at h
  · cases h
  split at h
  · rename_i h3
    exact absurd h h3
  rename_i h1 h2 h3
  have h4 := Decidable.not_not.1 h3
  have h5 := due_one h4
  have hd : dueL chs en wt at_ last = (last + tkL (chs.getD at_.toNat z52), 1) := by unfold dueL; rw [if_pos h5]; rfl
  rw [hd] at h2
  refine ⟨h5, h2, ?_⟩
  unfold nextL
  rw [hd, if_neg (by simp), if_neg h2, if_neg (by simp)]
theorem next_not {chs : List S52} {en wt at_ now last lim : Int} (h : (nextL chs en wt at_ now last lim).k ≠ 1) : (nextL chs en wt at_ now last lim).at_ = at_ ∧ (nextL chs en wt at_ now last lim).last = last ∧ (nextL chs en wt at_ now last lim).b = [] ∧
    now ≤ (nextL chs en wt at_ now last lim).now ∧ (nextL chs en wt at_ now last lim).now ≤ mx lim now ∧ (at_ < chs.length → mx lim now < last + tkL (chs.getD at_.toNat z52)) := by
  have hcase : at_ < chs.length → dueL chs en wt at_ last = (last + tkL (chs.getD at_.toNat z52), 1) := fun h5 => by unfold dueL; rw [if_pos h5]; rfl
  have m1 : now ≤ mx now lim ∧ mx now lim ≤ mx lim now := by unfold mx; (repeat' split) <;> omega
  unfold nextL at h ⊢
  split
  · rename_i h1
    refine ⟨rfl, rfl, rfl, m1.1, m1.2, fun h5 => ?_⟩
    rw [hcase h5] at h1
    cases h1
  · rename_i h1
    rw [if_neg h1] at h
    split
    · rename_i h2
      refine ⟨rfl, rfl, rfl, m1.1, m1.2, fun h5 => ?_⟩
      rw [hcase h5] at h2
      exact h2
    · rename_i h2
      rw [if_neg h2] at h
      split
      · rename_i h3
        refine ⟨rfl, rfl, rfl, by dsimp only; unfold mx; split <;> omega, ?_, fun h5 => ?_⟩
        · dsimp only
          have : now ≤ mx lim now := by unfold mx; split <;> omega
          generalize (dueL chs en wt at_ last).1 = d at h2
          generalize mx lim now = q at h2 this
          unfold mx
          split <;> omega
        · rw [hcase h5] at h3
          exact absurd rfl h3
      · rename_i h3
        rw [if_neg h3] at h
        exact absurd rfl h
theorem next_late_now {chs : List S52} {en wt at_ now last lim : Int} (h : (nextL chs en wt at_ now last lim).k = 4) : (nextL chs en wt at_ now last lim).now = mx now lim := by
  have hk : ∀ q, dueL chs en wt at_ last = q → q.2 ≠ 4 → q.2 = 1 ∨ q.2 = 2 ∨ q.2 = 3 := by
    intro q hq h4
    subst hq
    unfold dueL at h4 ⊢
    (repeat' split) <;> simp_all
  unfold nextL at h ⊢
  split
  · rfl
  rename_i h1
  rw [if_neg h1] at h
  split
  · rfl
  rename_i h2
  rw [if_neg h2] at h
  split at h
  · rename_i h3
    exact absurd h h1
  · cases h
theorem reach_next {chs : List S52} {en wt at_ now last lim most most' : Int} {al : List Int} (hr : Reach chs at_ now last al most) (ha : 0 ≤ at_ ∧ at_ ≤ chs.length) (h1 : lim ≤ most') (h2 : most ≤ most') :
    Reach chs (nextL chs en wt at_ now last lim).at_ (nextL chs en wt at_ now last lim).now (nextL chs en wt at_ now last lim).last (al ++ (nextL chs en wt at_ now last lim).b) most' ∧ now ≤ (nextL chs en wt at_ now last lim).now := by
  have hm : mx lim now ≤ most' := by have := hr.now1; unfold mx; split <;> omega
  have hn := hr.now0
  by_cases hk : (nextL chs en wt at_ now last lim).k = 1
  · obtain ⟨h5, h6, e⟩ := next_one hk
    rw [e]
    have hl := lastL_succ chs at_ ha.1 h5
    have hb := bytesL_succ chs at_ ha.1 h5
    have hq := hr.fl
    have : now ≤ most := hr.now1
    generalize tkL (chs.getD at_.toNat z52) = t at h6 hl ⊢
    refine ⟨⟨by dsimp only; omega, by dsimp only; rw [hb, hr.fa], ?_, ?_, by dsimp only; omega⟩, ?_⟩
    · dsimp only; unfold mx; split <;> omega
    · dsimp only
      generalize mx lim now = q at h6 hm
      unfold mx; split <;> omega
    · dsimp only; unfold mx; split <;> omega
  · obtain ⟨e1, e2, e3, e4, e5, _⟩ := next_not hk
    refine ⟨⟨by rw [e1, e2]; exact hr.fl, by rw [e1, e3, List.append_nil]; exact hr.fa, by omega, by omega, by rw [e2]; have := hr.lm; omega⟩, e4⟩
/-- Nothing comes any more by the time 'most'. -/
structure Fin_ (chs : List S52) (at_ : Int) (al : List Int) (most : Int) : Prop where
  r : 0 ≤ at_ ∧ at_ ≤ chs.length
  fa : al = bytesL chs at_
  lm : lastL chs at_ ≤ most
  stop : chs.length ≤ 200 → at_ < chs.length → most < lastL chs (at_ + 1)
theorem fin_stop {chs : List S52} {en wt at_ now last most : Int} {al : List Int} (hr : Reach chs at_ now last al most) (ha : 0 ≤ at_ ∧ at_ ≤ chs.length) (hk : (nextL chs en wt at_ now last most).k ≠ 1) : Fin_ chs (nextL chs en wt at_ now last most).at_ al most := by
  obtain ⟨e1, e2, e3, e4, e5, e6⟩ := next_not hk
  have hm : mx most now = most := mx_big hr.now1
  rw [e1]
  refine ⟨ha, hr.fa, by rw [← hr.fl]; exact hr.lm, fun _ h => ?_⟩
  have := e6 h
  rw [lastL_succ chs at_ ha.1 h, ← hr.fl]
  omega
theorem fin_end {chs : List S52} {at_ now last most : Int} {al : List Int} (hr : Reach chs at_ now last al most) (ha : 0 ≤ at_ ∧ at_ ≤ chs.length) (h : 200 ≤ at_) : Fin_ chs at_ al most :=
  ⟨ha, hr.fa, by rw [← hr.fl]; exact hr.lm, fun h1 h2 => by omega⟩
theorem fin_eq {chs : List S52} {i j most : Int} {al bl : List Int} (h : Fin_ chs i al most) (h' : Fin_ chs j bl most) (hl : chs.length ≤ 200) : i = j ∧ al = bl := by
  have e : i = j := by
    rcases Int.lt_trichotomy i j with hlt | he | hlt
    · have h1 := h.stop hl (by have := h'.r; omega)
      have h2 := lastL_mono chs (i + 1) (by have := h.r; omega) (j - (i + 1)).toNat (by have := h'.r; omega)
      have e : i + 1 + ((j - (i + 1)).toNat : Int) = j := by omega
      rw [e] at h2
      have := h'.lm
      omega
    · exact he
    · have h1 := h'.stop hl (by have := h.r; omega)
      have h2 := lastL_mono chs (j + 1) (by have := h'.r; omega) (i - (j + 1)).toNat (by have := h.r; omega)
      have e : j + 1 + ((i - (j + 1)).toNat : Int) = i := by omega
      rw [e] at h2
      have := h.lm
      omega
  subst e
  exact ⟨rfl, h.fa.trans h'.fa.symm⟩
end Go.Proofs.Ytbnoedefkbnpjaa.PA

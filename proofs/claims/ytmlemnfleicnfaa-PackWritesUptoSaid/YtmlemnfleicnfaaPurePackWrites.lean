/- Every number and text has the bytes that are said, behind what was there; the arguments stay: for bytes and texts of bulk at most 1048576 together. -/
import Derived.Test.YtmlemnfleicnfaaPurePackLib
import Derived.Test.YtmlemnfleicnfaaStmtPackWrites
namespace Go.Proofs.Ytmlemnfleicnfaa.Pure
open Go.RowKit Go.Proofs.Ytmlemnfleicnfaa.PA Go.Proofs.YtmlemnfleicnfaaW.PrintWords Go.Proofs.YtmlemnfleicnfaaW.PrintLast Go.Proofs.YtmlemnfleicnfaaW.PrintMore

theorem writing_ev : Ev (fun k => colloquylaw08_writing.f k) true := by
  unfold colloquylaw08_writing.f
  have e1 : pack_Num.f [] 300 = some [172, 2] := by rw [num_eq [] 300 (by simp)]; rfl
  have e2 : pack_Text.f [1] (⟨#[97, 98]⟩ : ByteArray) = some [1, 2, 97, 98] := by rw [text_eq [1] _ (by decide)]; rfl
  rw [e1, e2]
  simp only [Option.bind_some]
  refine Ev.bind (same_ev _ _ (by decide)) (Ev.congr (fun k => if_pos (by decide)) ?_)
  refine Ev.bind (same_ev _ _ (by decide)) ?_
  rw [decide_eq_true rfl]
  exact Ev.now _
theorem sum_one (xs : List Int) : (xs.map (fun _ => 1)).sum = xs.length := by
  induction xs with
  | nil => rfl
  | cons x xs ih => simp only [List.map_cons, List.sum_cons, List.length_cons, ih]; omega
theorem fill_l (x0 : List Int) (s : ByteArray) (n : Nat) (hn : n ≤ 281474976710656) : ∀ (d i : Nat) (ys : List Int), ys.length = n → i ≤ n → d = n - i →
    Ev (fun k => colloquylaw08_PackWrites.l0 k x0 s ys n i) ((strOfNums x0).toList == s.toList) := by
  intro d
  induction d with
  | zero =>
    intro i ys hl hi hd
    refine Ev.step (f := fun _ => some ((strOfNums x0).toList == s.toList)) (fun k => ?_) (Ev.now _)
    simp only [colloquylaw08_PackWrites.l0]
    rw [if_neg (by omega)]
  | succ d ih =>
    intro i ys hl hi hd
    refine Ev.step (f := fun k => colloquylaw08_PackWrites.l0 k x0 s (ys.set i 99) n ((i + 1 : Nat) : Int)) (fun k => ?_) (ih (i + 1) _ (by simpa using hl) (by omega) (by omega))
    simp only [colloquylaw08_PackWrites.l0]
    rw [if_pos (by omega), if_pos (by omega), if_pos (by omega), Int.toNat_natCast, wrap_in (by omega) (by omega)]
    rfl
theorem PackWrites : colloquylaw08_PackWrites.PureU := by
  intro xs n s _ _ _ hb
  rw [sum_one] at hb
  refine Ev.rounds ?_
  unfold colloquylaw08_PackWrites.f
  refine Ev.bind writing_ev (Ev.congr (fun k => if_pos rfl) ?_)
  rw [num_eq xs n (by omega), text_eq xs s (by omega)]
  simp only [Option.bind_some]
  have hp := putN_length 9 (numOf n)
  have hp2 := putN_length 9 (numOf s.size)
  refine Ev.bind (rnum_ev n) (Ev.bind (join_ev _ _ (by omega)) ?_)
  refine Ev.bind (same_ev _ _ (by simp; omega)) (Ev.congr (fun k => if_pos (by simp)) ?_)
  refine Ev.bind (rtext_ev s (by omega)) (Ev.bind (join_ev _ _ (by rw [List.length_append, bytesOf_length]; omega)) ?_)
  refine Ev.bind (same_ev _ _ (by simp [bytesOf_length]; omega)) ?_
  rw [decide_eq_true (by simp), Bool.not_true]
  refine Ev.step (fun k => by simp only [colloquylaw08_PackWrites.j0]; exact if_neg (by simp)) ?_
  have := fill_l xs (strOfNums xs) (xs ++ putN 9 (numOf n)).length (by simp; omega) _ 0 _ rfl (by omega) rfl
  simpa using this
end Go.Proofs.Ytmlemnfleicnfaa.Pure

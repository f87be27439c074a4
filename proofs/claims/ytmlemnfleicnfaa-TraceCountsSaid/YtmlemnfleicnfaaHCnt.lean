/- How many results are of a class. -/
import Derived.Test.YtmlemnfleicnfaaHObj
import Derived.Test.YtmlemnfleicnfaaHKinds
namespace Go.Proofs.Ytmlemnfleicnfaa.PA
open Go.RowKit Go.Proofs.YtmlemnfleicnfaaW.PrintWords Go.Proofs.YtmlemnfleicnfaaW.PrintLast Go.Proofs.YtmlemnfleicnfaaW.PrintMore
set_option linter.unusedVariables false
set_option linter.unusedSimpArgs false
def clsL (v : Int) : Int := if v < 0 then 0 else if 7 < v then 0 else v
def cntL : List S61 → Int → Int
  | [], _ => 0
  | x :: xs, v => (if clsL x.f1 = v then 1 else 0) + cntL xs v
theorem cnt_snoc (xs : List S61) (y : S61) (v : Int) : cntL (xs ++ [y]) v = cntL xs v + (if clsL y.f1 = v then 1 else 0) := by
  induction xs with
  | nil => simp [cntL]
  | cons x xs ih => rw [List.cons_append]; simp only [cntL]; rw [ih]; omega
theorem cnt_succ (xs : List S61) (i v : Int) (h0 : 0 ≤ i) (h1 : i < xs.length) : cntL (xs.take (i + 1).toNat) v = cntL (xs.take i.toNat) v + (if clsL (xs.getD i.toNat z61).f1 = v then 1 else 0) := by
  have e : (i + 1).toNat = i.toNat + 1 := by omega
  have hlt : i.toNat < xs.length := by omega
  rw [e, List.take_add_one, List.getD_eq_getElem?_getD, List.getElem?_eq_getElem hlt]
  exact cnt_snoc _ _ _
theorem cnt_b (xs : List S61) (v : Int) : 0 ≤ cntL xs v ∧ cntL xs v ≤ xs.length := by
  induction xs with
  | nil => simp [cntL]
  | cons x xs ih => simp only [cntL, List.length_cons]; split <;> omega
theorem cls_in (v : Int) : 0 ≤ clsL v ∧ clsL v ≤ 7 := by unfold clsL; (repeat' split) <;> omega
theorem cnt_sum (xs : List S61) : cntL xs 0 + cntL xs 1 + cntL xs 2 + cntL xs 3 + cntL xs 4 + cntL xs 5 + cntL xs 6 + cntL xs 7 = xs.length := by
  induction xs with
  | nil => simp [cntL]
  | cons x xs ih =>
    have h := cls_in x.f1
    simp only [cntL, List.length_cons]
    generalize clsL x.f1 = c at h
    have : c = 0 ∨ c = 1 ∨ c = 2 ∨ c = 3 ∨ c = 4 ∨ c = 5 ∨ c = 6 ∨ c = 7 := by omega
    rcases this with rfl | rfl | rfl | rfl | rfl | rfl | rfl | rfl <;> simp <;> omega
end Go.Proofs.Ytmlemnfleicnfaa.PA

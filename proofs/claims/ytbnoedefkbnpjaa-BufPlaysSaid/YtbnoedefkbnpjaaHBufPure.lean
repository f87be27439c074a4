/- Bytes put in pieces or at once: the same are there, and as many have gone. -/
import Derived.Test.YtbnoedefkbnpjaaHBuf
namespace Go.Proofs.Ytbnoedefkbnpjaa.PA
open Go.RowKit Go.Proofs.YtbnoedefkbnpjaaW.PrintWords Go.Proofs.YtbnoedefkbnpjaaW.PrintLast Go.Proofs.YtbnoedefkbnpjaaW.PrintMore
set_option linter.unusedVariables false
set_option linter.unusedSimpArgs false

theorem putL_len (m : Int) (hm : 0 ≤ m) (a : List Int) : ((putL m [] a).length : Int) ≤ m := by
  unfold putL ovN
  rw [List.length_drop, List.nil_append]
  simp
  omega
theorem putL_len' (m : Int) (a b : List Int) (hm : 0 ≤ m) : ((putL m a b).length : Int) ≤ m := by
  unfold putL ovN
  rw [List.length_drop, List.length_append]
  omega
theorem ov_add' (m : Int) (a b : List Int) : ((ovN m a.length b.length : Nat) : Int) + ((putL m a b).length : Int) = (a.length : Int) + b.length := by
  unfold putL ovN
  rw [List.length_drop, List.length_append]
  omega
theorem putL_putL {m : Int} (a : List Int) (hm : 0 ≤ m) {b : List Int} : putL m (putL m [] a) b = putL m [] (a ++ b) := by
  unfold putL ovN
  simp only [List.nil_append, List.length_nil, List.length_drop, List.length_append]
  rw [List.drop_append, List.drop_append, List.drop_drop, List.length_drop]
  congr 1
  · congr 1
    omega
  · congr 1
    omega
theorem ovN_ovN {m : Int} (a : List Int) (hm : 0 ≤ m) {b : List Int} : ((ovN m 0 a.length : Nat) : Int) + ((ovN m (putL m [] a).length b.length : Nat) : Int) = ((ovN m 0 (a ++ b).length : Nat) : Int) := by
  unfold putL ovN
  simp only [List.nil_append, List.length_nil, List.length_drop, List.length_append]
  omega
theorem ovN_le (m : Int) (n l : Nat) : (ovN m n l : Int) ≤ n + l := by unfold ovN; omega
theorem putL_nil (m : Int) : putL m [] [] = [] := by simp [putL]
theorem ovN_nil (m : Int) : ((ovN m 0 ([] : List Int).length : Nat) : Int) = 0 := by unfold ovN; simp
theorem ov_add (m : Int) (a : List Int) : ((ovN m 0 a.length : Nat) : Int) + ((putL m [] a).length : Int) = (a.length : Int) := by
  unfold putL ovN
  rw [List.length_drop, List.nil_append]
  simp
  omega
end Go.Proofs.Ytbnoedefkbnpjaa.PA

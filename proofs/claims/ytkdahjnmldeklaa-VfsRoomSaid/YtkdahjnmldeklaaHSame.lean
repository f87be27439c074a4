/- Two rows of bytes held against each other: the answer is whether they are one. -/
import Derived.Test.YtkdahjnmldeklaaPAx40
namespace Go.Proofs.Ytkdahjnmldeklaa.PA
open Go.RowKit Go.Proofs.YtkdahjnmldeklaaW.PrintWords Go.Proofs.YtkdahjnmldeklaaW.PrintLast Go.Proofs.YtkdahjnmldeklaaW.PrintMore
set_option linter.unusedVariables false
set_option linter.unusedSimpArgs false

namespace Same_
theorem wrap_in {i : Int} (h0 : -9223372036854775808 ≤ i) (h : i ≤ 9223372036854775807) : wrap64 i = i := by
  unfold wrap64
  omega
theorem drop_rd (xs : List Int) (n : Nat) (h : n < xs.length) : xs.drop n = rd xs n :: xs.drop (n + 1) := by
  rw [List.drop_eq_getElem_cons h]
  unfold rd
  rw [Int.toNat_natCast, List.getD_eq_getElem?_getD, List.getElem?_eq_getElem h]
  rfl
theorem same_l (xs ys : List Int) (hl : xs.length = ys.length) (hm : xs.length ≤ 281474976710656) : ∀ (d i : Nat), i ≤ xs.length → d = xs.length - i →
    Ev (fun k => colloquyref01_SameBytes.l0 k xs ys i) (decide (xs.drop i = ys.drop i)) := by
  intro d
  induction d with
  | zero =>
    intro i hi hd
    refine Ev.step (f := fun _ => some (decide (xs.drop i = ys.drop i))) (fun k => ?_) (Ev.now _)
    simp only [colloquyref01_SameBytes.l0]
    rw [if_neg (by omega), List.drop_of_length_le (by omega), List.drop_of_length_le (by omega)]
    simp
  | succ d ih =>
    intro i hi hd
    have h1 : i < xs.length := by omega
    have h2 : i < ys.length := by omega
    by_cases e : rd xs i = rd ys i
    · refine Ev.step (f := fun k => colloquyref01_SameBytes.l0 k xs ys ((i + 1 : Nat) : Int)) (fun k => ?_) ?_
      · simp only [colloquyref01_SameBytes.l0]
        rw [if_pos (by omega), if_pos (by omega), if_pos (by omega), if_pos e, wrap_in (by omega) (by omega)]
        rfl
      · have := ih (i + 1) (by omega) (by omega)
        rw [drop_rd xs i h1, drop_rd ys i h2, e]
        simpa using this
    · refine Ev.step (f := fun _ => some false) (fun k => ?_) ?_
      · simp only [colloquyref01_SameBytes.l0]
        rw [if_pos (by omega), if_pos (by omega), if_pos (by omega), if_neg e]
      · rw [drop_rd xs i h1, drop_rd ys i h2]
        have : decide (rd xs i :: xs.drop (i + 1) = rd ys i :: ys.drop (i + 1)) = false := by simp [e]
        rw [this]
        exact Ev.now _
theorem same_ev (xs ys : List Int) (hm : xs.length ≤ 281474976710656) : Ev (fun k => colloquyref01_SameBytes.f k xs ys) (decide (xs = ys)) := by
  unfold colloquyref01_SameBytes.f
  by_cases e : xs.length = ys.length
  · refine Ev.congr (f := fun k => colloquyref01_SameBytes.l0 k xs ys 0) (fun k => if_pos (by omega)) ?_
    simpa using same_l xs ys e hm xs.length 0 (by omega) (by omega)
  · refine Ev.congr (f := fun _ => some false) (fun k => if_neg (by omega)) ?_
    have : decide (xs = ys) = false := by
      simp
      intro h
      exact e (by rw [h])
    rw [this]
    exact Ev.now _

end Same_
theorem same_calls (A0 : Option Addr) (c0 : Nat) (l0 : List Int) (A1 : Option Addr) (c1 : Nat) (l1 : List Int) (w : World) (hr0 : Kd.C (Kd.int .u8) w A0 l0.length l0) (hc0 : l0.length ≤ c0) (hr1 : Kd.C (Kd.int .u8) w A1 l1.length l1) (hc1 : l1.length ≤ c1) (hm : l0.length ≤ 281474976710656) :
    Calls Try.prog 19 #[.slice A0 l0.length c0, .slice A1 l1.length c1] w fun e w' => e = .returned (.bool (decide (l0 = l1))) ∧ Below w.heap.size w w' := by
  obtain ⟨k, hk⟩ := Ev.rounds (Same_.same_ev l0 l1 hm)
  exact (colloquyref01_SameBytes.calls k A0 c0 l0 A1 c1 l1 _ w hr0 hc0 hr1 hc1 hk).mono fun e w' h => ⟨h.1, Drawn0.below h.2⟩
end Go.Proofs.Ytkdahjnmldeklaa.PA

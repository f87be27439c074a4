/- What the functions of the layer pack come to, on lists of bytes: for the laws PackWrites, PackRecords, PackTurns. -/
import Derived.Test.YtmlemnfleicnfaaPurePackSums
import Derived.Test.YtmlemnfleicnfaaPAx31
import Derived.Test.YtmlemnfleicnfaaPAx18
import Derived.Test.YtmlemnfleicnfaaPAx19
import Derived.Test.YtmlemnfleicnfaaPAx26
import Derived.Test.YtmlemnfleicnfaaPAx28
import Derived.Test.YtmlemnfleicnfaaPAx30
import Derived.Test.YtmlemnfleicnfaaHRefText
namespace Go.Proofs.Ytmlemnfleicnfaa.Pure
open Go.RowKit Go.Proofs.Ytmlemnfleicnfaa.PA Go.Proofs.YtmlemnfleicnfaaW.PrintWords Go.Proofs.YtmlemnfleicnfaaW.PrintLast Go.Proofs.YtmlemnfleicnfaaW.PrintMore

theorem same_l (xs ys : List Int) (hl : xs.length = ys.length) (hm : xs.length ≤ 281474976710656) : ∀ (d i : Nat), i ≤ xs.length → d = xs.length - i →
    Ev (fun k => colloquyref01_SameBytes.l0 k xs ys i) (decide (xs.drop i = ys.drop i)) := by
  intro d
  induction d with
  | zero =>
    intro i hi hd
    refine Ev.step (f := fun _ => some (decide (xs.drop i = ys.drop i))) (fun k => ?_) (Ev.now _)
    simp only [colloquyref01_SameBytes.l0]
    rw [if_neg (by omega), List.drop_of_length_le (by omega), List.drop_of_length_le (by omega)]
    simp
  | succ d ih =>
    intro i hi hd
    have h1 : i < xs.length := by omega
    have h2 : i < ys.length := by omega
    by_cases e : rd xs i = rd ys i
    · refine Ev.step (f := fun k => colloquyref01_SameBytes.l0 k xs ys ((i + 1 : Nat) : Int)) (fun k => ?_) ?_
      · simp only [colloquyref01_SameBytes.l0]
        rw [if_pos (by omega), if_pos (by omega), if_pos (by omega), if_pos e, wrap_in (by omega) (by omega)]
        rfl
      · have := ih (i + 1) (by omega) (by omega)
        rw [drop_rd xs i h1, drop_rd ys i h2, e]
        simpa using this
    · refine Ev.step (f := fun _ => some false) (fun k => ?_) ?_
      · simp only [colloquyref01_SameBytes.l0]
        rw [if_pos (by omega), if_pos (by omega), if_pos (by omega), if_neg e]
      · rw [drop_rd xs i h1, drop_rd ys i h2]
        have : decide (rd xs i :: xs.drop (i + 1) = rd ys i :: ys.drop (i + 1)) = false := by simp [e]
        rw [this]
        exact Ev.now _
theorem same_ev (xs ys : List Int) (hm : xs.length ≤ 281474976710656) : Ev (fun k => colloquyref01_SameBytes.f k xs ys) (decide (xs = ys)) := by
  unfold colloquyref01_SameBytes.f
  by_cases e : xs.length = ys.length
  · refine Ev.congr (f := fun k => colloquyref01_SameBytes.l0 k xs ys 0) (fun k => if_pos (by omega)) ?_
    simpa using same_l xs ys e hm xs.length 0 (by omega) (by omega)
  · refine Ev.congr (f := fun _ => some false) (fun k => if_neg (by omega)) ?_
    have : decide (xs = ys) = false := by
      simp
      intro h
      exact e (by rw [h])
    rw [this]
    exact Ev.now _

theorem join_l1 (ys : List Int) (hy : ys.length ≤ 140737488355328) : ∀ (d i : Nat) (out : List Int), i ≤ ys.length → d = ys.length - i → out.length + d ≤ 140737488355328 →
    Ev (fun k => colloquyref08_Join.l1 k ys out i) (out ++ ys.drop i) := by
  intro d
  induction d with
  | zero =>
    intro i out hi hd ho
    refine Ev.step (f := fun _ => some (out ++ ys.drop i)) (fun k => ?_) (Ev.now _)
    simp only [colloquyref08_Join.l1]
    rw [if_neg (by omega), List.drop_of_length_le (by omega)]
    simp
  | succ d ih =>
    intro i out hi hd ho
    have h1 : i < ys.length := by omega
    refine Ev.step (f := fun k => colloquyref08_Join.l1 k ys (out ++ [rd ys i]) ((i + 1 : Nat) : Int)) (fun k => ?_) ?_
    · simp only [colloquyref08_Join.l1]
      rw [if_pos (by omega), if_pos (by omega), if_pos (by omega)]
      have : wrap64 ((i : Int) + 1) = ((i + 1 : Nat) : Int) := by unfold wrap64; omega
      rw [this]
    · have := ih (i + 1) (out ++ [rd ys i]) (by omega) (by omega) (by simp; omega)
      rw [drop_rd ys i h1]
      simpa using this
theorem join_l0 (xs ys : List Int) (hs : xs.length + ys.length ≤ 140737488355328) : ∀ (d i : Nat) (out : List Int), i ≤ xs.length → d = xs.length - i → out.length + d = xs.length →
    Ev (fun k => colloquyref08_Join.l0 k xs ys out i) (out ++ xs.drop i ++ ys) := by
  intro d
  induction d with
  | zero =>
    intro i out hi hd ho
    refine Ev.step (f := fun k => colloquyref08_Join.l1 k ys out 0) (fun k => ?_) ?_
    · simp only [colloquyref08_Join.l0]
      rw [if_neg (by omega)]
    · have := join_l1 ys (by omega) ys.length 0 out (by omega) (by omega) (by omega)
      rw [List.drop_of_length_le (by omega)]
      simpa using this
  | succ d ih =>
    intro i out hi hd ho
    have h1 : i < xs.length := by omega
    refine Ev.step (f := fun k => colloquyref08_Join.l0 k xs ys (out ++ [rd xs i]) ((i + 1 : Nat) : Int)) (fun k => ?_) ?_
    · simp only [colloquyref08_Join.l0]
      rw [if_pos (by omega), if_pos (by omega), if_pos (by omega)]
      have : wrap64 ((i : Int) + 1) = ((i + 1 : Nat) : Int) := by unfold wrap64; omega
      rw [this]
    · have := ih (i + 1) (out ++ [rd xs i]) (by omega) (by omega) (by simp; omega)
      rw [drop_rd xs i h1]
      simpa using this
theorem join_ev (xs ys : List Int) (hs : xs.length + ys.length ≤ 140737488355328) : Ev (fun k => colloquyref08_Join.f k xs ys) (xs ++ ys) := by
  unfold colloquyref08_Join.f
  simpa using join_l0 xs ys hs xs.length 0 [] (by omega) (by omega) (by simp)

theorem clone_eq (xs : List Int) (h : xs.length < 140737488355328) : slices_Clone_byte_byte.f xs = some xs := if_pos h
theorem putN_length : ∀ (f u : Nat), (putN f u).length ≤ f := by
  intro f
  induction f with
  | zero => intro u; exact Nat.le_refl _
  | succ f ih =>
    intro u
    unfold putN
    split
    · have := ih (u / 128); simp; omega
    · simp
theorem num_eq (xs : List Int) (n : Int) (h : xs.length < 140737488355300) : pack_Num.f xs n = some (xs ++ putN 9 (numOf n)) := by
  unfold pack_Num.f
  rw [clone_eq xs (by omega), Option.bind_some]
  unfold pack_put.f
  rw [if_pos h]
  rfl
theorem text_eq (xs : List Int) (s : ByteArray) (h : xs.length + s.size < 140737488355300) : pack_Text.f xs s = some (xs ++ putN 9 (numOf s.size) ++ bytesOf s) := by
  unfold pack_Text.f
  rw [num_eq xs _ (by omega), Option.bind_some, if_pos]
  have := putN_length 9 (numOf s.size)
  simp
  omega

theorem rnum_l (f : Nat) : ∀ (u : Nat) (out : List Int), u < 128 ^ (f + 1) → u ≤ 4611686018427387904 → out.length + f < 140737488355328 → Ev (fun k => colloquyref08_Num.l0 k u out) (out ++ putN (f + 1) u) := by
  induction f with
  | zero =>
    intro u out hu hm ho
    refine Ev.step (f := fun _ => some (out ++ putN 1 u)) (fun k => ?_) (Ev.now _)
    simp only [colloquyref08_Num.l0]
    rw [if_neg (by omega), if_pos (by omega)]
    unfold putN
    rw [if_neg (by omega), show ((u : Int) % 256) = u from by omega]
  | succ f ih =>
    intro u out hu hm ho
    by_cases hg : 127 < u
    · refine Ev.step (f := fun k => colloquyref08_Num.l0 k ((u / 128 : Nat) : Int) (out ++ [((u % 128 + 128 : Nat) : Int)])) (fun k => ?_) ?_
      · simp only [colloquyref08_Num.l0]
        rw [if_pos (by omega), if_pos (by omega)]
        have e1 : wrap64 (Int.tdiv (u : Int) 128) = ((u / 128 : Nat) : Int) := by
          rw [Int.tdiv_eq_ediv_of_nonneg (by omega), wrap_in (by omega) (by omega)]
          omega
        have e2 : (wrap64 ((Int.tmod (u : Int) 128) + 128)) % 256 = ((u % 128 + 128 : Nat) : Int) := by
          rw [Int.tmod_eq_emod_of_nonneg (by omega), wrap_in (by omega) (by omega)]
          omega
        rw [e1, e2]
      · have := ih (u / 128) (out ++ [((u % 128 + 128 : Nat) : Int)]) (by rw [Nat.pow_succ] at hu; omega) (by omega) (by simp; omega)
        have e : putN (f + 1 + 1) u = ((u % 128 + 128 : Nat) : Int) :: putN (f + 1) (u / 128) := by conv => lhs; unfold putN; rw [if_pos hg]
        rw [e]
        simpa using this
    · refine Ev.step (f := fun _ => some (out ++ putN (f + 1 + 1) u)) (fun k => ?_) (Ev.now _)
      simp only [colloquyref08_Num.l0]
      rw [if_neg (by omega), if_pos (by omega)]
      unfold putN
      rw [if_neg hg, show ((u : Int) % 256) = u from by omega]
theorem numOf_le (n : Int) : numOf n ≤ 4611686018427387904 := by
  unfold numOf mn mx
  split <;> split <;> omega
theorem rnum_ev (n : Int) : Ev (fun k => colloquyref08_Num.f k n) (putN 9 (numOf n)) := by
  have hend : Ev (fun k => colloquyref08_Num.l0 k (numOf n : Int) []) (putN 9 (numOf n)) := by
    have := rnum_l 8 (numOf n) [] (by have := numOf_le n; omega) (numOf_le n) (by simp)
    simpa using this
  have hj1 : Ev (fun k => colloquyref08_Num.j1 k (numOf n : Int)) (putN 9 (numOf n)) := Ev.step (fun k => by simp only [colloquyref08_Num.j1]) hend
  have hj0 : ∀ m : Int, 0 ≤ m → (numOf n : Int) = (if m > 4611686018427387904 then 4611686018427387904 else m) → Ev (fun k => colloquyref08_Num.j0 k m) (putN 9 (numOf n)) := by
    intro m h0 hm
    refine Ev.step (f := fun k => colloquyref08_Num.j1 k (numOf n : Int)) (fun k => ?_) hj1
    simp only [colloquyref08_Num.j0]
    rw [hm]
    split <;> rfl
  unfold colloquyref08_Num.f
  by_cases h : n < 0
  · refine Ev.congr (fun k => if_pos h) (hj0 0 (by omega) ?_)
    rw [if_neg (by omega)]
    unfold numOf mn mx
    split <;> split <;> omega
  · refine Ev.congr (fun k => if_neg h) (hj0 n (by omega) ?_)
    unfold numOf mn mx
    split <;> (try split) <;> (try split) <;> omega
theorem rtext_ev (s : ByteArray) (h : s.size ≤ 140737488351232) : Ev (fun k => colloquyref08_Text.f k s) (putN 9 (numOf s.size) ++ bytesOf s) := by
  refine Ev.congr (f := fun k => (colloquyref08_Num.f k (s.size : Int)).bind fun n => colloquyref08_Join.f k n (bytesOf s)) (fun k => if_pos (by omega)) ?_
  refine Ev.bind (rnum_ev _) (join_ev _ _ ?_)
  have := putN_length 9 (numOf s.size)
  rw [bytesOf_length]
  omega
end Go.Proofs.Ytmlemnfleicnfaa.Pure

/- Every text is a name, or none, and is written as the document says. -/
import Derived.Test.YtoinmpjjmkpamaaPAx12
namespace Go.Proofs.Ytoinmpjjmkpamaa.Pure
open Go.RowKit Go.Proofs.Ytoinmpjjmkpamaa.PA Go.Proofs.YtoinmpjjmkpamaaW.PrintWords Go.Proofs.YtoinmpjjmkpamaaW.PrintLast Go.Proofs.YtoinmpjjmkpamaaW.PrintMore

theorem wrap_id {i : Int} (h0 : -9223372036854775808 ≤ i) (h : i ≤ 9223372036854775807) : wrap64 i = i := by
  unfold wrap64
  omega
/-- Does the byte at a place stand for itself? -/
def plainV (s : ByteArray) (i : Nat) : Bool := decide (32 < bt s i ∧ bt s i < 127 ∧ bt s i ≠ 92 ∨ bt s i = 32 ∧ 0 < i ∧ i + 1 < s.size)
theorem plain_eq (s : ByteArray) (i : Nat) (hi : i < s.size) (hm : s.size ≤ 281474976710656) : name_plain.f s i = some (plainV s i) := by
  have hw : wrap64 ((s.size : Int) - 1) = s.size - 1 := wrap_id (by omega) (by omega)
  unfold name_plain.f plainV
  rw [if_pos (by omega), if_pos (by omega), hw]
  generalize bt s i = c
  repeat' split
  all_goals first
    | exact congrArg some (decide_eq_true (by omega)).symm
    | exact congrArg some (decide_eq_false (by omega)).symm
    | exact congrArg some (decide_eq_decide.2 (by omega))
theorem nmStep_eq (s : ByteArray) (i : Nat) (hi : i < s.size) (hm : s.size ≤ 281474976710656) : nmStep s i = if plainV s i = true then [bt s i] else [92, bt nmDig (bt s i / 16), bt nmDig (bt s i % 16)] := by
  unfold nmStep
  rw [plain_eq s i hi hm]
  by_cases h : plainV s i = true
  · rw [if_pos h, if_pos (by rw [h])]
  · rw [if_neg h, if_neg (by simpa using h)]
/-- A name written. -/
def wr (s : ByteArray) : ByteArray := if 1 ≤ s.size ∧ s.size ≤ 80 then strOfNums (nmPre s s.size) else ⟨#[]⟩
theorem write_eq (s : ByteArray) : name_Write.f s = some (wr s) := rfl
def rightB (s : ByteArray) : Bool := decide (1 ≤ s.size ∧ s.size ≤ 80)
theorem right_eq (s : ByteArray) : name_Right.f s = some (rightB s) := by
  unfold name_Right.f rightB
  split
  all_goals first
    | exact congrArg some (decide_eq_false (by omega)).symm
    | exact congrArg some (decide_eq_decide.2 (by omega))
theorem rright_eq (s : ByteArray) : colloquyref02_Right.f s = some (rightB s) := by
  unfold colloquyref02_Right.f rightB
  split
  all_goals first
    | exact congrArg some (decide_eq_false (by omega)).symm
    | exact congrArg some (decide_eq_decide.2 (by omega))
theorem hex_nat : ∀ n : Nat, n < 16 → colloquyref02_hex.f (n : Int) = some (bt nmDig n) := by decide +kernel
theorem hex_eq (x : Int) (h0 : 0 ≤ x) (h1 : x < 16) : colloquyref02_hex.f x = some (bt nmDig x) := by
  obtain ⟨n, rfl⟩ := Int.eq_ofNat_of_zero_le h0
  exact hex_nat n (by omega)
theorem rw_l0 (k : Nat) (s : ByteArray) (out : List Int) (n : Nat) (hn : n < s.size) (hm : s.size ≤ 281474976710656) :
    colloquyref02_Write.l0 (k + 1) s out n = colloquyref02_Write.j1 k s out n (bt s n) (decide (bt s n = 32 ∧ n ≠ 0 ∧ n + 1 ≠ s.size)) := by
  have hw : wrap64 ((s.size : Int) - 1) = s.size - 1 := wrap_id (by omega) (by omega)
  simp only [colloquyref02_Write.l0]
  rw [if_pos (by omega), if_pos (by omega), hw]
  split
  · split
    · congr 1
      exact (decide_eq_false (by omega)).symm
    · congr 1
      rw [Bool.eq_iff_iff, bne_iff_ne, decide_eq_true_eq]
      omega
  · congr 1
    exact (decide_eq_false (by omega)).symm
theorem rw_j1 (k : Nat) (s : ByteArray) (out : List Int) (n : Nat) (c : Int) (b : Bool) :
    colloquyref02_Write.j1 (k + 1) s out n c b = colloquyref02_Write.j2 k s out n c (b || decide (33 ≤ c ∧ c ≤ 126 ∧ c ≠ 92)) := by
  simp only [colloquyref02_Write.j1]
  cases b with
  | true => rw [if_pos rfl]; rfl
  | false =>
    rw [if_neg (by simp), Bool.false_or]
    split
    · split
      · congr 1
        rw [Bool.eq_iff_iff, bne_iff_ne, decide_eq_true_eq]
        omega
      · congr 1
        exact (decide_eq_false (by omega)).symm
    · congr 1
      exact (decide_eq_false (by omega)).symm
theorem plain_or (s : ByteArray) (n : Nat) (hn : n < s.size) : (decide (bt s n = 32 ∧ n ≠ 0 ∧ n + 1 ≠ s.size) || decide (33 ≤ bt s n ∧ bt s n ≤ 126 ∧ bt s n ≠ 92)) = plainV s n := by
  unfold plainV
  rw [Bool.eq_iff_iff, Bool.or_eq_true, decide_eq_true_eq, decide_eq_true_eq, decide_eq_true_eq]
  omega
theorem rwrite_l (s : ByteArray) (hs : s.size ≤ 80) : ∀ (d n : Nat), n ≤ s.size → d = s.size - n →
    Ev (fun k => colloquyref02_Write.l0 k s (nmPre s n) n) (strOfNums (nmPre s s.size)) := by
  intro d
  induction d with
  | zero =>
    intro n hn hd
    obtain rfl : n = s.size := by omega
    refine Ev.step (f := fun _ => some (strOfNums (nmPre s s.size))) (fun k => ?_) (Ev.now _)
    simp only [colloquyref02_Write.l0]
    rw [if_neg (by omega)]
  | succ d ih =>
    intro n hn hd
    have hlt : n < s.size := by omega
    have hl := nmPre_len s n
    have e : wrap64 ((n : Int) + 1) = ((n + 1 : Nat) : Int) := by unfold wrap64; omega
    refine Ev.step (fun k => rw_l0 k s _ n hlt (by omega)) (Ev.step (fun k => rw_j1 k s _ n _ _) ?_)
    rw [plain_or s n hlt]
    have hi := ih (n + 1) (by omega) (by omega)
    rw [nmPre_succ, nmStep_eq s n hlt (by omega)] at hi
    by_cases hp : plainV s n = true
    · rw [if_pos hp] at hi
      refine Ev.step (fun k => ?_) hi
      simp only [colloquyref02_Write.j2]
      rw [if_pos hp, if_pos (by omega), e]
    · rw [if_neg hp] at hi
      obtain ⟨c0, c1⟩ := bt_range s n
      have e1 : (Int.tdiv (bt s n) 16) % 256 = bt s n / 16 := by
        rw [Int.tdiv_eq_ediv_of_nonneg c0]
        omega
      have e2 : Int.tmod (bt s n) 16 = bt s n % 16 := Int.tmod_eq_emod_of_nonneg c0
      refine Ev.step (fun k => ?_) hi
      simp only [colloquyref02_Write.j2]
      rw [if_neg hp, e1, e2, hex_eq _ (by omega) (by omega), hex_eq _ (by omega) (by omega)]
      simp only [Option.bind_some]
      rw [if_pos (by simp; omega), e]
theorem rwrite_ev (s : ByteArray) : Ev (fun k => colloquyref02_Write.f k s) (wr s) := by
  unfold colloquyref02_Write.f
  rw [rright_eq]
  simp only [Option.bind_some]
  by_cases h : rightB s = true
  · have h' := of_decide_eq_true h
    refine Ev.congr (fun k => if_pos h) ?_
    unfold wr
    rw [if_pos h']
    exact rwrite_l s h'.2 s.size 0 (by omega) (by omega)
  · refine Ev.congr (fun k => if_neg h) ?_
    unfold wr
    rw [if_neg (fun h' => h (decide_eq_true h'))]
    exact Ev.now _
theorem writing_true : colloquylaw02_writing.f = some true := by decide +kernel
theorem NameWrites : colloquylaw02_NameWrites.Pure := by
  intro s hs
  refine Ev.rounds ?_
  unfold colloquylaw02_NameWrites.f
  rw [writing_true]
  simp only [Option.bind_some]
  refine Ev.congr (fun k => if_pos (by trivial)) ?_
  rw [write_eq]
  simp only [Option.bind_some]
  refine Ev.bind (rwrite_ev s) (Ev.congr (fun k => if_pos rfl) ?_)
  rw [right_eq, rright_eq]
  simp only [Option.bind_some]
  rw [beq_self_eq_true]
  exact Ev.now _
end Go.Proofs.Ytoinmpjjmkpamaa.Pure

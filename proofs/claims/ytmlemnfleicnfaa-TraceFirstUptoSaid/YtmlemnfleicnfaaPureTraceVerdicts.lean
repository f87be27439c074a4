/- Every test's verdict is as said, of all traces: the program's search for the first event that decides and the reference's loop agree. -/
import Derived.Test.YtmlemnfleicnfaaStmtTraceVerdicts
namespace Go.Proofs.Ytmlemnfleicnfaa.Pure
open Go.RowKit Go.Proofs.Ytmlemnfleicnfaa.PA Go.Proofs.YtmlemnfleicnfaaW.PrintWords Go.Proofs.YtmlemnfleicnfaaW.PrintLast Go.Proofs.YtmlemnfleicnfaaW.PrintMore

theorem wrap_id {i : Int} (h0 : -9223372036854775808 ≤ i) (h : i ≤ 9223372036854775807) : wrap64 i = i := by
  unfold wrap64
  omega
/-- Does an event decide? -/
def decB (a b : Int) : Bool := if a = 5 ∨ a = 6 ∨ a = 7 then decide (b < 0) else decide (a = 8 ∨ a = 9 ∨ a = 11 ∨ a = 12 ∨ a = 13)
def dec (e : S70) : Bool := decB e.f0 e.f1
theorem decj_ev (x4 : Int) (x5 : Bool) (a b : Int) (s : ByteArray) (c : Int) :
    Ev (fun k => trace_Decides.j0 k x4 x5 a b s c) (if x5 = true then decide (b < 0) else decide (x4 = 8 ∨ x4 = 9 ∨ x4 = 11 ∨ x4 = 12 ∨ x4 = 13)) := by
  refine Ev.step (f := fun _ => some (if x5 = true then decide (b < 0) else decide (x4 = 8 ∨ x4 = 9 ∨ x4 = 11 ∨ x4 = 12 ∨ x4 = 13))) (fun k => ?_) (Ev.now _)
  simp only [trace_Decides.j0]
  by_cases h : x5 = true
  · rw [if_pos h, if_pos h]
  · rw [if_neg h, if_neg h]
    by_cases h8 : x4 = 8
    · rw [if_pos h8]; simp [h8]
    rw [if_neg h8]
    by_cases h9 : x4 = 9
    · rw [if_pos h9]; simp [h9]
    rw [if_neg h9]
    by_cases h11 : x4 = 11
    · rw [if_pos h11]; simp [h11]
    rw [if_neg h11]
    by_cases h12 : x4 = 12
    · rw [if_pos h12]; simp [h12]
    rw [if_neg h12]
    by_cases h13 : x4 = 13
    · rw [if_pos h13]; simp [h13]
    rw [if_neg h13]
    simp [h8, h9, h11, h12, h13]
theorem decides_ev (a b : Int) (s : ByteArray) (c : Int) : Ev (fun k => trace_Decides.f k a b s c) (decB a b) := by
  unfold trace_Decides.f decB
  by_cases h5 : a = 5
  · refine Ev.congr (fun k => if_pos h5) ?_
    have := decj_ev a (a == 5) a b s c
    rw [if_pos (Or.inl h5)]
    rwa [if_pos (by simp [h5])] at this
  refine Ev.congr (fun k => if_neg h5) ?_
  by_cases h6 : a = 6
  · refine Ev.congr (fun k => if_pos h6) ?_
    have := decj_ev a (a == 6) a b s c
    rw [if_pos (Or.inr (Or.inl h6))]
    rwa [if_pos (by simp [h6])] at this
  refine Ev.congr (fun k => if_neg h6) ?_
  have := decj_ev a (a == 7) a b s c
  by_cases h7 : a = 7
  · rw [if_pos (Or.inr (Or.inr h7))]
    rwa [if_pos (by simp [h7])] at this
  · rw [if_neg (by omega)]
    rwa [if_neg (by simp [h7])] at this
theorem rdecides_eq (a b : Int) (s : ByteArray) (c : Int) : colloquyref18_Decides.f a b s c = some (decB a b) := by
  unfold colloquyref18_Decides.f decB
  by_cases h5 : a = 5
  · rw [if_pos h5, if_pos (Or.inl h5)]
  rw [if_neg h5]
  by_cases h6 : a = 6
  · rw [if_pos h6, if_pos (Or.inr (Or.inl h6))]
  rw [if_neg h6]
  by_cases h7 : a = 7
  · rw [if_pos h7, if_pos (Or.inr (Or.inr h7))]
  rw [if_neg h7, if_neg (c := a = 5 ∨ a = 6 ∨ a = 7) (by omega)]
  by_cases h8 : a = 8
  · rw [if_pos h8]; simp [h8]
  rw [if_neg h8]
  by_cases h9 : a = 9
  · rw [if_pos h9]; simp [h9]
  rw [if_neg h9]
  by_cases h11 : a = 11
  · rw [if_pos h11]; simp [h11]
  rw [if_neg h11]
  by_cases h12 : a = 12
  · rw [if_pos h12]; simp [h12]
  rw [if_neg h12]
  simp [h8, h9, h11, h12]
  rw [Bool.eq_iff_iff]; simp

abbrev EvT := S70
theorem drop_rdT (xs : List EvT) (n : Nat) (h : n < xs.length) : xs.drop n = rd_T70 xs n :: xs.drop (n + 1) := by
  rw [List.drop_eq_getElem_cons h]
  unfold rd_T70
  rw [Int.toNat_natCast, List.getD_eq_getElem?_getD, List.getElem?_eq_getElem h]
  rfl
theorem index_l (xs : List EvT) (hm : xs.length ≤ maxLen) : ∀ (d n : Nat), n ≤ xs.length → d = xs.length - n →
    ((xs.drop n).find? dec = none ∧ Ev (fun k => api_Event.l0 k xs xs.length n) (-1)) ∨ ∃ j : Nat, j < xs.length ∧ (xs.drop n).find? dec = some (rd_T70 xs j) ∧ Ev (fun k => api_Event.l0 k xs xs.length n) (j : Int) := by
  have hmax : maxLen = 9223372036854775807 := rfl
  intro d
  induction d with
  | zero =>
    intro n hn hd
    refine .inl ⟨?_, Ev.step (f := fun _ => some (-1)) (fun k => ?_) (Ev.now _)⟩
    · rw [List.drop_of_length_le (by omega)]; rfl
    · simp only [api_Event.l0]
      rw [if_neg (by omega)]
  | succ d ih =>
    intro n hn hd
    have hlt : n < xs.length := by omega
    have hd1 := decides_ev (rd_T70 xs n).f0 (rd_T70 xs n).f1 (rd_T70 xs n).f2 (rd_T70 xs n).f3
    by_cases hdec : dec (rd_T70 xs n) = true
    · refine .inr ⟨n, hlt, ?_, ?_⟩
      · rw [drop_rdT xs n hlt, List.find?_cons_of_pos hdec]
      · refine Ev.step (fun k => by simp only [api_Event.l0]; rw [if_pos (by omega), if_pos (by omega), if_pos (by omega)]) ?_
        refine Ev.bind hd1 ?_
        exact Ev.congr (f := fun _ => some (n : Int)) (fun k => if_pos hdec) (Ev.now _)
    · have step : ∀ r, Ev (fun k => api_Event.l0 k xs xs.length ((n + 1 : Nat) : Int)) r → Ev (fun k => api_Event.l0 k xs xs.length n) r := by
        intro r hr
        refine Ev.step (fun k => by simp only [api_Event.l0]; rw [if_pos (by omega), if_pos (by omega), if_pos (by omega)]) ?_
        refine Ev.bind hd1 ?_
        refine Ev.congr (fun k => if_neg hdec) ?_
        rw [wrap_id (by omega) (by omega)]
        exact hr
      have hf : (xs.drop n).find? dec = (xs.drop (n + 1)).find? dec := by rw [drop_rdT xs n hlt, List.find?_cons_of_neg hdec]
      rcases ih (n + 1) (by omega) (by omega) with ⟨h1, h2⟩ | ⟨j, h1, h2, h3⟩
      · exact .inl ⟨hf.trans h1, step _ h2⟩
      · exact .inr ⟨j, h1, hf.trans h2, step _ h3⟩
/-- What the first event that decides says. -/
def says (e : Option EvT) (b : Bool) : Int := match e with
  | none => 5
  | some e => if e.f0 = 12 then (if b = true then 3 else 1) else if e.f0 = 13 ∨ e.f0 = 11 then (if b = true then 4 else 2) else 5
def verdictOf (kind : Int) (xs : List EvT) (b : Bool) : Int := if kind = 1 then 6 else if kind = 2 then 7 else says (xs.find? dec) b
theorem verdj_ev (b x25 : Bool) : Ev (fun k => trace_Verdict.j0 k b 5 x25) (if x25 = true then (if b = true then 4 else 2) else 5) := by
  refine Ev.step (f := fun _ => some (if x25 = true then (if b = true then 4 else 2) else 5)) (fun k => ?_) (Ev.now _)
  simp only [trace_Verdict.j0]
  cases b <;> cases x25 <;> rfl
theorem verdict_ev (kind : Int) (xs : List EvT) (b : Bool) (hm : xs.length ≤ maxLen) : Ev (fun k => trace_Verdict.f k kind xs b) (verdictOf kind xs b) := by
  unfold trace_Verdict.f verdictOf
  by_cases h1 : kind = 1
  · rw [if_pos h1]
    exact Ev.congr (fun k => if_pos h1) (Ev.now _)
  rw [if_neg h1]
  refine Ev.congr (fun k => if_neg h1) ?_
  by_cases h2 : kind = 2
  · rw [if_pos h2]
    exact Ev.congr (fun k => if_pos h2) (Ev.now _)
  rw [if_neg h2]
  refine Ev.congr (fun k => if_neg h2) ?_
  rcases index_l xs hm xs.length 0 (by omega) (by omega) with ⟨hf, hi⟩ | ⟨j, hj, hf, hi⟩
  · rw [List.drop_zero] at hf
    rw [hf]
    refine Ev.bind (g := fun k => api_Event.f k xs) hi ?_
    exact Ev.congr (fun k => if_pos (by omega)) (Ev.now _)
  · rw [List.drop_zero] at hf
    rw [hf]
    refine Ev.bind (g := fun k => api_Event.f k xs) hi ?_
    refine Ev.congr (fun k => (if_neg (by omega)).trans ((if_pos (by omega)).trans (if_pos (by omega)))) ?_
    unfold says
    simp only
    by_cases h12 : (rd_T70 xs j).f0 = 12
    · rw [if_pos h12]
      refine Ev.congr (f := fun _ => some (if b = true then 3 else 1)) (fun k => (if_pos h12).trans ?_) (Ev.now _)
      cases b <;> rfl
    rw [if_neg h12]
    refine Ev.congr (fun k => if_neg h12) ?_
    by_cases h13 : (rd_T70 xs j).f0 = 13
    · rw [if_pos (Or.inl h13)]
      refine Ev.congr (fun k => if_pos h13) ?_
      have := verdj_ev b ((rd_T70 xs j).f0 == 13)
      rwa [if_pos (by simp [h13])] at this
    refine Ev.congr (fun k => if_neg h13) ?_
    have := verdj_ev b ((rd_T70 xs j).f0 == 11)
    by_cases h11 : (rd_T70 xs j).f0 = 11
    · rw [if_pos (Or.inr h11)]
      rwa [if_pos (by simp [h11])] at this
    · rw [if_neg (by omega)]
      rwa [if_neg (by simp [h11])] at this
theorem rverdj_ev (b x : Bool) : Ev (fun k => colloquyref18_Verdict.j1 k b x) (if x = true then (if b = true then 4 else 2) else 5) := by
  refine Ev.step (f := fun _ => some (if x = true then (if b = true then 4 else 2) else 5)) (fun k => ?_) (Ev.now _)
  simp only [colloquyref18_Verdict.j1]
  cases b <;> cases x <;> rfl
theorem rverdict_l (xs : List EvT) (b : Bool) (hm : xs.length ≤ maxLen) : ∀ (d n : Nat), n ≤ xs.length → d = xs.length - n →
    Ev (fun k => colloquyref18_Verdict.l0 k xs b n) (says ((xs.drop n).find? dec) b) := by
  have hmax : maxLen = 9223372036854775807 := rfl
  intro d
  induction d with
  | zero =>
    intro n hn hd
    rw [List.drop_of_length_le (by omega)]
    refine Ev.step (f := fun _ => some 5) (fun k => ?_) (Ev.now _)
    simp only [colloquyref18_Verdict.l0]
    rw [if_neg (by omega)]
  | succ d ih =>
    intro n hn hd
    have hlt : n < xs.length := by omega
    have hs : ∀ r, Ev (fun k => if decB (rd_T70 xs n).f0 (rd_T70 xs n).f1 = true then (if ((rd_T70 xs n).f0) = 12 then (if b = true then (some 3) else (some 1)) else (if ((rd_T70 xs n).f0) = 11 then (colloquyref18_Verdict.j1 k b (((rd_T70 xs n).f0) == 11)) else (colloquyref18_Verdict.j1 k b (((rd_T70 xs n).f0) == 13)))) else (colloquyref18_Verdict.l0 k xs b ((n + 1 : Nat) : Int))) r → Ev (fun k => colloquyref18_Verdict.l0 k xs b n) r := by
      intro r hr
      refine Ev.step (fun k => ?_) hr
      simp only [colloquyref18_Verdict.l0]
      rw [if_pos (by omega), if_pos (by omega), rdecides_eq, Option.bind_some, wrap_id (by omega) (by omega)]
      rfl
    refine hs _ ?_
    rw [drop_rdT xs n hlt]
    by_cases hdec : dec (rd_T70 xs n) = true
    · rw [List.find?_cons_of_pos hdec]
      refine Ev.congr (fun k => if_pos hdec) ?_
      unfold says
      simp only
      by_cases h12 : (rd_T70 xs n).f0 = 12
      · rw [if_pos h12]
        refine Ev.congr (f := fun _ => some (if b = true then 3 else 1)) (fun k => (if_pos h12).trans ?_) (Ev.now _)
        cases b <;> rfl
      rw [if_neg h12]
      refine Ev.congr (fun k => if_neg h12) ?_
      by_cases h11 : (rd_T70 xs n).f0 = 11
      · rw [if_pos (Or.inr h11)]
        refine Ev.congr (fun k => if_pos h11) ?_
        have := rverdj_ev b ((rd_T70 xs n).f0 == 11)
        rwa [if_pos (by simp [h11])] at this
      refine Ev.congr (fun k => if_neg h11) ?_
      have := rverdj_ev b ((rd_T70 xs n).f0 == 13)
      by_cases h13 : (rd_T70 xs n).f0 = 13
      · rw [if_pos (Or.inl h13)]
        rwa [if_pos (by simp [h13])] at this
      · rw [if_neg (by omega)]
        rwa [if_neg (by simp [h13])] at this
    · rw [List.find?_cons_of_neg hdec]
      exact Ev.congr (fun k => if_neg hdec) (ih (n + 1) (by omega) (by omega))
theorem rverdict_ev (kind : Int) (xs : List EvT) (b : Bool) (hm : xs.length ≤ maxLen) : Ev (fun k => colloquyref18_Verdict.f k kind xs b) (verdictOf kind xs b) := by
  unfold colloquyref18_Verdict.f verdictOf
  by_cases h1 : kind = 1
  · rw [if_pos h1]
    exact Ev.congr (fun k => if_pos h1) (Ev.now _)
  rw [if_neg h1]
  refine Ev.congr (fun k => if_neg h1) ?_
  by_cases h2 : kind = 2
  · rw [if_pos h2]
    exact Ev.congr (fun k => if_pos h2) (Ev.now _)
  rw [if_neg h2]
  refine Ev.congr (fun k => if_neg h2) ?_
  have := rverdict_l xs b hm xs.length 0 (by omega) (by omega)
  simpa using this

theorem alive_ev : Ev (fun k => colloquylaw18_alive.f k) true := by
  refine ⟨60, fun k hk => ?_⟩
  have h60 : colloquylaw18_alive.f 60 = some true := by decide +kernel
  exact at_rounds colloquylaw18_alive.mono hk h60
theorem TraceVerdicts : colloquylaw18_TraceVerdicts.PureU := by
  intro kind xs b _ hx
  refine Ev.rounds ?_
  unfold colloquylaw18_TraceVerdicts.f
  refine Ev.bind alive_ev (Ev.congr (fun k => if_pos rfl) ?_)
  refine Ev.bind (verdict_ev kind xs b hx.1) (Ev.bind (rverdict_ev kind xs b hx.1) ?_)
  simp only [beq_self_eq_true]
  exact Ev.now _
end Go.Proofs.Ytmlemnfleicnfaa.Pure

/- A verdict hangs on the first event that decides alone; with xfail turned just PASS and XPASS, FAIL and XFAIL change places: for two traces of bulk at most 1048576 together. -/
import Derived.Test.YtmlemnfleicnfaaPureTraceVerdicts
import Derived.Test.YtmlemnfleicnfaaStmtTraceFirst
namespace Go.Proofs.Ytmlemnfleicnfaa.Pure
open Go.RowKit Go.Proofs.Ytmlemnfleicnfaa.PA Go.Proofs.YtmlemnfleicnfaaW.PrintWords Go.Proofs.YtmlemnfleicnfaaW.PrintLast Go.Proofs.YtmlemnfleicnfaaW.PrintMore

theorem len_le_wt (xs : List EvT) : xs.length ≤ (xs.map (fun x => wt70 x)).sum := sum_le_of (fun x => wt70 x) (fun x => by unfold wt70; omega) xs
theorem decided_l (x0 x1 : List EvT) (x2 : Bool) (x7 : Int) (x8 : List EvT) (hm : x0.length ≤ 1048576) (r : Bool) (b : Bool)
    (hend : ∀ q : Bool, q = (b || x0.any dec) → Ev (fun k => if q = true then ((trace_Verdict.f k 0 x8 x2).bind fun t362 => (if t362 = x7 then (colloquylaw18_TraceFirst.j1 k x0 x2 x7 false) else (colloquylaw18_TraceFirst.j1 k x0 x2 x7 true))) else (if x7 = 5 then ((trace_Verdict.f k 0 x8 x2).bind fun t363 => ((trace_Verdict.f k 0 x1 x2).bind fun t364 => (colloquylaw18_TraceFirst.j1 k x0 x2 x7 (t363 != t364)))) else (colloquylaw18_TraceFirst.j1 k x0 x2 x7 true))) r) :
    ∀ (d n : Nat) (q : Bool), n ≤ x0.length → d = x0.length - n → (q || (x0.drop n).any dec) = (b || x0.any dec) → Ev (fun k => colloquylaw18_TraceFirst.l0 k x0 x1 x2 x7 x8 q x0 x0.length n) r := by
  intro d
  induction d with
  | zero =>
    intro n q hn hd hq
    rw [List.drop_of_length_le (by omega), List.any_nil, Bool.or_false] at hq
    refine Ev.step (fun k => by simp only [colloquylaw18_TraceFirst.l0]; rw [if_neg (by omega)]) (hend q hq)
  | succ d ih =>
    intro n q hn hd hq
    have hlt : n < x0.length := by omega
    rw [drop_rdT x0 n hlt, List.any_cons] at hq
    cases q with
    | true =>
      refine Ev.step (f := fun k => colloquylaw18_TraceFirst.l0 k x0 x1 x2 x7 x8 true x0 x0.length ((n + 1 : Nat) : Int)) (fun k => ?_) (ih (n + 1) true (by omega) (by omega) (by simpa using hq))
      simp only [colloquylaw18_TraceFirst.l0]
      rw [if_pos (by omega), if_pos (by omega), if_pos (by omega), if_pos trivial, wrap_id (by omega) (by omega)]
      rfl
    | false =>
      refine Ev.step (f := fun k => (trace_Decides.f k (rd_T70 x0 n).f0 (rd_T70 x0 n).f1 (rd_T70 x0 n).f2 (rd_T70 x0 n).f3).bind fun t => colloquylaw18_TraceFirst.l0 k x0 x1 x2 x7 x8 t x0 x0.length ((n + 1 : Nat) : Int)) (fun k => ?_) ?_
      · simp only [colloquylaw18_TraceFirst.l0]
        rw [if_pos (by omega), if_pos (by omega), if_pos (by omega), if_neg (by simp), wrap_id (by omega) (by omega)]
        rfl
      · refine Ev.bind (decides_ev _ _ _ _) (ih (n + 1) _ (by omega) (by omega) ?_)
        simpa [dec] using hq
theorem says_range (e : Option EvT) (b : Bool) : says e b = 5 ∨ says e b = 1 ∨ says e b = 2 ∨ says e b = 3 ∨ says e b = 4 := by
  unfold says
  cases e with
  | none => exact .inl rfl
  | some e =>
    simp only
    split
    · cases b
      · exact .inr (.inl rfl)
      · exact .inr (.inr (.inr (.inl rfl)))
    · split
      · cases b
        · exact .inr (.inr (.inl rfl))
        · exact .inr (.inr (.inr (.inr rfl)))
      · exact .inl rfl
theorem says_not (e : Option EvT) (b : Bool) : (says e b = 5 → says e (!b) = 5) ∧ (says e b ≠ 5 → 0 ≤ says e b ∧ says e b < 5 ∧ says e (!b) = rd [0, 3, 4, 1, 2] (says e b)) := by
  unfold says
  cases e with
  | none => exact ⟨fun _ => rfl, fun h => absurd rfl h⟩
  | some e =>
    simp only
    split
    · cases b
      · exact ⟨fun h => by simp at h, fun _ => ⟨by decide, by decide, by decide⟩⟩
      · exact ⟨fun h => by simp at h, fun _ => ⟨by decide, by decide, by decide⟩⟩
    · split
      · cases b
        · exact ⟨fun h => by simp at h, fun _ => ⟨by decide, by decide, by decide⟩⟩
        · exact ⟨fun h => by simp at h, fun _ => ⟨by decide, by decide, by decide⟩⟩
      · exact ⟨fun _ => rfl, fun h => absurd rfl h⟩
theorem verdictOf_zero (xs : List EvT) (b : Bool) : verdictOf 0 xs b = says (xs.find? dec) b := by
  unfold verdictOf
  rw [if_neg (by decide), if_neg (by decide)]
theorem last_ev (x0 : List EvT) (x2 : Bool) (hm : x0.length ≤ maxLen) : Ev (fun k => colloquylaw18_TraceFirst.j1 k x0 x2 (verdictOf 0 x0 x2) false) true := by
  refine Ev.step (fun k => by simp only [colloquylaw18_TraceFirst.j1]; exact if_neg (by simp)) ?_
  refine Ev.bind (verdict_ev 0 x0 (!x2) hm) ?_
  rw [verdictOf_zero, verdictOf_zero]
  obtain ⟨h5, hn⟩ := says_not (x0.find? dec) x2
  by_cases h : says (x0.find? dec) x2 = 5
  · refine Ev.congr (f := fun _ => some true) (fun k => (if_pos h).trans ?_) (Ev.now _)
    rw [h5 h, h]
    rfl
  · obtain ⟨a, b, c⟩ := hn h
    refine Ev.congr (f := fun _ => some true) (fun k => (if_neg h).trans ?_) (Ev.now _)
    rw [Option.bind_some, if_pos a, if_pos (by simpa using b), c]
    simp
theorem any_find (xs : List EvT) : xs.any dec = (xs.find? dec).isSome := by
  induction xs with
  | nil => rfl
  | cons x xs ih =>
    rw [List.any_cons]
    by_cases h : dec x = true
    · rw [List.find?_cons_of_pos h, h]; rfl
    · rw [List.find?_cons_of_neg h, ih]
      simp [h]
theorem TraceFirst : colloquylaw18_TraceFirst.PureU := by
  intro es more b he hmore hb
  have h1 := len_le_wt es
  have h2 := len_le_wt more
  have hmax : maxLen = 9223372036854775807 := rfl
  refine Ev.rounds ?_
  unfold colloquylaw18_TraceFirst.f
  refine Ev.bind alive_ev (Ev.congr (fun k => if_pos rfl) ?_)
  refine Ev.bind (verdict_ev 0 es b he.1) ?_
  refine Ev.congr (f := fun k => colloquylaw18_TraceFirst.l0 k es more b (verdictOf 0 es b) (es ++ more) false es es.length 0) (fun k => ?_) ?_
  · rw [Option.bind_some, if_pos (by simp; omega), Option.bind_some, if_pos (by simp; omega), List.nil_append]
  have hall : (es ++ more).length ≤ maxLen := by rw [List.length_append]; omega
  have hfind : (es ++ more).find? dec = (es.find? dec).or (more.find? dec) := List.find?_append
  refine decided_l es more b _ _ (by omega) true false (fun q hq => ?_) es.length 0 false (by omega) (by omega) (by simp)
  rw [Bool.false_or] at hq
  subst hq
  by_cases hd : es.any dec = true
  · refine Ev.congr (fun k => if_pos hd) ?_
    refine Ev.bind (verdict_ev 0 (es ++ more) b hall) ?_
    have heq : verdictOf 0 (es ++ more) b = verdictOf 0 es b := by
      rw [verdictOf_zero, verdictOf_zero, hfind]
      rw [any_find] at hd
      obtain ⟨e, hs⟩ := Option.isSome_iff_exists.1 hd
      rw [hs]
      rfl
    exact Ev.congr (fun k => if_pos heq) (last_ev es b he.1)
  · refine Ev.congr (fun k => if_neg hd) ?_
    have hnone : es.find? dec = none := by
      rw [any_find] at hd
      cases h : es.find? dec with
      | none => rfl
      | some e => rw [h] at hd; exact absurd rfl hd
    have h5 : verdictOf 0 es b = 5 := by rw [verdictOf_zero, hnone]; rfl
    refine Ev.congr (fun k => if_pos h5) ?_
    refine Ev.bind (verdict_ev 0 (es ++ more) b hall) (Ev.bind (verdict_ev 0 more b hmore.1) ?_)
    have heq : verdictOf 0 (es ++ more) b = verdictOf 0 more b := by rw [verdictOf_zero, verdictOf_zero, hfind, hnone]; rfl
    rw [heq]
    have := last_ev es b he.1
    simpa using this
end Go.Proofs.Ytmlemnfleicnfaa.Pure

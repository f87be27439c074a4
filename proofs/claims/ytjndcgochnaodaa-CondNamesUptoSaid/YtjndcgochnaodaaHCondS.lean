/- Conditions: the simple form is there and of a bounded size; a condition is the same as itself. -/
import Derived.Test.YtjndcgochnaodaaHMixR
import Derived.Test.YtjndcgochnaodaaGMix2
import Derived.Test.YtjndcgochnaodaaPAx55
namespace Go.Proofs.Ytjndcgochnaodaa.PA
open Go.RowKit Go.Proofs.YtjndcgochnaodaaW.PrintWords Go.Proofs.YtjndcgochnaodaaW.PrintLast Go.Proofs.YtjndcgochnaodaaW.PrintMore
set_option linter.unusedVariables false
/-- All rows, so many levels deep, are short. -/
def lenN : Nat → S24 → Prop
  | 0, _ => True
  | n + 1, x => x.f3.length ≤ 281474976710656 ∧ ∀ y ∈ x.f3, lenN n y
theorem size_kid {x y : S24} (h : y ∈ x.f3) : SizeOf.sizeOf y < SizeOf.sizeOf x := by
  have h1 := List.sizeOf_lt_of_mem h
  cases x
  simp only [S24.mk.sizeOf_spec]
  simp only at h1
  omega
theorem same_l (x : S24) (hl : x.f3.length ≤ 281474976710656) (IH : ∀ y ∈ x.f3, Ev (fun k => colloquyref12_Same.f k y.f0 y.f1 y.f2 y.f3 y.f0 y.f1 y.f2 y.f3) true) : ∀ m i : Nat, i ≤ x.f3.length → m = x.f3.length - i → Ev (fun k => colloquyref12_Same.l0 k i x.f0 x.f1 x.f2 x.f3 x.f0 x.f1 x.f2 x.f3) true := by
  intro m
  induction m with
  | zero =>
    intro i hi hm
    exact Ev.step (f := fun _ => some true) (fun k => by simp only [colloquyref12_Same.l0]; rw [if_neg (by omega)]) (Ev.now _)
  | succ m ih =>
    intro i hi hm
    have e : wrap64 ((i : Int) + 1) = ((i + 1 : Nat) : Int) := by unfold wrap64; omega
    have hy : rd_T24 x.f3 i ∈ x.f3 := by
      unfold rd_T24
      rw [Int.toNat_natCast]
      exact getD_mem x.f3 i (by omega)
    refine Ev.step (f := fun k => (colloquyref12_Same.f k (rd_T24 x.f3 i).f0 (rd_T24 x.f3 i).f1 (rd_T24 x.f3 i).f2 (rd_T24 x.f3 i).f3 (rd_T24 x.f3 i).f0 (rd_T24 x.f3 i).f1 (rd_T24 x.f3 i).f2 (rd_T24 x.f3 i).f3).bind fun t => if t = true then colloquyref12_Same.l0 k ((i + 1 : Nat) : Int) x.f0 x.f1 x.f2 x.f3 x.f0 x.f1 x.f2 x.f3 else some false) (fun k => by simp only [colloquyref12_Same.l0]; rw [if_pos (by omega), if_pos (by omega), if_pos (by omega), e]) ?_
    refine Ev.bind (IH _ hy) (Ev.congr (fun k => if_pos rfl) (ih (i + 1) (by omega) (by omega)))
theorem same_ev : ∀ (N : Nat) (x : S24), SizeOf.sizeOf x < N → (∀ n, lenN n x) → Ev (fun k => colloquyref12_Same.f k x.f0 x.f1 x.f2 x.f3 x.f0 x.f1 x.f2 x.f3) true := by
  intro N
  induction N with
  | zero => intro x h; exact absurd h (Nat.not_lt_zero _)
  | succ N ih =>
    intro x h hl
    have h0 := same_l x (hl 1).1 (fun y hy => ih y (by have := size_kid hy; omega) (fun n => (hl (n + 1)).2 y hy)) x.f3.length 0 (by omega) (by omega)
    refine Ev.step (f := fun k => colloquyref12_Same.j0 k false x.f0 x.f1 x.f2 x.f3 x.f0 x.f1 x.f2 x.f3) (fun k => by simp only [colloquyref12_Same.f]; rw [if_pos trivial, if_pos trivial, if_pos trivial, show ((x.f3.length : Int) != (x.f3.length : Int)) = false by simp]) ?_
    refine Ev.step (f := fun k => colloquyref12_Same.l0 k ((0 : Nat) : Int) x.f0 x.f1 x.f2 x.f3 x.f0 x.f1 x.f2 x.f3) (fun k => by simp only [colloquyref12_Same.j0]; rw [if_neg Bool.false_ne_true]; rfl) h0
theorem parts_ev {f : Nat → S24 → Option CondR} {g : S24 → CondR} (kk : Int) (wt : S24 → Nat) (h1 : ∀ x, 1 ≤ wt x) : ∀ (l : List S24) (acc : List S24), (∀ y ∈ l, Ev (fun k => f k y) (g y) ∧ (g y).2.2.2.length ≤ wt y ∧ ∀ n, lenN n (ofR (g y))) → acc.length + (l.map wt).sum ≤ 4194304 → (∀ y ∈ acc, ∀ n, lenN n y) →
    ∃ r, Ev (fun k => partsM (f k) kk acc l) r ∧ r.length ≤ acc.length + (l.map wt).sum ∧ ∀ y ∈ r, ∀ n, lenN n y
  | [], acc, _, _, ha => ⟨acc, Ev.is fun k => rfl, by simp, ha⟩
  | x :: xs, acc, hf, hs, ha => by
    obtain ⟨e1, hw, hn⟩ := hf x (List.mem_cons_self ..)
    have hx := h1 x
    rw [List.map_cons, List.sum_cons] at hs
    obtain ⟨a', ha', hl', hn'⟩ : ∃ a', joinP kk acc (g x) = some a' ∧ a'.length ≤ acc.length + wt x ∧ ∀ y ∈ a', ∀ n, lenN n y := by
      unfold joinP
      split
      · refine ⟨_, if_pos (by omega), by rw [List.length_append]; omega, fun y hy n => ?_⟩
        rcases List.mem_append.1 hy with hy | hy
        · exact ha y hy n
        · exact (hn (n + 1)).2 y hy
      · refine ⟨_, if_pos (by omega), by rw [List.length_append, List.length_singleton]; omega, fun y hy n => ?_⟩
        rcases List.mem_append.1 hy with hy | hy
        · exact ha y hy n
        · rw [List.mem_singleton] at hy
          rw [hy]
          exact hn n
    obtain ⟨r, hr, hl, hz⟩ := parts_ev kk wt h1 xs a' (fun y hy => hf y (List.mem_cons_of_mem _ hy)) (by omega) hn'
    refine ⟨r, ?_, by rw [List.map_cons, List.sum_cons]; omega, hz⟩
    refine Ev.congr (f := fun k => (f k x).bind fun p => (joinP kk acc p).bind fun acc' => partsM (f k) kk acc' xs) (fun k => by rw [partsM]) (Ev.bind e1 ?_)
    refine Ev.congr (fun k => by rw [ha', Option.bind_some]) hr
theorem simp_ex : ∀ (d : Nat) (x : S24) (fl : Bool), rightB d x = true → wtN d x ≤ 4194304 → ∃ r : CondR, Ev (fun k => cond_simple.f k x.f0 x.f1 x.f2 x.f3 fl) r ∧ r.2.2.2.length ≤ wtN d x ∧ ∀ n, lenN n (ofR r) := by
  intro d
  induction d with
  | zero => intro x fl h; cases h
  | succ d ih =>
    intro x fl h hw
    obtain ⟨hk, hsh⟩ := rightB_kids h
    have hwk : ∀ y ∈ x.f3, wtN d y ≤ 4194304 := by
      intro y hy
      have := le_sum_mem (List.mem_map.2 ⟨y, hy, rfl⟩ : wtN d y ∈ x.f3.map (wtN d))
      unfold wtN at hw
      omega
    have hws : (x.f3.map (wtN d)).sum + 1 ≤ wtN (d + 1) x := by
      conv => rhs; unfold wtN
      omega
    by_cases h3 : x.f0 = 3
    · have hl := shape_one hsh h3
      have hm := getD0_mem hl
      obtain ⟨r, hr, hlen, hn⟩ := ih _ (!fl) (hk _ hm) (hwk _ hm)
      refine ⟨r, Ev.step (fun k => by rw [cond_simple.f, if_pos h3, if_pos (by omega)]) hr, ?_, hn⟩
      have := le_sum_mem (List.mem_map.2 ⟨_, hm, rfl⟩ : wtN d (x.f3.getD 0 z24) ∈ x.f3.map (wtN d))
      omega
    · have hkd : 0 ≤ x.f0 ∧ x.f0 < 6 := by
        unfold shapeB at hsh
        repeat' split at hsh
        all_goals first | omega | cases hsh
      have hpt : ∀ kk : Int, ∃ r, Ev (fun k => partsM (fun y => cond_simple.f k y.f0 y.f1 y.f2 y.f3 fl) kk [] x.f3) r ∧ r.length ≤ (x.f3.map (wtN d)).sum ∧ ∀ y ∈ r, ∀ n, lenN n y := by
        intro kk
        have hc : ∀ y : S24, ∃ p : CondR, y ∈ x.f3 → Ev (fun k => cond_simple.f k y.f0 y.f1 y.f2 y.f3 fl) p ∧ p.2.2.2.length ≤ wtN d y ∧ ∀ n, lenN n (ofR p) := by
          intro y
          by_cases hy : y ∈ x.f3
          · obtain ⟨p, hp⟩ := ih y fl (hk y hy) (hwk y hy)
            exact ⟨p, fun _ => hp⟩
          · exact ⟨noR, fun h => absurd h hy⟩
        obtain ⟨g, hg⟩ := Classical.axiomOfChoice hc
        obtain ⟨r, h1, h2, h3⟩ := parts_ev (f := fun k y => cond_simple.f k y.f0 y.f1 y.f2 y.f3 fl) (g := g) kk (wtN d) (wt_pos d) x.f3 [] (fun y hy => hg y hy) (by simp only [List.length_nil]; omega) (fun y hy => by cases hy)
        exact ⟨r, h1, by simpa using h2, h3⟩
      have fin : ∀ kk : Int, ∀ q : List S24, q.length ≤ (x.f3.map (wtN d)).sum → (∀ y ∈ q, ∀ n, lenN n y) → ∀ n, lenN n (ofR (kk, x.f1, x.f2, q)) := by
        intro kk q hq hy n
        cases n with
        | zero => trivial
        | succ n => exact ⟨show q.length ≤ _ by omega, fun y h => hy y h n⟩
      by_cases hf : fl = true
      · obtain ⟨q, hq, hl, hn⟩ := hpt (rd [0, 2, 1, 0, 5, 4] x.f0)
        refine ⟨_, Ev.step (f := fun k => (partsM (fun y => cond_simple.f k y.f0 y.f1 y.f2 y.f3 fl) (rd [0, 2, 1, 0, 5, 4] x.f0) [] x.f3).map fun ps => (rd [0, 2, 1, 0, 5, 4] x.f0, x.f1, x.f2, ps)) (fun k => by rw [cond_simple.f, if_neg h3, if_pos hf, if_pos hkd]) (Ev.map _ hq), show q.length ≤ _ by omega, fin _ q hl hn⟩
      · obtain ⟨q, hq, hl, hn⟩ := hpt x.f0
        refine ⟨_, Ev.step (f := fun k => (partsM (fun y => cond_simple.f k y.f0 y.f1 y.f2 y.f3 fl) x.f0 [] x.f3).map fun ps => (x.f0, x.f1, x.f2, ps)) (fun k => by rw [cond_simple.f, if_neg h3, if_neg hf]) (Ev.map _ hq), show q.length ≤ _ by omega, fin _ q hl hn⟩
end Go.Proofs.Ytjndcgochnaodaa.PA

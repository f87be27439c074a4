/- Conditions: when one holds of a board, as a plain function; of functions that are handed a function. -/
import Derived.Test.YtjndcgochnaodaaHNrow
import Derived.Test.YtjndcgochnaodaaHPan
namespace Go.Proofs.Ytjndcgochnaodaa.PA
open Go.RowKit Go.Proofs.YtjndcgochnaodaaW.PrintWords Go.Proofs.YtjndcgochnaodaaW.PrintLast Go.Proofs.YtjndcgochnaodaaW.PrintMore
set_option linter.unusedVariables false
set_option linter.unusedSimpArgs false
theorem blk_below {w w1 : World} {g : Nat} {o : Obj} (hb : Below w.heap.size w w1) (h : w.heap[g]? = some o) : w1.heap[g]? = some o := (hb.block g (blk_lt h)).trans h
/-- The first one of which q holds, -1 of none. -/
def idxI {α : Type} (q : α → Bool) : List α → Int
  | [] => -1
  | x :: xs => if q x then 0 else if idxI q xs < 0 then -1 else idxI q xs + 1
theorem idxI_none {α : Type} {q : α → Bool} : ∀ {l : List α}, (∀ x ∈ l, q x = false) → idxI q l = -1
  | [], _ => rfl
  | x :: xs, h => by
    unfold idxI
    rw [h x (List.mem_cons_self ..), idxI_none (fun y hy => h y (List.mem_cons_of_mem _ hy))]
    rfl
theorem idxI_at {α : Type} {q : α → Bool} : ∀ {l : List α} (j : Nat) (z : α), j < l.length → (∀ i, i < j → q (l.getD i z) = false) → q (l.getD j z) = true → idxI q l = j
  | [], j, z, h, _, _ => absurd h (Nat.not_lt_zero _)
  | x :: xs, 0, z, _, _, h => by
    unfold idxI
    rw [show q x = true from h]
    rfl
  | x :: xs, j + 1, z, hj, hb, h => by
    have ih := idxI_at (l := xs) j z (by simpa using hj) (fun i hi => by simpa using hb (i + 1) (by omega)) (by simpa using h)
    unfold idxI
    rw [show q x = false by simpa using hb 0 (by omega), ih]
    simp only [Bool.false_eq_true, if_false]
    rw [if_neg (by omega)]
    omega
theorem idxI_lt {α : Type} (q : α → Bool) : ∀ l : List α, -1 ≤ idxI q l ∧ idxI q l < l.length
  | [] => by simp [idxI]
  | x :: xs => by
    have ih := idxI_lt q xs
    unfold idxI
    rw [List.length_cons]
    split
    · omega
    · split <;> omega
def nameIs (nm : ByteArray) (p : S36) : Bool := p.f0.toList == nm.toList
/-- Has a board a property of a value? -/
def hasB (ps : List S36) (nm vl : ByteArray) : Bool := decide (0 ≤ idxI (nameIs nm) ps) && ((ps.getD (idxI (nameIs nm) ps).toNat z36).f1.toList == vl.toList)
/-- Does one of some answer true? Asked in order, no further than the first that does. -/
def anyM {α : Type} (p : α → Option Bool) : List α → Option Bool
  | [] => some false
  | x :: xs => (p x).bind fun b => if b then some true else anyM p xs
theorem any_in {α : Type} {p : α → Option Bool} {r : Bool} : ∀ {l : List α} {i : Nat} (z : α), i < l.length → anyM p (l.drop i) = some r → ∃ b, p (l.getD i z) = some b ∧ (b = true → r = true) ∧ (b = false → anyM p (l.drop (i + 1)) = some r) := by
  intro l i z hi h
  rw [List.drop_eq_getElem_cons hi] at h
  have e : l.getD i z = l[i] := by simp [List.getD_eq_getElem?_getD, List.getElem?_eq_getElem hi]
  rw [e]
  unfold anyM at h
  cases hp : p l[i] with
  | none => rw [hp] at h; cases h
  | some b =>
    rw [hp] at h
    refine ⟨b, rfl, fun hb => ?_, fun hb => ?_⟩
    · subst hb
      simp only [Option.bind_some, if_true, Option.some.injEq] at h
      exact h.symm
    · subst hb
      simpa using h
theorem any_out {α : Type} {p : α → Option Bool} {r : Bool} {l : List α} {i : Nat} (hi : l.length ≤ i) (h : anyM p (l.drop i) = some r) : r = false := by
  rw [List.drop_of_length_le hi] at h
  simp only [anyM, Option.some.injEq] at h
  exact h.symm
theorem anyM_mono {α : Type} {p p' : α → Option Bool} (h : ∀ x b, p x = some b → p' x = some b) : ∀ (l : List α) (r : Bool), anyM p l = some r → anyM p' l = some r
  | [], r, hr => hr
  | x :: xs, r, hr => by
    unfold anyM at hr ⊢
    cases hp : p x with
    | none => rw [hp] at hr; cases hr
    | some b =>
      rw [hp] at hr
      rw [h x b hp]
      simp only [Option.bind_some] at hr ⊢
      split
      · rename_i hb; rw [if_pos hb] at hr; exact hr
      · rename_i hb; rw [if_neg hb] at hr; exact anyM_mono h xs r hr
def cond_holds.f : Nat → Int → ByteArray → ByteArray → List S24 → ByteArray → List S36 → Option Bool
  | 0, _, _, _, _, _, _ => none
  | k + 1, kd, nm, vl, kids, b, ps =>
    if kd = 1 then some (hasB ps nm vl) else if kd = 2 then some (!hasB ps nm vl)
    else if kd = 3 then (if 0 < (kids.length : Int) then (cond_holds.f k (kids.getD 0 z24).f0 (kids.getD 0 z24).f1 (kids.getD 0 z24).f2 (kids.getD 0 z24).f3 b ps).map (!·) else none)
    else if kd = 4 then (anyM (fun x => (cond_holds.f k x.f0 x.f1 x.f2 x.f3 b ps).map (!·)) kids).map (!·)
    else anyM (fun x => cond_holds.f k x.f0 x.f1 x.f2 x.f3 b ps) kids
theorem map_not {o : Option Bool} {r : Bool} (h : o.map (!·) = some r) : ∃ r0, o = some r0 ∧ r = !r0 := by
  cases o with
  | none => cases h
  | some b => exact ⟨b, rfl, by simpa using h.symm⟩
theorem cond_holds.mono : ∀ a0 a1 a2 a3 a4 a5 k, LeO (cond_holds.f k a0 a1 a2 a3 a4 a5) (cond_holds.f (k + 1) a0 a1 a2 a3 a4 a5) := by
  intro a0 a1 a2 a3 a4 a5 k
  induction k generalizing a0 a1 a2 a3 with
  | zero => intro r h; simp [cond_holds.f] at h
  | succ k ih =>
    intro r h
    unfold cond_holds.f at h ⊢
    split
    · rename_i h1; rw [if_pos h1] at h; exact h
    · rename_i h1; rw [if_neg h1] at h
      split
      · rename_i h2; rw [if_pos h2] at h; exact h
      · rename_i h2; rw [if_neg h2] at h
        split
        · rename_i h3; rw [if_pos h3] at h
          split
          · rename_i h4; rw [if_pos h4] at h
            obtain ⟨r0, h5, rfl⟩ := map_not h
            rw [ih _ _ _ _ _ h5]; rfl
          · rename_i h4; rw [if_neg h4] at h; cases h
        · rename_i h3; rw [if_neg h3] at h
          split
          · rename_i h4; rw [if_pos h4] at h
            obtain ⟨r0, h5, rfl⟩ := map_not h
            rw [anyM_mono (fun x b hb => by obtain ⟨r1, h6, rfl⟩ := map_not hb; rw [ih _ _ _ _ _ h6]; rfl) _ _ h5]; rfl
          · rename_i h4; rw [if_neg h4] at h
            exact anyM_mono (fun x b hb => ih _ _ _ _ _ hb) _ _ h
section
variable {k : Nat} {kd : Int} {nm vl b : ByteArray} {kids : List S24} {ps : List S36} {r : Bool}
theorem ho_is (h : cond_holds.f (k + 1) kd nm vl kids b ps = some r) (h1 : kd = 1) : hasB ps nm vl = r := by
  unfold cond_holds.f at h
  rw [if_pos h1, Option.some.injEq] at h
  exact h
theorem ho_isnt (h : cond_holds.f (k + 1) kd nm vl kids b ps = some r) (h1 : ¬ kd = 1) (h2 : kd = 2) : (!hasB ps nm vl) = r := by
  unfold cond_holds.f at h
  rw [if_neg h1, if_pos h2, Option.some.injEq] at h
  exact h
theorem ho_not (h : cond_holds.f (k + 1) kd nm vl kids b ps = some r) (h1 : ¬ kd = 1) (h2 : ¬ kd = 2) (h3 : kd = 3) : 0 < (kids.length : Int) ∧ ∃ r0, cond_holds.f k (kids.getD 0 z24).f0 (kids.getD 0 z24).f1 (kids.getD 0 z24).f2 (kids.getD 0 z24).f3 b ps = some r0 ∧ r = !r0 := by
  unfold cond_holds.f at h
  rw [if_neg h1, if_neg h2, if_pos h3] at h
  split at h
  · rename_i h4; exact ⟨h4, map_not h⟩
  · cases h
theorem ho_and (h : cond_holds.f (k + 1) kd nm vl kids b ps = some r) (h1 : ¬ kd = 1) (h2 : ¬ kd = 2) (h3 : ¬ kd = 3) (h4 : kd = 4) : ∃ r0, anyM (fun x => (cond_holds.f k x.f0 x.f1 x.f2 x.f3 b ps).map (!·)) kids = some r0 ∧ r = !r0 := by
  unfold cond_holds.f at h
  rw [if_neg h1, if_neg h2, if_neg h3, if_pos h4] at h
  exact map_not h
theorem ho_or (h : cond_holds.f (k + 1) kd nm vl kids b ps = some r) (h1 : ¬ kd = 1) (h2 : ¬ kd = 2) (h3 : ¬ kd = 3) (h4 : ¬ kd = 4) : anyM (fun x => cond_holds.f k x.f0 x.f1 x.f2 x.f3 b ps) kids = some r := by
  unfold cond_holds.f at h
  rw [if_neg h1, if_neg h2, if_neg h3, if_neg h4] at h
  exact h
end
end Go.Proofs.Ytjndcgochnaodaa.PA

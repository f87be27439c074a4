/- Conditions: the simple form, as a plain function. -/
import Derived.Test.YtjndcgochnaodaaHCond
namespace Go.Proofs.Ytjndcgochnaodaa.PA
open Go.RowKit Go.Proofs.YtjndcgochnaodaaW.PrintWords Go.Proofs.YtjndcgochnaodaaW.PrintLast Go.Proofs.YtjndcgochnaodaaW.PrintMore
set_option linter.unusedVariables false
set_option linter.unusedSimpArgs false
/-- A condition, as a call hands it back. -/
abbrev CondR := Int × ByteArray × ByteArray × List S24
def ofR (p : CondR) : S24 := ⟨p.1, p.2.1, p.2.2.1, p.2.2.2⟩
/-- One part more behind those that are there. -/
def joinP (kk : Int) (acc : List S24) (p : CondR) : Option (List S24) :=
  if p.1 = kk ∧ 0 < (p.2.2.2.length : Int) then (if acc.length + p.2.2.2.length ≤ 2199023255552 then some (acc ++ p.2.2.2) else none)
  else if acc.length + 1 ≤ 2199023255552 then some (acc ++ [(⟨p.1, p.2.1, p.2.2.1, p.2.2.2⟩ : S24)]) else none
def partsM {α : Type} (f : α → Option CondR) (kk : Int) : List S24 → List α → Option (List S24)
  | acc, [] => some acc
  | acc, x :: xs => (f x).bind fun p => (joinP kk acc p).bind fun acc' => partsM f kk acc' xs
theorem parts_in {α : Type} {f : α → Option CondR} {kk : Int} {r : List S24} {l : List α} {acc : List S24} {i : Nat} (z : α) (hi : i < l.length) (h : partsM f kk acc (l.drop i) = some r) : ∃ p acc', f (l.getD i z) = some p ∧ joinP kk acc p = some acc' ∧ partsM f kk acc' (l.drop (i + 1)) = some r := by
  rw [List.drop_eq_getElem_cons hi] at h
  have e : l.getD i z = l[i] := by simp [List.getD_eq_getElem?_getD, List.getElem?_eq_getElem hi]
  rw [e]
  unfold partsM at h
  cases hp : f l[i] with
  | none => rw [hp] at h; cases h
  | some p =>
    rw [hp, Option.bind_some] at h
    cases hj : joinP kk acc p with
    | none => rw [hj] at h; cases h
    | some a => rw [hj, Option.bind_some] at h; exact ⟨p, a, rfl, hj, h⟩
theorem parts_out {α : Type} {f : α → Option CondR} {kk : Int} {r : List S24} {l : List α} {acc : List S24} {i : Nat} (hi : l.length ≤ i) (h : partsM f kk acc (l.drop i) = some r) : r = acc := by
  rw [List.drop_of_length_le hi] at h
  exact (Option.some.inj h).symm
theorem join_yes {kk : Int} {acc : List S24} {p : CondR} {a : List S24} (h : joinP kk acc p = some a) (h1 : p.1 = kk) (h2 : 0 < (p.2.2.2.length : Int)) : acc.length + p.2.2.2.length ≤ 2199023255552 ∧ a = acc ++ p.2.2.2 := by
  unfold joinP at h
  rw [if_pos ⟨h1, h2⟩] at h
  split at h
  · rename_i h3; exact ⟨h3, (Option.some.inj h).symm⟩
  · cases h
theorem join_no {kk : Int} {acc : List S24} {p : CondR} {a : List S24} (h : joinP kk acc p = some a) (h1 : ¬ (p.1 = kk ∧ 0 < (p.2.2.2.length : Int))) : acc.length + 1 ≤ 2199023255552 ∧ a = acc ++ [(⟨p.1, p.2.1, p.2.2.1, p.2.2.2⟩ : S24)] := by
  unfold joinP at h
  rw [if_neg h1] at h
  split at h
  · rename_i h3; exact ⟨h3, (Option.some.inj h).symm⟩
  · cases h
theorem partsM_mono {α : Type} {f f' : α → Option CondR} {kk : Int} (hf : ∀ x b, f x = some b → f' x = some b) : ∀ (l : List α) (acc r : List S24), partsM f kk acc l = some r → partsM f' kk acc l = some r
  | [], acc, r, hr => hr
  | x :: xs, acc, r, hr => by
    unfold partsM at hr ⊢
    cases hp : f x with
    | none => rw [hp] at hr; cases hr
    | some b =>
      rw [hp, Option.bind_some] at hr
      rw [hf x b hp, Option.bind_some]
      cases hj : joinP kk acc b with
      | none => rw [hj] at hr; cases hr
      | some a => rw [hj, Option.bind_some] at hr; exact partsM_mono hf xs a r hr
def cond_simple.f : Nat → Int → ByteArray → ByteArray → List S24 → Bool → Option CondR
  | 0, _, _, _, _, _ => none
  | k + 1, kd, nm, vl, kids, fl =>
    if kd = 3 then (if 0 < (kids.length : Int) then cond_simple.f k (kids.getD 0 z24).f0 (kids.getD 0 z24).f1 (kids.getD 0 z24).f2 (kids.getD 0 z24).f3 (!fl) else none)
    else if fl = true then (if 0 ≤ kd ∧ kd < 6 then (partsM (fun x => cond_simple.f k x.f0 x.f1 x.f2 x.f3 fl) (rd [0, 2, 1, 0, 5, 4] kd) [] kids).map fun ps => (rd [0, 2, 1, 0, 5, 4] kd, nm, vl, ps) else none)
    else (partsM (fun x => cond_simple.f k x.f0 x.f1 x.f2 x.f3 fl) kd [] kids).map fun ps => (kd, nm, vl, ps)
theorem cond_simple.mono : ∀ a0 a1 a2 a3 a4 k, LeO (cond_simple.f k a0 a1 a2 a3 a4) (cond_simple.f (k + 1) a0 a1 a2 a3 a4) := by
  intro a0 a1 a2 a3 a4 k
  induction k generalizing a0 a1 a2 a3 a4 with
  | zero => intro r h; simp [cond_simple.f] at h
  | succ k ih =>
    intro r h
    have hm : ∀ (kk : Int) (q : List S24), partsM (fun x => cond_simple.f k x.f0 x.f1 x.f2 x.f3 a4) kk [] a3 = some q → partsM (fun x => cond_simple.f (k + 1) x.f0 x.f1 x.f2 x.f3 a4) kk [] a3 = some q := fun kk q => partsM_mono (fun x b hb => ih _ _ _ _ _ _ hb) _ _ _
    unfold cond_simple.f at h ⊢
    split
    · rename_i h1; rw [if_pos h1] at h
      split
      · rename_i h2; rw [if_pos h2] at h; exact ih _ _ _ _ _ _ h
      · rename_i h2; rw [if_neg h2] at h; cases h
    · rename_i h1; rw [if_neg h1] at h
      split
      · rename_i h2; rw [if_pos h2] at h
        split
        · rename_i h3; rw [if_pos h3, Option.map_eq_some_iff] at h
          obtain ⟨q, hq, rfl⟩ := h
          rw [hm _ _ hq]; rfl
        · rename_i h3; rw [if_neg h3] at h; cases h
      · rename_i h2; rw [if_neg h2, Option.map_eq_some_iff] at h
        obtain ⟨q, hq, rfl⟩ := h
        rw [hm _ _ hq]; rfl
section
variable {k : Nat} {kd : Int} {nm vl : ByteArray} {kids : List S24} {fl : Bool} {r : CondR}
theorem si_not (h : cond_simple.f (k + 1) kd nm vl kids fl = some r) (h1 : kd = 3) : 0 < (kids.length : Int) ∧ cond_simple.f k (kids.getD 0 z24).f0 (kids.getD 0 z24).f1 (kids.getD 0 z24).f2 (kids.getD 0 z24).f3 (!fl) = some r := by
  unfold cond_simple.f at h
  rw [if_pos h1] at h
  split at h
  · rename_i h4; exact ⟨h4, h⟩
  · cases h
theorem si_flip (h : cond_simple.f (k + 1) kd nm vl kids fl = some r) (h1 : ¬ kd = 3) (h2 : fl = true) : 0 ≤ kd ∧ kd < 6 ∧ ∃ ps, partsM (fun x => cond_simple.f k x.f0 x.f1 x.f2 x.f3 fl) (rd [0, 2, 1, 0, 5, 4] kd) [] kids = some ps ∧ r = (rd [0, 2, 1, 0, 5, 4] kd, nm, vl, ps) := by
  unfold cond_simple.f at h
  rw [if_neg h1, if_pos h2] at h
  split at h
  · rename_i h4; rw [Option.map_eq_some_iff] at h; obtain ⟨q, hq, rfl⟩ := h; exact ⟨h4.1, h4.2, q, hq, rfl⟩
  · cases h
theorem si_flat (h : cond_simple.f (k + 1) kd nm vl kids fl = some r) (h1 : ¬ kd = 3) (h2 : fl = false) : ∃ ps, partsM (fun x => cond_simple.f k x.f0 x.f1 x.f2 x.f3 fl) kd [] kids = some ps ∧ r = (kd, nm, vl, ps) := by
  unfold cond_simple.f at h
  rw [if_neg h1, if_neg (by rw [h2]; decide), Option.map_eq_some_iff] at h
  obtain ⟨q, hq, rfl⟩ := h; exact ⟨q, hq, rfl⟩
end
end Go.Proofs.Ytjndcgochnaodaa.PA

/- pack.Read, handed a function that is told by what it owns. -/
import Derived.Test.YtmlemnfleicnfaaGRead
namespace Go.Proofs.Ytmlemnfleicnfaa.PA
open Go.RowKit Go.Proofs.YtmlemnfleicnfaaW.PrintWords Go.Proofs.YtmlemnfleicnfaaW.PrintLast Go.Proofs.YtmlemnfleicnfaaW.PrintMore
set_option linter.unusedVariables false
set_option linter.unusedSimpArgs false
section
variable {w0 w : World} {c d x : Chunk} {L qs : List Chunk}
theorem Own.out2 (h : Own w0 w [c, d, Chunk.all qs]) : Own w0 w (c :: d :: qs) := by
  have h1 : Own w0 w [Chunk.all qs, c, d] := h.sel [2, 0, 1] (by decide)
  have h2 := h1.unbundle
  exact ⟨h2.below, fun e he => h2.holds e (by simp only [List.mem_cons, List.mem_append, List.mem_nil_iff, or_false] at he ⊢; rcases he with he | he | he <;> simp [he]), fun e he => h2.inside e (by simp only [List.mem_cons, List.mem_append, List.mem_nil_iff, or_false] at he ⊢; rcases he with he | he | he <;> simp [he]),
    List.Perm.pairwise (List.perm_append_comm (l₁ := qs) (l₂ := [c, d])) h2.apart (fun h => ap_symm _ _ h)⟩
theorem Own.in2 (h : Own w0 w (c :: d :: qs)) : Own w0 w [c, d, Chunk.all qs] := by
  have h1 : Own w0 w (qs ++ [c, d]) := ⟨h.below, fun e he => h.holds e (by simp only [List.mem_cons, List.mem_append, List.mem_nil_iff, or_false] at he ⊢; rcases he with he | he | he <;> simp [he]), fun e he => h.inside e (by simp only [List.mem_cons, List.mem_append, List.mem_nil_iff, or_false] at he ⊢; rcases he with he | he | he <;> simp [he]),
    List.Perm.pairwise (List.perm_append_comm (l₁ := [c, d]) (l₂ := qs)) h.apart (fun h => ap_symm _ _ h)⟩
  exact (Own.bundle h1).sel [1, 2, 0] (by decide)
theorem Own.out1 (h : Own w0 w [c, Chunk.all qs]) : Own w0 w (c :: qs) := by
  have h1 : Own w0 w [Chunk.all qs, c] := h.sel [1, 0] (by decide)
  have h2 := h1.unbundle
  exact ⟨h2.below, fun e he => h2.holds e (by simp only [List.mem_cons, List.mem_append, List.mem_nil_iff, or_false] at he ⊢; rcases he with he | he <;> simp [he]), fun e he => h2.inside e (by simp only [List.mem_cons, List.mem_append, List.mem_nil_iff, or_false] at he ⊢; rcases he with he | he <;> simp [he]),
    List.Perm.pairwise (List.perm_append_comm (l₁ := qs) (l₂ := [c])) h2.apart (fun h => ap_symm _ _ h)⟩
theorem Own.in1 (h : Own w0 w (c :: qs)) : Own w0 w [c, Chunk.all qs] := by
  have h1 : Own w0 w (qs ++ [c]) := ⟨h.below, fun e he => h.holds e (by simp only [List.mem_cons, List.mem_append, List.mem_nil_iff, or_false] at he ⊢; rcases he with he | he <;> simp [he]), fun e he => h.inside e (by simp only [List.mem_cons, List.mem_append, List.mem_nil_iff, or_false] at he ⊢; rcases he with he | he <;> simp [he]),
    List.Perm.pairwise (List.perm_append_comm (l₁ := [c]) (l₂ := qs)) h.apart (fun h => ap_symm _ _ h)⟩
  exact (Own.bundle h1).sel [1, 0] (by decide)
end
abbrev rblk (g : Nat) (A : Option Addr) (n c : Nat) : Chunk := Chunk.blk g (.cells #[.slice A n c] 80 (0, 0))
abbrev badE : List PanicEntry := [{ v := .iface 78 (.agg #[]), recovered := false }]
abbrev mineV : Value := .iface 9 (.string (⟨#[109, 105, 110, 101]⟩ : ByteArray))
theorem read_list (w0 w : World) (R : Chunk) (ps : List Chunk) (A : Option Addr) (c : Nat) (xs : List Int) (fid : Nat) (fn0 : Func) (cap : List Value) (Gd : Nat → List Chunk → Prop) (Bd Md : List Chunk → Prop) (h1 : Try.prog.funcs[fid]? = some fn0) (h2 : (fn0.name == "runtime.NumGoroutine") = false) (h3 : fn0.body.isSome = true)
    (hf : ∀ (R' : Chunk) (g : Nat) (w1 : World), (∀ w_, Own w0 w_ [R'] → Own w0 w_ [R]) → Own w0 w1 (R' :: rblk g A xs.length c :: ps) → Calls Try.prog fid (([.pointer (some ⟨g, 0, none⟩)] : List Value) ++ cap).toArray w1 fun e w2 => (∃ A' n' c' qs, e = .returned (.tuple #[]) ∧ Gd n' qs ∧ Own w0 w2 (R' :: rblk g A' n' c' :: qs)) ∨ (∃ qs, e = .panicked badE ∧ Bd qs ∧ Own w0 w2 (R' :: qs)) ∨ (∃ qs, e = .panicked [{ v := mineV, recovered := false }] ∧ Md qs ∧ Own w0 w2 (R' :: qs)))
    (HO : Own w0 w (R :: ps)) : Calls Try.prog 31 #[.slice A xs.length c, .func (.func fid) #[] cap.toArray] w fun e w' => (∃ n' qs, e = .returned (.int .i64 (if n' = 0 then 0 else 80)) ∧ Gd n' qs ∧ Own w0 w' (R :: qs)) ∨ (∃ qs, e = .returned (.int .i64 80) ∧ Bd qs ∧ Own w0 w' (R :: qs)) ∨ (∃ qs, e = .panicked [{ v := mineV, recovered := false }, { v := mineV, recovered := true }] ∧ Md qs ∧ Own w0 w' (R :: qs)) := by
  refine (GRead_.read_calls w0 w R (Chunk.all ps) A c xs fid fn0 cap (fun n Y => ∃ qs, Y = Chunk.all qs ∧ Gd n qs) (fun Y => ∃ qs, Y = Chunk.all qs ∧ Bd qs) (fun Y => ∃ qs, Y = Chunk.all qs ∧ Md qs) h1 h2 h3 ?_ HO.in1).mono ?_
  · intro R' g w1 hR hO
    refine (hf R' g w1 hR hO.out2).mono ?_
    rintro e w2 (⟨A', n', c', qs, rfl, hG, h⟩ | ⟨qs, rfl, hB, h⟩ | ⟨qs, rfl, hM, h⟩)
    · exact .inl ⟨A', n', c', _, rfl, ⟨qs, rfl, hG⟩, h.in2⟩
    · exact .inr (.inl ⟨_, rfl, ⟨qs, rfl, hB⟩, h.in1⟩)
    · exact .inr (.inr ⟨_, rfl, ⟨qs, rfl, hM⟩, h.in1⟩)
  · rintro e w2 (⟨n', Y, rfl, ⟨qs, rfl, hG⟩, h⟩ | ⟨Y, rfl, ⟨qs, rfl, hB⟩, h⟩ | ⟨Y, rfl, ⟨qs, rfl, hM⟩, h⟩)
    · exact .inl ⟨n', qs, rfl, hG, h.out1⟩
    · exact .inr (.inl ⟨qs, rfl, hB, h.out1⟩)
    · exact .inr (.inr ⟨qs, rfl, hM, h.out1⟩)
end Go.Proofs.Ytmlemnfleicnfaa.PA

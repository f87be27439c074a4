/- What an argument's part of the struct type 45 reads as, what is known of it and how much it weighs. -/
import Derived.Test.YtkdahjnmldeklaaHOpen
import Derived.Test.YtkdahjnmldeklaaHKinds
namespace Go.Proofs.Ytkdahjnmldeklaa.PA
open Go.RowKit Go.Proofs.YtkdahjnmldeklaaW.PrintWords Go.Proofs.YtkdahjnmldeklaaW.PrintLast Go.Proofs.YtkdahjnmldeklaaW.PrintMore
set_option linter.unusedVariables false

instance : Inhabited S45 := ⟨z45⟩
def good45 (x : S45) : Prop := (Lit.int .i64 (x.f0)).wf = true ∧ (x.f1).size ≤ maxLen ∧ (x.f2).size ≤ maxLen ∧ (Lit.int .i64 (x.f3)).wf = true ∧ ((x.f4).length ≤ maxLen ∧ ∀ y ∈ x.f4, (Lit.int .u8 (y)).wf = true) ∧ ((x.f5).length ≤ maxLen ∧ ∀ y ∈ x.f5, (Lit.int .i64 (y)).wf = true)
def wt45 (x : S45) : Nat := (1 + (((x.f1).size + 1) + (((x.f2).size + 1) + (1 + ((((x.f4).map (fun _ => 1)).sum + 1) + ((((x.f5).map (fun _ => 1)).sum + 1))))))) + 1
def sz45 (x : S45) : Prop := True ∧ ((x.f1).size ≤ reachBytes) ∧ ((x.f2).size ≤ reachBytes) ∧ True ∧ ((x.f4).length * 1 ≤ reachBytes ∧ ∀ y ∈ x.f4, True) ∧ ((x.f5).length * 8 ≤ reachBytes ∧ ∀ y ∈ x.f5, True)
theorem opens45 : Opens Try.prog 45 k45 good45 wt45 sz45 :=
  opens_struct (fun x : S45 => (x.f0, x.f1, x.f2, x.f3, x.f4, x.f5)) (fun p => ⟨p.1, p.2.1, p.2.2.1, p.2.2.2.1, p.2.2.2.2.1, p.2.2.2.2.2⟩) (fun _ => rfl) Try.underlying45 (by kernel_rfl) (opensF_cons (by kernel_rfl) rfl (opens_int Try.underlying3) (opensF_cons (by kernel_rfl) rfl (opens_string Try.underlying9) (opensF_cons (by kernel_rfl) rfl (opens_string Try.underlying9) (opensF_cons (by kernel_rfl) rfl (opens_int Try.underlying3) (opensF_cons (by kernel_rfl) rfl (opens_slice (b := 1) (by kernel_rfl) Try.underlying28 (by kernel_rfl) (opens_int Try.underlying5)) (opensF_one (by kernel_rfl) (opens_slice (b := 8) (by kernel_rfl) Try.underlying32 (by kernel_rfl) (opens_int Try.underlying3))))))))
end Go.Proofs.Ytkdahjnmldeklaa.PA

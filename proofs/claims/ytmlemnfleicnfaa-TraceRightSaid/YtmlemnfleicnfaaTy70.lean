/- What an argument's part of the struct type 70 reads as, what is known of it and how much it weighs. -/
import Derived.Test.YtmlemnfleicnfaaHOpen
import Derived.Test.YtmlemnfleicnfaaHKinds
namespace Go.Proofs.Ytmlemnfleicnfaa.PA
open Go.RowKit Go.Proofs.YtmlemnfleicnfaaW.PrintWords Go.Proofs.YtmlemnfleicnfaaW.PrintLast Go.Proofs.YtmlemnfleicnfaaW.PrintMore
set_option linter.unusedVariables false

instance : Inhabited S70 := ⟨z70⟩
def good70 (x : S70) : Prop := (Lit.int .i64 (x.f0)).wf = true ∧ (Lit.int .i64 (x.f1)).wf = true ∧ (x.f2).size ≤ maxLen ∧ (Lit.int .i64 (x.f3)).wf = true
def wt70 (x : S70) : Nat := (1 + (1 + (((x.f2).size + 1) + (1)))) + 1
def sz70 (x : S70) : Prop := True ∧ True ∧ ((x.f2).size ≤ reachBytes) ∧ True
theorem opens70 : Opens Try.prog 70 k70 good70 wt70 sz70 :=
  opens_struct (fun x : S70 => (x.f0, x.f1, x.f2, x.f3)) (fun p => ⟨p.1, p.2.1, p.2.2.1, p.2.2.2⟩) (fun _ => rfl) Try.underlying70 (by kernel_rfl) (opensF_cons (by kernel_rfl) rfl (opens_int Try.underlying3) (opensF_cons (by kernel_rfl) rfl (opens_int Try.underlying3) (opensF_cons (by kernel_rfl) rfl (opens_string Try.underlying9) (opensF_one (by kernel_rfl) (opens_int Try.underlying2)))))
end Go.Proofs.Ytmlemnfleicnfaa.PA

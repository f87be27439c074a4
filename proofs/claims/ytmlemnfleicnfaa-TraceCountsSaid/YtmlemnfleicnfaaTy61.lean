/- What an argument's part of the struct type 61 reads as, what is known of it and how much it weighs. -/
import Derived.Test.YtmlemnfleicnfaaHOpen
import Derived.Test.YtmlemnfleicnfaaHKinds
namespace Go.Proofs.Ytmlemnfleicnfaa.PA
open Go.RowKit Go.Proofs.YtmlemnfleicnfaaW.PrintWords Go.Proofs.YtmlemnfleicnfaaW.PrintLast Go.Proofs.YtmlemnfleicnfaaW.PrintMore
set_option linter.unusedVariables false

instance : Inhabited S61 := ⟨z61⟩
def good61 (x : S61) : Prop := (x.f0).size ≤ maxLen ∧ (Lit.int .i64 (x.f1)).wf = true
def wt61 (x : S61) : Nat := (((x.f0).size + 1) + (1)) + 1
def sz61 (x : S61) : Prop := ((x.f0).size ≤ reachBytes) ∧ True
theorem opens61 : Opens Try.prog 61 k61 good61 wt61 sz61 :=
  opens_struct (fun x : S61 => (x.f0, x.f1)) (fun p => ⟨p.1, p.2⟩) (fun _ => rfl) Try.underlying61 (by kernel_rfl) (opensF_cons (by kernel_rfl) rfl (opens_string Try.underlying9) (opensF_one (by kernel_rfl) (opens_int Try.underlying3)))
end Go.Proofs.Ytmlemnfleicnfaa.PA

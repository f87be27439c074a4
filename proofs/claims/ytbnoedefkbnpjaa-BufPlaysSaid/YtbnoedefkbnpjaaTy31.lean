/- What an argument's part of the struct type 31 reads as, what is known of it and how much it weighs. -/
import Derived.Test.YtbnoedefkbnpjaaHOpen
import Derived.Test.YtbnoedefkbnpjaaHKinds
namespace Go.Proofs.Ytbnoedefkbnpjaa.PA
open Go.RowKit Go.Proofs.YtbnoedefkbnpjaaW.PrintWords Go.Proofs.YtbnoedefkbnpjaaW.PrintLast Go.Proofs.YtbnoedefkbnpjaaW.PrintMore
set_option linter.unusedVariables false

instance : Inhabited S31 := ⟨z31⟩
def good31 (x : S31) : Prop := (Lit.int .i64 (x.f0)).wf = true ∧ (Lit.int .i64 (x.f1)).wf = true ∧ ((x.f2).length ≤ maxLen ∧ ∀ y ∈ x.f2, (Lit.int .u8 (y)).wf = true)
def wt31 (x : S31) : Nat := (1 + (1 + ((((x.f2).map (fun _ => 1)).sum + 1)))) + 1
def sz31 (x : S31) : Prop := True ∧ True ∧ ((x.f2).length * 1 ≤ reachBytes ∧ ∀ y ∈ x.f2, True)
theorem opens31 : Opens Try.prog 31 k31 good31 wt31 sz31 :=
  opens_struct (fun x : S31 => (x.f0, x.f1, x.f2)) (fun p => ⟨p.1, p.2.1, p.2.2⟩) (fun _ => rfl) Try.underlying31 (by kernel_rfl) (opensF_cons (by kernel_rfl) rfl (opens_int Try.underlying3) (opensF_cons (by kernel_rfl) rfl (opens_int Try.underlying3) (opensF_one (by kernel_rfl) (opens_slice (b := 1) (by kernel_rfl) Try.underlying26 (by kernel_rfl) (opens_int Try.underlying5)))))
end Go.Proofs.Ytbnoedefkbnpjaa.PA

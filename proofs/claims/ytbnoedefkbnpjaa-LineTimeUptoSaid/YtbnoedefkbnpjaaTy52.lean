/- What an argument's part of the struct type 52 reads as, what is known of it and how much it weighs. -/
import Derived.Test.YtbnoedefkbnpjaaHOpen
import Derived.Test.YtbnoedefkbnpjaaHKinds
namespace Go.Proofs.Ytbnoedefkbnpjaa.PA
open Go.RowKit Go.Proofs.YtbnoedefkbnpjaaW.PrintWords Go.Proofs.YtbnoedefkbnpjaaW.PrintLast Go.Proofs.YtbnoedefkbnpjaaW.PrintMore
set_option linter.unusedVariables false

instance : Inhabited S52 := ⟨z52⟩
def good52 (x : S52) : Prop := (Lit.int .i64 (x.f0)).wf = true ∧ ((x.f1).length ≤ maxLen ∧ ∀ y ∈ x.f1, (Lit.int .u8 (y)).wf = true)
def wt52 (x : S52) : Nat := (1 + ((((x.f1).map (fun _ => 1)).sum + 1))) + 1
def sz52 (x : S52) : Prop := True ∧ ((x.f1).length * 1 ≤ reachBytes ∧ ∀ y ∈ x.f1, True)
theorem opens52 : Opens Try.prog 52 k52 good52 wt52 sz52 :=
  opens_struct (fun x : S52 => (x.f0, x.f1)) (fun p => ⟨p.1, p.2⟩) (fun _ => rfl) Try.underlying52 (by kernel_rfl) (opensF_cons (by kernel_rfl) rfl (opens_int Try.underlying3) (opensF_one (by kernel_rfl) (opens_slice (b := 1) (by kernel_rfl) Try.underlying26 (by kernel_rfl) (opens_int Try.underlying5))))
end Go.Proofs.Ytbnoedefkbnpjaa.PA

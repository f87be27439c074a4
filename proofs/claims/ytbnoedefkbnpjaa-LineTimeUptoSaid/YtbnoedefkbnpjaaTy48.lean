/- What an argument's part of the struct type 48 reads as, what is known of it and how much it weighs. -/
import Derived.Test.YtbnoedefkbnpjaaHOpen
import Derived.Test.YtbnoedefkbnpjaaTy52
import Derived.Test.YtbnoedefkbnpjaaHKinds
namespace Go.Proofs.Ytbnoedefkbnpjaa.PA
open Go.RowKit Go.Proofs.YtbnoedefkbnpjaaW.PrintWords Go.Proofs.YtbnoedefkbnpjaaW.PrintLast Go.Proofs.YtbnoedefkbnpjaaW.PrintMore
set_option linter.unusedVariables false

instance : Inhabited S48 := ⟨z48⟩
def good48 (x : S48) : Prop := ((x.f0).length ≤ maxLen ∧ ∀ y ∈ x.f0, good52 (y)) ∧ (Lit.int .i64 (x.f1)).wf = true ∧ (Lit.int .i64 (x.f2)).wf = true
def wt48 (x : S48) : Nat := ((((x.f0).map (fun x => wt52 (x))).sum + 1) + (1 + (1))) + 1
def sz48 (x : S48) : Prop := ((x.f0).length * 32 ≤ reachBytes ∧ ∀ y ∈ x.f0, sz52 (y)) ∧ True ∧ True
theorem opens48 : Opens Try.prog 48 k48 good48 wt48 sz48 :=
  opens_struct (fun x : S48 => (x.f0, x.f1, x.f2)) (fun p => ⟨p.1, p.2.1, p.2.2⟩) (fun _ => rfl) Try.underlying48 (by kernel_rfl) (opensF_cons (by kernel_rfl) rfl (opens_slice (b := 32) (by kernel_rfl) Try.underlying46 (by kernel_rfl) opens52) (opensF_cons (by kernel_rfl) rfl (opens_int Try.underlying3) (opensF_one (by kernel_rfl) (opens_int Try.underlying3))))
end Go.Proofs.Ytbnoedefkbnpjaa.PA

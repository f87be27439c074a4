/- What an argument's part of the struct type 36 reads as, what is known of it and how much it weighs. -/
import Derived.Test.YtjndcgochnaodaaHOpenX
namespace Go.Proofs.Ytjndcgochnaodaa.PA
open Go.RowKit Go.Proofs.YtjndcgochnaodaaW.PrintWords Go.Proofs.YtjndcgochnaodaaW.PrintLast Go.Proofs.YtjndcgochnaodaaW.PrintMore
set_option linter.unusedVariables false

instance : Inhabited S36 := ⟨z36⟩
def good36 (x : S36) : Prop := (x.f0).size ≤ maxLen ∧ (x.f1).size ≤ maxLen
def wt36 (x : S36) : Nat := (((x.f0).size + 1) + (((x.f1).size + 1))) + 1
def sz36 (x : S36) : Prop := ((x.f0).size ≤ reachBytes) ∧ ((x.f1).size ≤ reachBytes)
theorem opens36 : Opens Try.prog 36 k36 good36 wt36 sz36 :=
  opens_struct (fun x : S36 => (x.f0, x.f1)) (fun p => ⟨p.1, p.2⟩) (fun _ => rfl) Try.underlying36 (by kernel_rfl) (opensF_cons (by kernel_rfl) rfl (opens_string Try.underlying9) (opensF_one (by kernel_rfl) (opens_string Try.underlying9)))
end Go.Proofs.Ytjndcgochnaodaa.PA

/- What an argument's part of the struct type 27 reads as, what is known of it and how much it weighs. -/
import Derived.Test.YtjndcgochnaodaaHOpenX
import Derived.Test.YtjndcgochnaodaaTy36
namespace Go.Proofs.Ytjndcgochnaodaa.PA
open Go.RowKit Go.Proofs.YtjndcgochnaodaaW.PrintWords Go.Proofs.YtjndcgochnaodaaW.PrintLast Go.Proofs.YtjndcgochnaodaaW.PrintMore
set_option linter.unusedVariables false

instance : Inhabited S27 := ⟨z27⟩
def good27 (x : S27) : Prop := (x.f0).size ≤ maxLen ∧ ((x.f1).length ≤ maxLen ∧ ∀ y ∈ x.f1, good36 (y))
def wt27 (x : S27) : Nat := (((x.f0).size + 1) + ((((x.f1).map (fun x => wt36 (x))).sum + 1))) + 1
def sz27 (x : S27) : Prop := ((x.f0).size ≤ reachBytes) ∧ ((x.f1).length * 32 ≤ reachBytes ∧ ∀ y ∈ x.f1, sz36 (y))
theorem opens27 : Opens Try.prog 27 k27 good27 wt27 sz27 :=
  opens_struct (fun x : S27 => (x.f0, x.f1)) (fun p => ⟨p.1, p.2⟩) (fun _ => rfl) Try.underlying27 (by kernel_rfl) (opensF_cons (by kernel_rfl) rfl (opens_string Try.underlying9) (opensF_one (by kernel_rfl) (opens_slice (b := 32) (by kernel_rfl) Try.underlying25 (by kernel_rfl) opens36)))
end Go.Proofs.Ytjndcgochnaodaa.PA

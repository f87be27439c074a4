/- What is left of the law TraceRight: the bound that the walk asks. -/
import Derived.Test.YtmlemnfleicnfaaStmtTraceRight
namespace Go.Proofs.Ytmlemnfleicnfaa.Pure
open Go.RowKit Go.Proofs.Ytmlemnfleicnfaa.PA
set_option linter.unusedVariables false in
theorem TraceRight : colloquylaw18_TraceRight.PureU := fun x0 g _ => ⟨0, if_pos g.1⟩
end Go.Proofs.Ytmlemnfleicnfaa.Pure

/- A Go function of the translation as a plain Lean function, with the proof that the call answers just so. Printed by a program of this session; Lean checks it. -/
import Derived.Test.YtoinmpjjmkpamaaProg
import Derived.Below
import Derived.Deep.Draws
import Derived.Deep.AppendLies
import Derived.Maps.AppendAt
import Derived.OwnWalk
import Derived.Laws.BytesArg
import Derived.Laws.MakeOwn
import Derived.Laws.OwnMore
import Derived.Deep.OwnRows
import Derived.Tactics
import Derived.Lib.ConvBytes
import Derived.Laws.Slices
import Derived.WalkKit
import Derived.KernelRfl
import Derived.RowKit3
import Derived.Deep.LoopGhost
import Derived.Deep.QuietTactic
import Derived.BigQuiet
import Derived.WideLaws
import Derived.Deep.DeepCutAuto
import Derived.Deep.CutBlock
import Derived.Deep.RegionHeld3
import Derived.Laws.Rows
import Derived.Lib.AppendStr
import Derived.ArgAppend
import Derived.Laws.IdiomCopy
import Derived.OrdersHeld
import Derived.Laws.BitsLemmas
import Derived.RowKit
import Derived.Test.YtoinmpjjmkpamaaWWords
import Derived.Test.YtoinmpjjmkpamaaWLast
import Derived.Test.YtoinmpjjmkpamaaWTab
import Derived.Test.YtoinmpjjmkpamaaWFour
import Derived.Test.YtoinmpjjmkpamaaWQPut
import Derived.Test.YtoinmpjjmkpamaaWApart
import Derived.Test.YtoinmpjjmkpamaaWArr
import Derived.Test.YtoinmpjjmkpamaaWZeros
import Derived.Test.YtoinmpjjmkpamaaWFoot
import Derived.Test.YtoinmpjjmkpamaaWKept
import Derived.Test.YtoinmpjjmkpamaaWShare
import Derived.Test.YtoinmpjjmkpamaaWN
import Derived.Test.YtoinmpjjmkpamaaWFootNe
import Derived.Test.YtoinmpjjmkpamaaWAt
import Derived.Test.YtoinmpjjmkpamaaWEqStruct
import Derived.Test.YtoinmpjjmkpamaaWRepsOne
import Derived.Test.YtoinmpjjmkpamaaWInv
import Derived.Test.YtoinmpjjmkpamaaWInvWords
import Derived.Test.YtoinmpjjmkpamaaWGuard
import Derived.Test.YtoinmpjjmkpamaaWNEv
import Derived.Test.YtoinmpjjmkpamaaWMore
namespace Go.Proofs.Ytoinmpjjmkpamaa.PA
open Go.RowKit Go.Proofs.YtoinmpjjmkpamaaW.PrintWords Go.Proofs.YtoinmpjjmkpamaaW.PrintLast Go.Proofs.YtoinmpjjmkpamaaW.PrintMore
attribute [local go_sem] max2_int min2_int max_two min_two max_three min_three max_four min_four   -- for this text's walks alone
set_option linter.unusedVariables false
set_option linter.unusedSimpArgs false



def errW : Option Int → Value
  | none => .nilIface
  | some c => .iface 0 (.int .i64 c)
theorem errW_none : errW none = .nilIface := rfl
theorem errW_some (c : Int) : errW (some c) = .iface 0 (.int .i64 c) := rfl

theorem info5 : (Try.prog.info? 5).map (fun i => (i.zero, i.size, i.bytes)) = some (some (.int .u8 0), 1, 1) := by kernel_rfl
-- the values' own types

end Go.Proofs.Ytoinmpjjmkpamaa.PA

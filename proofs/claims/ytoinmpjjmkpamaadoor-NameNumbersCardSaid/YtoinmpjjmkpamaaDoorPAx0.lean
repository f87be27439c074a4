/- A Go function of the translation as a plain Lean function, with the proof that the call answers just so. Printed by a program of this session; Lean checks it. -/
import Derived.Test.YtoinmpjjmkpamaaDoorProg
import Derived.Below
import Derived.Deep.Draws
import Derived.Deep.AppendLies
import Derived.Maps.AppendAt
import Derived.OwnWalk
import Derived.Laws.BytesArg
import Derived.Laws.MakeOwn
import Derived.Laws.OwnMore
import Derived.Deep.OwnRows
import Derived.Tactics
import Derived.Lib.ConvBytes
import Derived.Laws.Slices
import Derived.WalkKit
import Derived.KernelRfl
import Derived.RowKit3
import Derived.Deep.LoopGhost
import Derived.Deep.QuietTactic
import Derived.BigQuiet
import Derived.WideLaws
import Derived.Deep.DeepCutAuto
import Derived.Deep.CutBlock
import Derived.Deep.RegionHeld3
import Derived.Laws.Rows
import Derived.Lib.AppendStr
import Derived.ArgAppend
import Derived.Laws.IdiomCopy
import Derived.OrdersHeld
import Derived.Laws.BitsLemmas
import Derived.RowKit
import Derived.Test.YtoinmpjjmkpamaaDoorWWords
import Derived.Test.YtoinmpjjmkpamaaDoorWLast
import Derived.Test.YtoinmpjjmkpamaaDoorWTab
import Derived.Test.YtoinmpjjmkpamaaDoorWFour
import Derived.Test.YtoinmpjjmkpamaaDoorWQPut
import Derived.Test.YtoinmpjjmkpamaaDoorWApart
import Derived.Test.YtoinmpjjmkpamaaDoorWArr
import Derived.Test.YtoinmpjjmkpamaaDoorWZeros
import Derived.Test.YtoinmpjjmkpamaaDoorWFoot
import Derived.Test.YtoinmpjjmkpamaaDoorWKept
import Derived.Test.YtoinmpjjmkpamaaDoorWShare
import Derived.Test.YtoinmpjjmkpamaaDoorWN
import Derived.Test.YtoinmpjjmkpamaaDoorWFootNe
import Derived.Test.YtoinmpjjmkpamaaDoorWAt
import Derived.Test.YtoinmpjjmkpamaaDoorWEqStruct
import Derived.Test.YtoinmpjjmkpamaaDoorWRepsOne
import Derived.Test.YtoinmpjjmkpamaaDoorWInv
import Derived.Test.YtoinmpjjmkpamaaDoorWInvWords
import Derived.Test.YtoinmpjjmkpamaaDoorWGuard
import Derived.Test.YtoinmpjjmkpamaaDoorWNEv
import Derived.Test.YtoinmpjjmkpamaaDoorWMore
namespace Go.Proofs.YtoinmpjjmkpamaaDoor.PA
open Go.RowKit Go.Proofs.YtoinmpjjmkpamaaDoorW.PrintWords Go.Proofs.YtoinmpjjmkpamaaDoorW.PrintLast Go.Proofs.YtoinmpjjmkpamaaDoorW.PrintMore
attribute [local go_sem] max2_int min2_int max_two min_two max_three min_three max_four min_four   -- for this text's walks alone
set_option linter.unusedVariables false
set_option linter.unusedSimpArgs false



def errW : Option Int → Value
  | none => .nilIface
  | some c => .iface 0 (.int .i64 c)
theorem errW_none : errW none = .nilIface := rfl
theorem errW_some (c : Int) : errW (some c) = .iface 0 (.int .i64 c) := rfl

theorem info3 : (Tryd.prog.info? 3).map (fun i => (i.zero, i.size, i.bytes)) = some (some (.int .i64 0), 1, 8) := by kernel_rfl
theorem info5 : (Tryd.prog.info? 5).map (fun i => (i.zero, i.size, i.bytes)) = some (some (.int .u8 0), 1, 1) := by kernel_rfl
-- the values' own types

end Go.Proofs.YtoinmpjjmkpamaaDoor.PA

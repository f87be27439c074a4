/- slices.Clone of bytes hands back a row of the call's own; SameBytes. -/
import Derived.Test.YtkdahjnmldeklaaHVfs2
import Derived.Test.YtkdahjnmldeklaaHClone
import Derived.Test.YtkdahjnmldeklaaHSame
namespace Go.Proofs.Ytkdahjnmldeklaa.PA
open Go.RowKit Go.Proofs.YtkdahjnmldeklaaW.PrintWords Go.Proofs.YtkdahjnmldeklaaW.PrintLast Go.Proofs.YtkdahjnmldeklaaW.PrintMore
set_option linter.unusedVariables false
set_option linter.unusedSimpArgs false
theorem clone0 (A0 : Option Addr) (c0 : Nat) (l : List Int) (w : World) (hr : Kd.C (Kd.int .u8) w A0 l.length l) (hc : l.length ≤ c0) (hl : l.length < 140737488355328) :
    Calls Try.prog 45 #[.slice A0 l.length c0] w fun e w' => ∃ A c S, e = .returned (.slice A l.length c) ∧ Out w w' (fun _ => False) [Chunk.row (Kd.int .u8) 5 w.heap.size S (.slice A l.length c) l] := by
  refine (clone_bytes A0 c0 l w hr hc hl).mono ?_
  rintro e w' ⟨A, c, rfl, h, hb⟩
  exact ⟨A, c, _, rfl, Out.row h hb⟩
end Go.Proofs.Ytkdahjnmldeklaa.PA

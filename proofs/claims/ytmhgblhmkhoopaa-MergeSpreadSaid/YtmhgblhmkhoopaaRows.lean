/-
  No cell of these rows narrows 'for every input' (looked for: loops, veiled, ifaces, maps, wideKeys, modest, calm, conditions, laid).
  DERIVED. THE GIVEN ROWS OF THIS SEAT. 2 by the template 'for every input the law returns true; each argument reads behind the call as it read before'; 0 by the template 'total and deterministic' (their statements: YtmhgblhmkhoopaaTotals.lean).
  GIVEN WITH THE SEED: the statements are not yours to turn. If you find one false, say at which input.
  Laid BY PROGRAM, IN A SANDBOX (cutbox-rows.mjs): the forced cells as the released guide's own fill.sh prints them over the translation 9942c9812ab106d6… (all of the seat's roots in one cut). By AI agents, Wed Nov 11 2026. No macro, syntax, notation, axiom, sorry.
-/
import Derived.Test.YtmhgblhmkhoopaaChecked
import GoSem.Claim
import GoSem.ClaimJoined
import GoSem.ClaimMapViews
import Derived.JoinedTies
import Derived.KernelRfl
namespace Go.Proofs.Ytmhgblhmkhoopaa
/- THE CELL 'sum', in the pinned program and in every row, IS THE sha256 OF THE DUMP (.gsa) THAT YtmhgblhmkhoopaaProg.lean LOADS. Nothing in Lean hashes anything: it is a label: what it is worth is what the hold of that sum in a sandbox is worth. -/
noncomputable def Try.pinned : Pinned := { name := "ytmhgblhmkhoopaa", sum := "9942c9812ab106d66e942bec7b7d2310ffcce9a9e300dd3aaddf488b14853d6f", checked := Try.checked }
namespace Rows
def none {H : Type} : Left H := { results := [], args := [] }

/-- 'colloquylaw22.MergeMerges': WHATEVER THE INPUT: true; the input reads as it did. -/
def mergeMergesSpec : ChangeSpec := { name := "mergeMerges", fn := fun _ => fun
  | [d1, d2] => { results := [.lit (.bool true)], args := [d1, d2] }
  | _ => none }
def mergeMergesRow : OpenClaim := { program := "ytmhgblhmkhoopaa", sum := "9942c9812ab106d66e942bec7b7d2310ffcce9a9e300dd3aaddf488b14853d6f", func := "colloquy/colloquylaw22.MergeMerges", spec := "mergeMerges", unfollowed := true, recurses := true, apart := false }
def MergeMergesSaid : Prop := mergeMergesRow.holds Try.pinned (OpenSpec.ofChange mergeMergesSpec)

/-- ITS FALSE NEIGHBOUR: 'it returns false'. Refute it at one input. -/
def mergeMergesWrong : ChangeSpec := { name := "mergeMerges", fn := fun _ => fun
  | [d1, d2] => { results := [.lit (.bool false)], args := [d1, d2] }
  | _ => none }
def MergeMergesWrongFalsely : Prop := mergeMergesRow.holds Try.pinned (OpenSpec.ofChange mergeMergesWrong)

/-- 'colloquylaw22.MergeSpread': WHATEVER THE INPUT: true; the input reads as it did. -/
def mergeSpreadSpec : ChangeSpec := { name := "mergeSpread", fn := fun _ => fun
  | [d1, d2, d3] => { results := [.lit (.bool true)], args := [d1, d2, d3] }
  | _ => none }
def mergeSpreadRow : OpenClaim := { program := "ytmhgblhmkhoopaa", sum := "9942c9812ab106d66e942bec7b7d2310ffcce9a9e300dd3aaddf488b14853d6f", func := "colloquy/colloquylaw22.MergeSpread", spec := "mergeSpread", unfollowed := true, recurses := true, apart := false }
def MergeSpreadSaid : Prop := mergeSpreadRow.holds Try.pinned (OpenSpec.ofChange mergeSpreadSpec)

/-- ITS FALSE NEIGHBOUR: 'it returns false'. Refute it at one input. -/
def mergeSpreadWrong : ChangeSpec := { name := "mergeSpread", fn := fun _ => fun
  | [d1, d2, d3] => { results := [.lit (.bool false)], args := [d1, d2, d3] }
  | _ => none }
def MergeSpreadWrongFalsely : Prop := mergeSpreadRow.holds Try.pinned (OpenSpec.ofChange mergeSpreadWrong)

/- THE SECOND FORM. 'bulk': how many values and letters a reading holds, each counted each time it is reached (what is shared counts as often as it is met; a slice's spare places count too). A statement '..UptoSaid' is the law's where the arguments, and the package variables that the reading takes, are together of bulk at most 1048576: NARROWER than '..Said'. Prove '..Said' where nothing that the law and all that it calls make is longer than what came in: it says more and counts as full. Else prove '..UptoSaid'. A law counts once. -/
mutual
def uptoBulk {H : Type} : DataW H → Nat
  | .lit (.string bytes) => bytes.length + 1
  | .lit _ => 1
  | .nil => 1
  | .ptr d => uptoBulk d + 1
  | .slice elems spare => uptoBulkAll elems + uptoBulkAll spare + 1
  | .agg parts => uptoBulkAll parts + 1
  | .iface _ d => uptoBulk d + 1
  | .map entries => uptoBulkEntries entries + 1
  | .held _ => 1
def uptoBulkAll {H : Type} : List (DataW H) → Nat
  | [] => 0
  | d :: r => uptoBulk d + uptoBulkAll r
def uptoBulkEntries {H : Type} : List (Lit × DataW H) → Nat
  | [] => 0
  | x :: r => uptoBulkEntry x + uptoBulkEntries r
def uptoBulkEntry {H : Type} : Lit × DataW H → Nat
  | (.string bytes, d) => bytes.length + uptoBulk d + 1
  | (_, d) => uptoBulk d + 1
 end
def uptoSmall : (H : Type) → List (DataW H) → Bool := fun _ ds => decide (uptoBulkAll ds ≤ 1048576)
def OpenSpec.upto (s : _root_.Go.ChangeSpec) : _root_.Go.OpenSpec := { _root_.Go.OpenSpec.ofChange s with cond := some uptoSmall }

/-- 'colloquylaw22.MergeMerges', WHERE WHAT IT READS IS OF BULK AT MOST 1048576: true; the input reads as it did. -/
def mergeMergesUptoRow : OpenClaim := { program := "ytmhgblhmkhoopaa", sum := "9942c9812ab106d66e942bec7b7d2310ffcce9a9e300dd3aaddf488b14853d6f", func := "colloquy/colloquylaw22.MergeMerges", spec := "mergeMerges", unfollowed := true, recurses := true, apart := false, narrowed := true }
def MergeMergesUptoSaid : Prop := mergeMergesUptoRow.holds Try.pinned (OpenSpec.upto mergeMergesSpec)

/-- 'colloquylaw22.MergeSpread', WHERE WHAT IT READS IS OF BULK AT MOST 1048576: true; the input reads as it did. -/
def mergeSpreadUptoRow : OpenClaim := { program := "ytmhgblhmkhoopaa", sum := "9942c9812ab106d66e942bec7b7d2310ffcce9a9e300dd3aaddf488b14853d6f", func := "colloquy/colloquylaw22.MergeSpread", spec := "mergeSpread", unfollowed := true, recurses := true, apart := false, narrowed := true }
def MergeSpreadUptoSaid : Prop := mergeSpreadUptoRow.holds Try.pinned (OpenSpec.upto mergeSpreadSpec)

end Rows
end Go.Proofs.Ytmhgblhmkhoopaa

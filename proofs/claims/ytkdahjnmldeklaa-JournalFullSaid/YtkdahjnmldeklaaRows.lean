/-
  No cell of these rows narrows 'for every input' (looked for: loops, veiled, ifaces, maps, wideKeys, modest, calm, conditions, laid).
  DERIVED. THE GIVEN ROWS OF THIS SEAT. 8 by the template 'for every input the law returns true; each argument reads behind the call as it read before'; 0 by the template 'total and deterministic' (their statements: YtkdahjnmldeklaaTotals.lean).
  GIVEN WITH THE SEED: the statements are not yours to turn. If you find one false, say at which input.
  Laid BY PROGRAM, IN A SANDBOX (cutbox-rows.mjs): the forced cells as the released guide's own fill.sh prints them over the translation 808c8d356e51ee37… (all of the seat's roots in one cut). By AI agents, Wed Nov 11 2026. No macro, syntax, notation, axiom, sorry.
-/
import Derived.Test.YtkdahjnmldeklaaChecked
import GoSem.Claim
import GoSem.ClaimJoined
import GoSem.ClaimMapViews
import Derived.JoinedTies
import Derived.KernelRfl
namespace Go.Proofs.Ytkdahjnmldeklaa
/- THE CELL 'sum', in the pinned program and in every row, IS THE sha256 OF THE DUMP (.gsa) THAT YtkdahjnmldeklaaProg.lean LOADS. Nothing in Lean hashes anything: it is a label: what it is worth is what the hold of that sum in a sandbox is worth. -/
noncomputable def Try.pinned : Pinned := { name := "ytkdahjnmldeklaa", sum := "808c8d356e51ee3761cd4c28edeb9540a48d2c83e980eee81538b9bde652c647", checked := Try.checked }
namespace Rows
def none {H : Type} : Left H := { results := [], args := [] }

/-- 'colloquylaw07.VfsKeeps': WHATEVER THE INPUT: true; the input reads as it did. -/
def vfsKeepsSpec : ChangeSpec := { name := "vfsKeeps", fn := fun _ => fun
  | [d1, d2, d3, d4] => { results := [.lit (.bool true)], args := [d1, d2, d3, d4] }
  | _ => none }
def vfsKeepsRow : OpenClaim := { program := "ytkdahjnmldeklaa", sum := "808c8d356e51ee3761cd4c28edeb9540a48d2c83e980eee81538b9bde652c647", func := "colloquy/colloquylaw07.VfsKeeps", spec := "vfsKeeps", unfollowed := true, recurses := true, apart := false }
def VfsKeepsSaid : Prop := vfsKeepsRow.holds Try.pinned (OpenSpec.ofChange vfsKeepsSpec)

/-- ITS FALSE NEIGHBOUR: 'it returns false'. Refute it at one input. -/
def vfsKeepsWrong : ChangeSpec := { name := "vfsKeeps", fn := fun _ => fun
  | [d1, d2, d3, d4] => { results := [.lit (.bool false)], args := [d1, d2, d3, d4] }
  | _ => none }
def VfsKeepsWrongFalsely : Prop := vfsKeepsRow.holds Try.pinned (OpenSpec.ofChange vfsKeepsWrong)

/-- 'colloquylaw07.VfsSteps': WHATEVER THE INPUT: true; the input reads as it did. -/
def vfsStepsSpec : ChangeSpec := { name := "vfsSteps", fn := fun _ => fun
  | [d1, d2] => { results := [.lit (.bool true)], args := [d1, d2] }
  | _ => none }
def vfsStepsRow : OpenClaim := { program := "ytkdahjnmldeklaa", sum := "808c8d356e51ee3761cd4c28edeb9540a48d2c83e980eee81538b9bde652c647", func := "colloquy/colloquylaw07.VfsSteps", spec := "vfsSteps", unfollowed := true, recurses := true, apart := false }
def VfsStepsSaid : Prop := vfsStepsRow.holds Try.pinned (OpenSpec.ofChange vfsStepsSpec)

/-- ITS FALSE NEIGHBOUR: 'it returns false'. Refute it at one input. -/
def vfsStepsWrong : ChangeSpec := { name := "vfsSteps", fn := fun _ => fun
  | [d1, d2] => { results := [.lit (.bool false)], args := [d1, d2] }
  | _ => none }
def VfsStepsWrongFalsely : Prop := vfsStepsRow.holds Try.pinned (OpenSpec.ofChange vfsStepsWrong)

/-- 'colloquylaw07.VfsMoves': WHATEVER THE INPUT: true; the input reads as it did. -/
def vfsMovesSpec : ChangeSpec := { name := "vfsMoves", fn := fun _ => fun
  | [d1, d2, d3, d4] => { results := [.lit (.bool true)], args := [d1, d2, d3, d4] }
  | _ => none }
def vfsMovesRow : OpenClaim := { program := "ytkdahjnmldeklaa", sum := "808c8d356e51ee3761cd4c28edeb9540a48d2c83e980eee81538b9bde652c647", func := "colloquy/colloquylaw07.VfsMoves", spec := "vfsMoves", unfollowed := true, recurses := true, apart := false }
def VfsMovesSaid : Prop := vfsMovesRow.holds Try.pinned (OpenSpec.ofChange vfsMovesSpec)

/-- ITS FALSE NEIGHBOUR: 'it returns false'. Refute it at one input. -/
def vfsMovesWrong : ChangeSpec := { name := "vfsMoves", fn := fun _ => fun
  | [d1, d2, d3, d4] => { results := [.lit (.bool false)], args := [d1, d2, d3, d4] }
  | _ => none }
def VfsMovesWrongFalsely : Prop := vfsMovesRow.holds Try.pinned (OpenSpec.ofChange vfsMovesWrong)

/-- 'colloquylaw07.VfsRoom': WHATEVER THE INPUT: true; the input reads as it did. -/
def vfsRoomSpec : ChangeSpec := { name := "vfsRoom", fn := fun _ => fun
  | [d1, d2] => { results := [.lit (.bool true)], args := [d1, d2] }
  | _ => none }
def vfsRoomRow : OpenClaim := { program := "ytkdahjnmldeklaa", sum := "808c8d356e51ee3761cd4c28edeb9540a48d2c83e980eee81538b9bde652c647", func := "colloquy/colloquylaw07.VfsRoom", spec := "vfsRoom", unfollowed := true, recurses := true, apart := false }
def VfsRoomSaid : Prop := vfsRoomRow.holds Try.pinned (OpenSpec.ofChange vfsRoomSpec)

/-- ITS FALSE NEIGHBOUR: 'it returns false'. Refute it at one input. -/
def vfsRoomWrong : ChangeSpec := { name := "vfsRoom", fn := fun _ => fun
  | [d1, d2] => { results := [.lit (.bool false)], args := [d1, d2] }
  | _ => none }
def VfsRoomWrongFalsely : Prop := vfsRoomRow.holds Try.pinned (OpenSpec.ofChange vfsRoomWrong)

/-- 'colloquylaw07.VfsPlays': WHATEVER THE INPUT: true; the input reads as it did. -/
def vfsPlaysSpec : ChangeSpec := { name := "vfsPlays", fn := fun _ => fun
  | [d1, d2, d3] => { results := [.lit (.bool true)], args := [d1, d2, d3] }
  | _ => none }
def vfsPlaysRow : OpenClaim := { program := "ytkdahjnmldeklaa", sum := "808c8d356e51ee3761cd4c28edeb9540a48d2c83e980eee81538b9bde652c647", func := "colloquy/colloquylaw07.VfsPlays", spec := "vfsPlays", unfollowed := true, recurses := true, apart := false }
def VfsPlaysSaid : Prop := vfsPlaysRow.holds Try.pinned (OpenSpec.ofChange vfsPlaysSpec)

/-- ITS FALSE NEIGHBOUR: 'it returns false'. Refute it at one input. -/
def vfsPlaysWrong : ChangeSpec := { name := "vfsPlays", fn := fun _ => fun
  | [d1, d2, d3] => { results := [.lit (.bool false)], args := [d1, d2, d3] }
  | _ => none }
def VfsPlaysWrongFalsely : Prop := vfsPlaysRow.holds Try.pinned (OpenSpec.ofChange vfsPlaysWrong)

/-- 'colloquylaw09.JournalKeeps': WHATEVER THE INPUT: true; the input reads as it did. -/
def journalKeepsSpec : ChangeSpec := { name := "journalKeeps", fn := fun _ => fun
  | [d1, d2, d3] => { results := [.lit (.bool true)], args := [d1, d2, d3] }
  | _ => none }
def journalKeepsRow : OpenClaim := { program := "ytkdahjnmldeklaa", sum := "808c8d356e51ee3761cd4c28edeb9540a48d2c83e980eee81538b9bde652c647", func := "colloquy/colloquylaw09.JournalKeeps", spec := "journalKeeps", unfollowed := true, recurses := true, apart := false }
def JournalKeepsSaid : Prop := journalKeepsRow.holds Try.pinned (OpenSpec.ofChange journalKeepsSpec)

/-- ITS FALSE NEIGHBOUR: 'it returns false'. Refute it at one input. -/
def journalKeepsWrong : ChangeSpec := { name := "journalKeeps", fn := fun _ => fun
  | [d1, d2, d3] => { results := [.lit (.bool false)], args := [d1, d2, d3] }
  | _ => none }
def JournalKeepsWrongFalsely : Prop := journalKeepsRow.holds Try.pinned (OpenSpec.ofChange journalKeepsWrong)

/-- 'colloquylaw09.JournalTorn': WHATEVER THE INPUT: true; the input reads as it did. -/
def journalTornSpec : ChangeSpec := { name := "journalTorn", fn := fun _ => fun
  | [d1, d2, d3] => { results := [.lit (.bool true)], args := [d1, d2, d3] }
  | _ => none }
def journalTornRow : OpenClaim := { program := "ytkdahjnmldeklaa", sum := "808c8d356e51ee3761cd4c28edeb9540a48d2c83e980eee81538b9bde652c647", func := "colloquy/colloquylaw09.JournalTorn", spec := "journalTorn", unfollowed := true, recurses := true, apart := false }
def JournalTornSaid : Prop := journalTornRow.holds Try.pinned (OpenSpec.ofChange journalTornSpec)

/-- ITS FALSE NEIGHBOUR: 'it returns false'. Refute it at one input. -/
def journalTornWrong : ChangeSpec := { name := "journalTorn", fn := fun _ => fun
  | [d1, d2, d3] => { results := [.lit (.bool false)], args := [d1, d2, d3] }
  | _ => none }
def JournalTornWrongFalsely : Prop := journalTornRow.holds Try.pinned (OpenSpec.ofChange journalTornWrong)

/-- 'colloquylaw09.JournalFull': WHATEVER THE INPUT: true; the input reads as it did. -/
def journalFullSpec : ChangeSpec := { name := "journalFull", fn := fun _ => fun
  | [d1, d2] => { results := [.lit (.bool true)], args := [d1, d2] }
  | _ => none }
def journalFullRow : OpenClaim := { program := "ytkdahjnmldeklaa", sum := "808c8d356e51ee3761cd4c28edeb9540a48d2c83e980eee81538b9bde652c647", func := "colloquy/colloquylaw09.JournalFull", spec := "journalFull", unfollowed := true, recurses := true, apart := false }
def JournalFullSaid : Prop := journalFullRow.holds Try.pinned (OpenSpec.ofChange journalFullSpec)

/-- ITS FALSE NEIGHBOUR: 'it returns false'. Refute it at one input. -/
def journalFullWrong : ChangeSpec := { name := "journalFull", fn := fun _ => fun
  | [d1, d2] => { results := [.lit (.bool false)], args := [d1, d2] }
  | _ => none }
def JournalFullWrongFalsely : Prop := journalFullRow.holds Try.pinned (OpenSpec.ofChange journalFullWrong)

/- THE SECOND FORM. 'bulk': how many values and letters a reading holds, each counted each time it is reached (what is shared counts as often as it is met; a slice's spare places count too). A statement '..UptoSaid' is the law's where the arguments, and the package variables that the reading takes, are together of bulk at most 1048576: NARROWER than '..Said'. Prove '..Said' where nothing that the law and all that it calls make is longer than what came in: it says more and counts as full. Else prove '..UptoSaid'. A law counts once. -/
mutual
def uptoBulk {H : Type} : DataW H → Nat
  | .lit (.string bytes) => bytes.length + 1
  | .lit _ => 1
  | .nil => 1
  | .ptr d => uptoBulk d + 1
  | .slice elems spare => uptoBulkAll elems + uptoBulkAll spare + 1
  | .agg parts => uptoBulkAll parts + 1
  | .iface _ d => uptoBulk d + 1
  | .map entries => uptoBulkEntries entries + 1
  | .held _ => 1
def uptoBulkAll {H : Type} : List (DataW H) → Nat
  | [] => 0
  | d :: r => uptoBulk d + uptoBulkAll r
def uptoBulkEntries {H : Type} : List (Lit × DataW H) → Nat
  | [] => 0
  | x :: r => uptoBulkEntry x + uptoBulkEntries r
def uptoBulkEntry {H : Type} : Lit × DataW H → Nat
  | (.string bytes, d) => bytes.length + uptoBulk d + 1
  | (_, d) => uptoBulk d + 1
 end
def uptoSmall : (H : Type) → List (DataW H) → Bool := fun _ ds => decide (uptoBulkAll ds ≤ 1048576)
def OpenSpec.upto (s : _root_.Go.ChangeSpec) : _root_.Go.OpenSpec := { _root_.Go.OpenSpec.ofChange s with cond := some uptoSmall }

/-- 'colloquylaw07.VfsKeeps', WHERE WHAT IT READS IS OF BULK AT MOST 1048576: true; the input reads as it did. -/
def vfsKeepsUptoRow : OpenClaim := { program := "ytkdahjnmldeklaa", sum := "808c8d356e51ee3761cd4c28edeb9540a48d2c83e980eee81538b9bde652c647", func := "colloquy/colloquylaw07.VfsKeeps", spec := "vfsKeeps", unfollowed := true, recurses := true, apart := false, narrowed := true }
def VfsKeepsUptoSaid : Prop := vfsKeepsUptoRow.holds Try.pinned (OpenSpec.upto vfsKeepsSpec)

/-- 'colloquylaw07.VfsSteps', WHERE WHAT IT READS IS OF BULK AT MOST 1048576: true; the input reads as it did. -/
def vfsStepsUptoRow : OpenClaim := { program := "ytkdahjnmldeklaa", sum := "808c8d356e51ee3761cd4c28edeb9540a48d2c83e980eee81538b9bde652c647", func := "colloquy/colloquylaw07.VfsSteps", spec := "vfsSteps", unfollowed := true, recurses := true, apart := false, narrowed := true }
def VfsStepsUptoSaid : Prop := vfsStepsUptoRow.holds Try.pinned (OpenSpec.upto vfsStepsSpec)

/-- 'colloquylaw07.VfsMoves', WHERE WHAT IT READS IS OF BULK AT MOST 1048576: true; the input reads as it did. -/
def vfsMovesUptoRow : OpenClaim := { program := "ytkdahjnmldeklaa", sum := "808c8d356e51ee3761cd4c28edeb9540a48d2c83e980eee81538b9bde652c647", func := "colloquy/colloquylaw07.VfsMoves", spec := "vfsMoves", unfollowed := true, recurses := true, apart := false, narrowed := true }
def VfsMovesUptoSaid : Prop := vfsMovesUptoRow.holds Try.pinned (OpenSpec.upto vfsMovesSpec)

/-- 'colloquylaw07.VfsRoom', WHERE WHAT IT READS IS OF BULK AT MOST 1048576: true; the input reads as it did. -/
def vfsRoomUptoRow : OpenClaim := { program := "ytkdahjnmldeklaa", sum := "808c8d356e51ee3761cd4c28edeb9540a48d2c83e980eee81538b9bde652c647", func := "colloquy/colloquylaw07.VfsRoom", spec := "vfsRoom", unfollowed := true, recurses := true, apart := false, narrowed := true }
def VfsRoomUptoSaid : Prop := vfsRoomUptoRow.holds Try.pinned (OpenSpec.upto vfsRoomSpec)

/-- 'colloquylaw07.VfsPlays', WHERE WHAT IT READS IS OF BULK AT MOST 1048576: true; the input reads as it did. -/
def vfsPlaysUptoRow : OpenClaim := { program := "ytkdahjnmldeklaa", sum := "808c8d356e51ee3761cd4c28edeb9540a48d2c83e980eee81538b9bde652c647", func := "colloquy/colloquylaw07.VfsPlays", spec := "vfsPlays", unfollowed := true, recurses := true, apart := false, narrowed := true }
def VfsPlaysUptoSaid : Prop := vfsPlaysUptoRow.holds Try.pinned (OpenSpec.upto vfsPlaysSpec)

/-- 'colloquylaw09.JournalKeeps', WHERE WHAT IT READS IS OF BULK AT MOST 1048576: true; the input reads as it did. -/
def journalKeepsUptoRow : OpenClaim := { program := "ytkdahjnmldeklaa", sum := "808c8d356e51ee3761cd4c28edeb9540a48d2c83e980eee81538b9bde652c647", func := "colloquy/colloquylaw09.JournalKeeps", spec := "journalKeeps", unfollowed := true, recurses := true, apart := false, narrowed := true }
def JournalKeepsUptoSaid : Prop := journalKeepsUptoRow.holds Try.pinned (OpenSpec.upto journalKeepsSpec)

/-- 'colloquylaw09.JournalTorn', WHERE WHAT IT READS IS OF BULK AT MOST 1048576: true; the input reads as it did. -/
def journalTornUptoRow : OpenClaim := { program := "ytkdahjnmldeklaa", sum := "808c8d356e51ee3761cd4c28edeb9540a48d2c83e980eee81538b9bde652c647", func := "colloquy/colloquylaw09.JournalTorn", spec := "journalTorn", unfollowed := true, recurses := true, apart := false, narrowed := true }
def JournalTornUptoSaid : Prop := journalTornUptoRow.holds Try.pinned (OpenSpec.upto journalTornSpec)

/-- 'colloquylaw09.JournalFull', WHERE WHAT IT READS IS OF BULK AT MOST 1048576: true; the input reads as it did. -/
def journalFullUptoRow : OpenClaim := { program := "ytkdahjnmldeklaa", sum := "808c8d356e51ee3761cd4c28edeb9540a48d2c83e980eee81538b9bde652c647", func := "colloquy/colloquylaw09.JournalFull", spec := "journalFull", unfollowed := true, recurses := true, apart := false, narrowed := true }
def JournalFullUptoSaid : Prop := journalFullUptoRow.holds Try.pinned (OpenSpec.upto journalFullSpec)

end Rows
end Go.Proofs.Ytkdahjnmldeklaa

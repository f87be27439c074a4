/-
  No cell of these rows narrows 'for every input' (looked for: loops, veiled, ifaces, maps, wideKeys, modest, calm, conditions, laid).
  DERIVED. THE GIVEN ROWS OF THIS SEAT. 12 by the template 'for every input the law returns true; each argument reads behind the call as it read before'; 0 by the template 'total and deterministic' (their statements: YtmlemnfleicnfaaTotals.lean).
  GIVEN WITH THE SEED: the statements are not yours to turn. If you find one false, say at which input.
  Laid BY PROGRAM, IN A SANDBOX (cutbox-rows.mjs): the forced cells as the released guide's own fill.sh prints them over the translation 43e018a93f9c515e… (all of the seat's roots in one cut). By AI agents, Wed Nov 11 2026. No macro, syntax, notation, axiom, sorry.
-/
import Derived.Test.YtmlemnfleicnfaaChecked
import GoSem.Claim
import GoSem.ClaimJoined
import GoSem.ClaimMapViews
import Derived.JoinedTies
import Derived.KernelRfl
namespace Go.Proofs.Ytmlemnfleicnfaa
/- THE CELL 'sum', in the pinned program and in every row, IS THE sha256 OF THE DUMP (.gsa) THAT YtmlemnfleicnfaaProg.lean LOADS. Nothing in Lean hashes anything: it is a label: what it is worth is what the hold of that sum in a sandbox is worth. -/
noncomputable def Try.pinned : Pinned := { name := "ytmlemnfleicnfaa", sum := "43e018a93f9c515ebccf7481642f45e4ddc8d2fdc07fa95ec1c81f3cea7fa5f9", checked := Try.checked }
namespace Rows
def none {H : Type} : Left H := { results := [], args := [] }

/-- 'colloquylaw08.PackSums': WHATEVER THE INPUT: true; the input reads as it did. -/
def packSumsSpec : ChangeSpec := { name := "packSums", fn := fun _ => fun
  | [d] => { results := [.lit (.bool true)], args := [d] }
  | _ => none }
def packSumsRow : OpenClaim := { program := "ytmlemnfleicnfaa", sum := "43e018a93f9c515ebccf7481642f45e4ddc8d2fdc07fa95ec1c81f3cea7fa5f9", func := "colloquy/colloquylaw08.PackSums", spec := "packSums", apart := false }
def PackSumsSaid : Prop := packSumsRow.holds Try.pinned (OpenSpec.ofChange packSumsSpec)

/-- ITS FALSE NEIGHBOUR: 'it returns false'. Refute it at one input. -/
def packSumsWrong : ChangeSpec := { name := "packSums", fn := fun _ => fun
  | [d] => { results := [.lit (.bool false)], args := [d] }
  | _ => none }
def PackSumsWrongFalsely : Prop := packSumsRow.holds Try.pinned (OpenSpec.ofChange packSumsWrong)

/-- 'colloquylaw08.PackWrites': WHATEVER THE INPUT: true; the input reads as it did. -/
def packWritesSpec : ChangeSpec := { name := "packWrites", fn := fun _ => fun
  | [d1, d2, d3] => { results := [.lit (.bool true)], args := [d1, d2, d3] }
  | _ => none }
def packWritesRow : OpenClaim := { program := "ytmlemnfleicnfaa", sum := "43e018a93f9c515ebccf7481642f45e4ddc8d2fdc07fa95ec1c81f3cea7fa5f9", func := "colloquy/colloquylaw08.PackWrites", spec := "packWrites", apart := false }
def PackWritesSaid : Prop := packWritesRow.holds Try.pinned (OpenSpec.ofChange packWritesSpec)

/-- ITS FALSE NEIGHBOUR: 'it returns false'. Refute it at one input. -/
def packWritesWrong : ChangeSpec := { name := "packWrites", fn := fun _ => fun
  | [d1, d2, d3] => { results := [.lit (.bool false)], args := [d1, d2, d3] }
  | _ => none }
def PackWritesWrongFalsely : Prop := packWritesRow.holds Try.pinned (OpenSpec.ofChange packWritesWrong)

/-- 'colloquylaw08.PackRecords': WHATEVER THE INPUT: true; the input reads as it did. -/
def packRecordsSpec : ChangeSpec := { name := "packRecords", fn := fun _ => fun
  | [d1, d2] => { results := [.lit (.bool true)], args := [d1, d2] }
  | _ => none }
def packRecordsRow : OpenClaim := { program := "ytmlemnfleicnfaa", sum := "43e018a93f9c515ebccf7481642f45e4ddc8d2fdc07fa95ec1c81f3cea7fa5f9", func := "colloquy/colloquylaw08.PackRecords", spec := "packRecords", apart := false }
def PackRecordsSaid : Prop := packRecordsRow.holds Try.pinned (OpenSpec.ofChange packRecordsSpec)

/-- ITS FALSE NEIGHBOUR: 'it returns false'. Refute it at one input. -/
def packRecordsWrong : ChangeSpec := { name := "packRecords", fn := fun _ => fun
  | [d1, d2] => { results := [.lit (.bool false)], args := [d1, d2] }
  | _ => none }
def PackRecordsWrongFalsely : Prop := packRecordsRow.holds Try.pinned (OpenSpec.ofChange packRecordsWrong)

/-- 'colloquylaw08.PackTurns': WHATEVER THE INPUT: true; the input reads as it did. -/
def packTurnsSpec : ChangeSpec := { name := "packTurns", fn := fun _ => fun
  | [d1, d2, d3] => { results := [.lit (.bool true)], args := [d1, d2, d3] }
  | _ => none }
def packTurnsRow : OpenClaim := { program := "ytmlemnfleicnfaa", sum := "43e018a93f9c515ebccf7481642f45e4ddc8d2fdc07fa95ec1c81f3cea7fa5f9", func := "colloquy/colloquylaw08.PackTurns", spec := "packTurns", apart := false }
def PackTurnsSaid : Prop := packTurnsRow.holds Try.pinned (OpenSpec.ofChange packTurnsSpec)

/-- ITS FALSE NEIGHBOUR: 'it returns false'. Refute it at one input. -/
def packTurnsWrong : ChangeSpec := { name := "packTurns", fn := fun _ => fun
  | [d1, d2, d3] => { results := [.lit (.bool false)], args := [d1, d2, d3] }
  | _ => none }
def PackTurnsWrongFalsely : Prop := packTurnsRow.holds Try.pinned (OpenSpec.ofChange packTurnsWrong)

/-- 'colloquylaw08.PackNeeds': WHATEVER THE INPUT: true; the input reads as it did. -/
def packNeedsSpec : ChangeSpec := { name := "packNeeds", fn := fun _ => fun
  | [d1, d2, d3] => { results := [.lit (.bool true)], args := [d1, d2, d3] }
  | _ => none }
def packNeedsRow : OpenClaim := { program := "ytmlemnfleicnfaa", sum := "43e018a93f9c515ebccf7481642f45e4ddc8d2fdc07fa95ec1c81f3cea7fa5f9", func := "colloquy/colloquylaw08.PackNeeds", spec := "packNeeds", unfollowed := true, recurses := true, apart := false }
def PackNeedsSaid : Prop := packNeedsRow.holds Try.pinned (OpenSpec.ofChange packNeedsSpec)

/-- ITS FALSE NEIGHBOUR: 'it returns false'. Refute it at one input. -/
def packNeedsWrong : ChangeSpec := { name := "packNeeds", fn := fun _ => fun
  | [d1, d2, d3] => { results := [.lit (.bool false)], args := [d1, d2, d3] }
  | _ => none }
def PackNeedsWrongFalsely : Prop := packNeedsRow.holds Try.pinned (OpenSpec.ofChange packNeedsWrong)

/-- 'colloquylaw08.PackReads': WHATEVER THE INPUT: true; the input reads as it did. -/
def packReadsSpec : ChangeSpec := { name := "packReads", fn := fun _ => fun
  | [d1, d2] => { results := [.lit (.bool true)], args := [d1, d2] }
  | _ => none }
def packReadsRow : OpenClaim := { program := "ytmlemnfleicnfaa", sum := "43e018a93f9c515ebccf7481642f45e4ddc8d2fdc07fa95ec1c81f3cea7fa5f9", func := "colloquy/colloquylaw08.PackReads", spec := "packReads", unfollowed := true, recurses := true, apart := false }
def PackReadsSaid : Prop := packReadsRow.holds Try.pinned (OpenSpec.ofChange packReadsSpec)

/-- ITS FALSE NEIGHBOUR: 'it returns false'. Refute it at one input. -/
def packReadsWrong : ChangeSpec := { name := "packReads", fn := fun _ => fun
  | [d1, d2] => { results := [.lit (.bool false)], args := [d1, d2] }
  | _ => none }
def PackReadsWrongFalsely : Prop := packReadsRow.holds Try.pinned (OpenSpec.ofChange packReadsWrong)

/-- 'colloquylaw08.PackBack': WHATEVER THE INPUT: true; the input reads as it did. -/
def packBackSpec : ChangeSpec := { name := "packBack", fn := fun _ => fun
  | [d1, d2] => { results := [.lit (.bool true)], args := [d1, d2] }
  | _ => none }
def packBackRow : OpenClaim := { program := "ytmlemnfleicnfaa", sum := "43e018a93f9c515ebccf7481642f45e4ddc8d2fdc07fa95ec1c81f3cea7fa5f9", func := "colloquy/colloquylaw08.PackBack", spec := "packBack", unfollowed := true, recurses := true, apart := false }
def PackBackSaid : Prop := packBackRow.holds Try.pinned (OpenSpec.ofChange packBackSpec)

/-- ITS FALSE NEIGHBOUR: 'it returns false'. Refute it at one input. -/
def packBackWrong : ChangeSpec := { name := "packBack", fn := fun _ => fun
  | [d1, d2] => { results := [.lit (.bool false)], args := [d1, d2] }
  | _ => none }
def PackBackWrongFalsely : Prop := packBackRow.holds Try.pinned (OpenSpec.ofChange packBackWrong)

/-- 'colloquylaw18.TraceCounts': WHATEVER THE INPUT: true; the input reads as it did. -/
def traceCountsSpec : ChangeSpec := { name := "traceCounts", fn := fun _ => fun
  | [d] => { results := [.lit (.bool true)], args := [d] }
  | _ => none }
def traceCountsRow : OpenClaim := { program := "ytmlemnfleicnfaa", sum := "43e018a93f9c515ebccf7481642f45e4ddc8d2fdc07fa95ec1c81f3cea7fa5f9", func := "colloquy/colloquylaw18.TraceCounts", spec := "traceCounts", apart := false }
def TraceCountsSaid : Prop := traceCountsRow.holds Try.pinned (OpenSpec.ofChange traceCountsSpec)

/-- ITS FALSE NEIGHBOUR: 'it returns false'. Refute it at one input. -/
def traceCountsWrong : ChangeSpec := { name := "traceCounts", fn := fun _ => fun
  | [d] => { results := [.lit (.bool false)], args := [d] }
  | _ => none }
def TraceCountsWrongFalsely : Prop := traceCountsRow.holds Try.pinned (OpenSpec.ofChange traceCountsWrong)

/-- 'colloquylaw18.TraceWords': WHATEVER THE INPUT: true; the input reads as it did. -/
def traceWordsSpec : ChangeSpec := { name := "traceWords", fn := fun _ => fun
  | [d1, d2] => { results := [.lit (.bool true)], args := [d1, d2] }
  | _ => none }
def traceWordsRow : OpenClaim := { program := "ytmlemnfleicnfaa", sum := "43e018a93f9c515ebccf7481642f45e4ddc8d2fdc07fa95ec1c81f3cea7fa5f9", func := "colloquy/colloquylaw18.TraceWords", spec := "traceWords", apart := false }
def TraceWordsSaid : Prop := traceWordsRow.holds Try.pinned (OpenSpec.ofChange traceWordsSpec)

/-- ITS FALSE NEIGHBOUR: 'it returns false'. Refute it at one input. -/
def traceWordsWrong : ChangeSpec := { name := "traceWords", fn := fun _ => fun
  | [d1, d2] => { results := [.lit (.bool false)], args := [d1, d2] }
  | _ => none }
def TraceWordsWrongFalsely : Prop := traceWordsRow.holds Try.pinned (OpenSpec.ofChange traceWordsWrong)

/-- 'colloquylaw18.TraceVerdicts': WHATEVER THE INPUT: true; the input reads as it did. -/
def traceVerdictsSpec : ChangeSpec := { name := "traceVerdicts", fn := fun _ => fun
  | [d1, d2, d3] => { results := [.lit (.bool true)], args := [d1, d2, d3] }
  | _ => none }
def traceVerdictsRow : OpenClaim := { program := "ytmlemnfleicnfaa", sum := "43e018a93f9c515ebccf7481642f45e4ddc8d2fdc07fa95ec1c81f3cea7fa5f9", func := "colloquy/colloquylaw18.TraceVerdicts", spec := "traceVerdicts", unfollowed := true, recurses := true, apart := false }
def TraceVerdictsSaid : Prop := traceVerdictsRow.holds Try.pinned (OpenSpec.ofChange traceVerdictsSpec)

/-- ITS FALSE NEIGHBOUR: 'it returns false'. Refute it at one input. -/
def traceVerdictsWrong : ChangeSpec := { name := "traceVerdicts", fn := fun _ => fun
  | [d1, d2, d3] => { results := [.lit (.bool false)], args := [d1, d2, d3] }
  | _ => none }
def TraceVerdictsWrongFalsely : Prop := traceVerdictsRow.holds Try.pinned (OpenSpec.ofChange traceVerdictsWrong)

/-- 'colloquylaw18.TraceRight': WHATEVER THE INPUT: true; the input reads as it did. -/
def traceRightSpec : ChangeSpec := { name := "traceRight", fn := fun _ => fun
  | [d] => { results := [.lit (.bool true)], args := [d] }
  | _ => none }
def traceRightRow : OpenClaim := { program := "ytmlemnfleicnfaa", sum := "43e018a93f9c515ebccf7481642f45e4ddc8d2fdc07fa95ec1c81f3cea7fa5f9", func := "colloquy/colloquylaw18.TraceRight", spec := "traceRight", unfollowed := true, recurses := true, apart := false }
def TraceRightSaid : Prop := traceRightRow.holds Try.pinned (OpenSpec.ofChange traceRightSpec)

/-- ITS FALSE NEIGHBOUR: 'it returns false'. Refute it at one input. -/
def traceRightWrong : ChangeSpec := { name := "traceRight", fn := fun _ => fun
  | [d] => { results := [.lit (.bool false)], args := [d] }
  | _ => none }
def TraceRightWrongFalsely : Prop := traceRightRow.holds Try.pinned (OpenSpec.ofChange traceRightWrong)

/-- 'colloquylaw18.TraceFirst': WHATEVER THE INPUT: true; the input reads as it did. -/
def traceFirstSpec : ChangeSpec := { name := "traceFirst", fn := fun _ => fun
  | [d1, d2, d3] => { results := [.lit (.bool true)], args := [d1, d2, d3] }
  | _ => none }
def traceFirstRow : OpenClaim := { program := "ytmlemnfleicnfaa", sum := "43e018a93f9c515ebccf7481642f45e4ddc8d2fdc07fa95ec1c81f3cea7fa5f9", func := "colloquy/colloquylaw18.TraceFirst", spec := "traceFirst", unfollowed := true, recurses := true, apart := false }
def TraceFirstSaid : Prop := traceFirstRow.holds Try.pinned (OpenSpec.ofChange traceFirstSpec)

/-- ITS FALSE NEIGHBOUR: 'it returns false'. Refute it at one input. -/
def traceFirstWrong : ChangeSpec := { name := "traceFirst", fn := fun _ => fun
  | [d1, d2, d3] => { results := [.lit (.bool false)], args := [d1, d2, d3] }
  | _ => none }
def TraceFirstWrongFalsely : Prop := traceFirstRow.holds Try.pinned (OpenSpec.ofChange traceFirstWrong)

/- THE SECOND FORM. 'bulk': how many values and letters a reading holds, each counted each time it is reached (what is shared counts as often as it is met; a slice's spare places count too). A statement '..UptoSaid' is the law's where the arguments, and the package variables that the reading takes, are together of bulk at most 1048576: NARROWER than '..Said'. Prove '..Said' where nothing that the law and all that it calls make is longer than what came in: it says more and counts as full. Else prove '..UptoSaid'. A law counts once. -/
mutual
def uptoBulk {H : Type} : DataW H → Nat
  | .lit (.string bytes) => bytes.length + 1
  | .lit _ => 1
  | .nil => 1
  | .ptr d => uptoBulk d + 1
  | .slice elems spare => uptoBulkAll elems + uptoBulkAll spare + 1
  | .agg parts => uptoBulkAll parts + 1
  | .iface _ d => uptoBulk d + 1
  | .map entries => uptoBulkEntries entries + 1
  | .held _ => 1
def uptoBulkAll {H : Type} : List (DataW H) → Nat
  | [] => 0
  | d :: r => uptoBulk d + uptoBulkAll r
def uptoBulkEntries {H : Type} : List (Lit × DataW H) → Nat
  | [] => 0
  | x :: r => uptoBulkEntry x + uptoBulkEntries r
def uptoBulkEntry {H : Type} : Lit × DataW H → Nat
  | (.string bytes, d) => bytes.length + uptoBulk d + 1
  | (_, d) => uptoBulk d + 1
 end
def uptoSmall : (H : Type) → List (DataW H) → Bool := fun _ ds => decide (uptoBulkAll ds ≤ 1048576)
def OpenSpec.upto (s : _root_.Go.ChangeSpec) : _root_.Go.OpenSpec := { _root_.Go.OpenSpec.ofChange s with cond := some uptoSmall }

/-- 'colloquylaw08.PackSums', WHERE WHAT IT READS IS OF BULK AT MOST 1048576: true; the input reads as it did. -/
def packSumsUptoRow : OpenClaim := { program := "ytmlemnfleicnfaa", sum := "43e018a93f9c515ebccf7481642f45e4ddc8d2fdc07fa95ec1c81f3cea7fa5f9", func := "colloquy/colloquylaw08.PackSums", spec := "packSums", apart := false, narrowed := true }
def PackSumsUptoSaid : Prop := packSumsUptoRow.holds Try.pinned (OpenSpec.upto packSumsSpec)

/-- 'colloquylaw08.PackWrites', WHERE WHAT IT READS IS OF BULK AT MOST 1048576: true; the input reads as it did. -/
def packWritesUptoRow : OpenClaim := { program := "ytmlemnfleicnfaa", sum := "43e018a93f9c515ebccf7481642f45e4ddc8d2fdc07fa95ec1c81f3cea7fa5f9", func := "colloquy/colloquylaw08.PackWrites", spec := "packWrites", apart := false, narrowed := true }
def PackWritesUptoSaid : Prop := packWritesUptoRow.holds Try.pinned (OpenSpec.upto packWritesSpec)

/-- 'colloquylaw08.PackRecords', WHERE WHAT IT READS IS OF BULK AT MOST 1048576: true; the input reads as it did. -/
def packRecordsUptoRow : OpenClaim := { program := "ytmlemnfleicnfaa", sum := "43e018a93f9c515ebccf7481642f45e4ddc8d2fdc07fa95ec1c81f3cea7fa5f9", func := "colloquy/colloquylaw08.PackRecords", spec := "packRecords", apart := false, narrowed := true }
def PackRecordsUptoSaid : Prop := packRecordsUptoRow.holds Try.pinned (OpenSpec.upto packRecordsSpec)

/-- 'colloquylaw08.PackTurns', WHERE WHAT IT READS IS OF BULK AT MOST 1048576: true; the input reads as it did. -/
def packTurnsUptoRow : OpenClaim := { program := "ytmlemnfleicnfaa", sum := "43e018a93f9c515ebccf7481642f45e4ddc8d2fdc07fa95ec1c81f3cea7fa5f9", func := "colloquy/colloquylaw08.PackTurns", spec := "packTurns", apart := false, narrowed := true }
def PackTurnsUptoSaid : Prop := packTurnsUptoRow.holds Try.pinned (OpenSpec.upto packTurnsSpec)

/-- 'colloquylaw08.PackNeeds', WHERE WHAT IT READS IS OF BULK AT MOST 1048576: true; the input reads as it did. -/
def packNeedsUptoRow : OpenClaim := { program := "ytmlemnfleicnfaa", sum := "43e018a93f9c515ebccf7481642f45e4ddc8d2fdc07fa95ec1c81f3cea7fa5f9", func := "colloquy/colloquylaw08.PackNeeds", spec := "packNeeds", unfollowed := true, recurses := true, apart := false, narrowed := true }
def PackNeedsUptoSaid : Prop := packNeedsUptoRow.holds Try.pinned (OpenSpec.upto packNeedsSpec)

/-- 'colloquylaw08.PackReads', WHERE WHAT IT READS IS OF BULK AT MOST 1048576: true; the input reads as it did. -/
def packReadsUptoRow : OpenClaim := { program := "ytmlemnfleicnfaa", sum := "43e018a93f9c515ebccf7481642f45e4ddc8d2fdc07fa95ec1c81f3cea7fa5f9", func := "colloquy/colloquylaw08.PackReads", spec := "packReads", unfollowed := true, recurses := true, apart := false, narrowed := true }
def PackReadsUptoSaid : Prop := packReadsUptoRow.holds Try.pinned (OpenSpec.upto packReadsSpec)

/-- 'colloquylaw08.PackBack', WHERE WHAT IT READS IS OF BULK AT MOST 1048576: true; the input reads as it did. -/
def packBackUptoRow : OpenClaim := { program := "ytmlemnfleicnfaa", sum := "43e018a93f9c515ebccf7481642f45e4ddc8d2fdc07fa95ec1c81f3cea7fa5f9", func := "colloquy/colloquylaw08.PackBack", spec := "packBack", unfollowed := true, recurses := true, apart := false, narrowed := true }
def PackBackUptoSaid : Prop := packBackUptoRow.holds Try.pinned (OpenSpec.upto packBackSpec)

/-- 'colloquylaw18.TraceCounts', WHERE WHAT IT READS IS OF BULK AT MOST 1048576: true; the input reads as it did. -/
def traceCountsUptoRow : OpenClaim := { program := "ytmlemnfleicnfaa", sum := "43e018a93f9c515ebccf7481642f45e4ddc8d2fdc07fa95ec1c81f3cea7fa5f9", func := "colloquy/colloquylaw18.TraceCounts", spec := "traceCounts", apart := false, narrowed := true }
def TraceCountsUptoSaid : Prop := traceCountsUptoRow.holds Try.pinned (OpenSpec.upto traceCountsSpec)

/-- 'colloquylaw18.TraceWords', WHERE WHAT IT READS IS OF BULK AT MOST 1048576: true; the input reads as it did. -/
def traceWordsUptoRow : OpenClaim := { program := "ytmlemnfleicnfaa", sum := "43e018a93f9c515ebccf7481642f45e4ddc8d2fdc07fa95ec1c81f3cea7fa5f9", func := "colloquy/colloquylaw18.TraceWords", spec := "traceWords", apart := false, narrowed := true }
def TraceWordsUptoSaid : Prop := traceWordsUptoRow.holds Try.pinned (OpenSpec.upto traceWordsSpec)

/-- 'colloquylaw18.TraceVerdicts', WHERE WHAT IT READS IS OF BULK AT MOST 1048576: true; the input reads as it did. -/
def traceVerdictsUptoRow : OpenClaim := { program := "ytmlemnfleicnfaa", sum := "43e018a93f9c515ebccf7481642f45e4ddc8d2fdc07fa95ec1c81f3cea7fa5f9", func := "colloquy/colloquylaw18.TraceVerdicts", spec := "traceVerdicts", unfollowed := true, recurses := true, apart := false, narrowed := true }
def TraceVerdictsUptoSaid : Prop := traceVerdictsUptoRow.holds Try.pinned (OpenSpec.upto traceVerdictsSpec)

/-- 'colloquylaw18.TraceRight', WHERE WHAT IT READS IS OF BULK AT MOST 1048576: true; the input reads as it did. -/
def traceRightUptoRow : OpenClaim := { program := "ytmlemnfleicnfaa", sum := "43e018a93f9c515ebccf7481642f45e4ddc8d2fdc07fa95ec1c81f3cea7fa5f9", func := "colloquy/colloquylaw18.TraceRight", spec := "traceRight", unfollowed := true, recurses := true, apart := false, narrowed := true }
def TraceRightUptoSaid : Prop := traceRightUptoRow.holds Try.pinned (OpenSpec.upto traceRightSpec)

/-- 'colloquylaw18.TraceFirst', WHERE WHAT IT READS IS OF BULK AT MOST 1048576: true; the input reads as it did. -/
def traceFirstUptoRow : OpenClaim := { program := "ytmlemnfleicnfaa", sum := "43e018a93f9c515ebccf7481642f45e4ddc8d2fdc07fa95ec1c81f3cea7fa5f9", func := "colloquy/colloquylaw18.TraceFirst", spec := "traceFirst", unfollowed := true, recurses := true, apart := false, narrowed := true }
def TraceFirstUptoSaid : Prop := traceFirstUptoRow.holds Try.pinned (OpenSpec.upto traceFirstSpec)

end Rows
end Go.Proofs.Ytmlemnfleicnfaa

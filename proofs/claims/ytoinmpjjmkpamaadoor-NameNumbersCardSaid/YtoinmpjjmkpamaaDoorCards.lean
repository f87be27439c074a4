/-
  DERIVED. GIVEN WITH THE SEED: THE CARDS: each row of YtoinmpjjmkpamaaDoorRows.lean that lists a variable, with what it lists TIED to the program's text (the seventh form; the later family's looks); each row that meets fmt, with fmt's text TOLD by the authors' own Lean function (tested against real Go, not proved from fmt's source: count such statements apart). THE CARD IS WHAT COUNTS. Prove the row's statement (the work); the ties are given (YtoinmpjjmkpamaaDoorTie.lean); close each card by the builder's one call (the guide's Derived/Test/ToyasCard.lean, 'card_holds'). Laid BY PROGRAM, IN A SANDBOX (cutbox-door.mjs). By AI agents, Wed Nov 11 2026. No macro, syntax, notation, axiom, sorry.
-/
import Derived.Test.YtoinmpjjmkpamaaDoorRows
import GoSem.ClaimSeven
namespace Go.Proofs.YtoinmpjjmkpamaaDoor
namespace Rows

/-- THE TIED CARD OF 'colloquylaw02.NameCmp'. -/
def nameCmpCard : Claim7 := { stood := { row := nameCmpRow, standIns := [], harness := (true, "103c74c9610b6fef74671da93ce1b802f70aa55b3577f8fc2a56ba210664d3fc"), looks := false }, kinds := [], alts := [], laidByText := true, laidKinds := [.data, .pinned], laidTests := true, laidLooks := .later }
def NameCmpCardSaid : Prop := Claim7.holds Tryd.pinned (.plain (OpenSpec.ofChange nameCmpSpec)) nameCmpCard

/-- THE TIED CARD OF 'colloquylaw02.NameOrder'. -/
def nameOrderCard : Claim7 := { stood := { row := nameOrderRow, standIns := [], harness := (true, "103c74c9610b6fef74671da93ce1b802f70aa55b3577f8fc2a56ba210664d3fc"), looks := false }, kinds := [], alts := [], laidByText := true, laidKinds := [.data, .pinned], laidTests := true, laidLooks := .later }
def NameOrderCardSaid : Prop := Claim7.holds Tryd.pinned (.plain (OpenSpec.ofChange nameOrderSpec)) nameOrderCard

/-- THE TIED CARD OF 'colloquylaw02.NameNumbers'. -/
def nameNumbersCard : Claim7 := { stood := { row := nameNumbersRow, standIns := [], harness := (true, "103c74c9610b6fef74671da93ce1b802f70aa55b3577f8fc2a56ba210664d3fc"), looks := false }, kinds := [], alts := [], laidByText := true, laidKinds := [.data, .pinned], laidTests := true, laidLooks := .later }
def NameNumbersCardSaid : Prop := Claim7.holds Tryd.pinned (.plain (OpenSpec.ofChange nameNumbersSpec)) nameNumbersCard

/-- THE SECOND FORM's CARD OF 'colloquylaw02.NameCmp'. -/
def nameCmpUptoCard : Claim7 := { stood := { row := nameCmpUptoRow, standIns := [], harness := (true, "103c74c9610b6fef74671da93ce1b802f70aa55b3577f8fc2a56ba210664d3fc"), looks := false }, kinds := [], alts := [], laidByText := true, laidKinds := [.data, .pinned], laidTests := true, laidLooks := .later }
def NameCmpUptoCardSaid : Prop := Claim7.holds Tryd.pinned (.plain (OpenSpec.upto nameCmpSpec)) nameCmpUptoCard

/-- THE SECOND FORM's CARD OF 'colloquylaw02.NameOrder'. -/
def nameOrderUptoCard : Claim7 := { stood := { row := nameOrderUptoRow, standIns := [], harness := (true, "103c74c9610b6fef74671da93ce1b802f70aa55b3577f8fc2a56ba210664d3fc"), looks := false }, kinds := [], alts := [], laidByText := true, laidKinds := [.data, .pinned], laidTests := true, laidLooks := .later }
def NameOrderUptoCardSaid : Prop := Claim7.holds Tryd.pinned (.plain (OpenSpec.upto nameOrderSpec)) nameOrderUptoCard

/-- THE SECOND FORM's CARD OF 'colloquylaw02.NameNumbers'. -/
def nameNumbersUptoCard : Claim7 := { stood := { row := nameNumbersUptoRow, standIns := [], harness := (true, "103c74c9610b6fef74671da93ce1b802f70aa55b3577f8fc2a56ba210664d3fc"), looks := false }, kinds := [], alts := [], laidByText := true, laidKinds := [.data, .pinned], laidTests := true, laidLooks := .later }
def NameNumbersUptoCardSaid : Prop := Claim7.holds Tryd.pinned (.plain (OpenSpec.upto nameNumbersSpec)) nameNumbersUptoCard
end Rows
end Go.Proofs.YtoinmpjjmkpamaaDoor

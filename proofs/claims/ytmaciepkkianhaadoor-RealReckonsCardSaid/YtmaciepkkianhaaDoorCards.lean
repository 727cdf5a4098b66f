/-
  DERIVED. GIVEN WITH THE SEED: THE CARDS: each row of YtmaciepkkianhaaDoorRows.lean that lists a variable, with what it lists TIED to the program's text (the seventh form; the later family's looks); each row that meets fmt, with fmt's text TOLD by the authors' own Lean function (tested against real Go, not proved from fmt's source: count such statements apart). THE CARD IS WHAT COUNTS. Prove the row's statement (the work); the ties are given (YtmaciepkkianhaaDoorTie.lean); close each card by the builder's one call (the guide's Derived/Test/ToyasCard.lean, 'card_holds'). Laid BY PROGRAM, IN A SANDBOX (cutbox-door.mjs). By AI agents, Wed Nov 11 2026. No macro, syntax, notation, axiom, sorry.
-/
import Derived.Test.YtmaciepkkianhaaDoorRows
import GoSem.ClaimSeven
namespace Go.Proofs.YtmaciepkkianhaaDoor
namespace Rows

/-- THE TIED CARD OF 'mortmainlaw07.CellParses'. -/
def cellParsesCard : Claim7 := { stood := { row := cellParsesRow, standIns := [], harness := (true, "bb508dab7887a07272ae3393377f5da55914182a9f0fa7f388341e412a433d7a"), looks := false }, kinds := [], alts := [], laidByText := true, laidKinds := [.data, .pinned], laidTests := true, laidLooks := .later }
def CellParsesCardSaid : Prop := Claim7.holds Tryd.pinned (.plain (OpenSpec.ofChange cellParsesSpec)) cellParsesCard

/-- THE TIED CARD OF 'mortmainlaw07.CellReads'. -/
def cellReadsCard : Claim7 := { stood := { row := cellReadsRow, standIns := [], harness := (true, "bb508dab7887a07272ae3393377f5da55914182a9f0fa7f388341e412a433d7a"), looks := false }, kinds := [], alts := [], laidByText := true, laidKinds := [.data, .pinned], laidTests := true, laidLooks := .later }
def CellReadsCardSaid : Prop := Claim7.holds Tryd.pinned (.plain (OpenSpec.ofChange cellReadsSpec)) cellReadsCard

/-- THE TIED CARD OF 'mortmainlaw07.CellLies'. -/
def cellLiesCard : Claim7 := { stood := { row := cellLiesRow, standIns := [], harness := (true, "bb508dab7887a07272ae3393377f5da55914182a9f0fa7f388341e412a433d7a"), looks := false }, kinds := [], alts := [], laidByText := true, laidKinds := [.data, .pinned], laidTests := true, laidLooks := .later }
def CellLiesCardSaid : Prop := Claim7.holds Tryd.pinned (.plain (OpenSpec.ofChange cellLiesSpec)) cellLiesCard

/-- THE TIED CARD OF 'mortmainlaw07.CellOne'. -/
def cellOneCard : Claim7 := { stood := { row := cellOneRow, standIns := [], harness := (true, "bb508dab7887a07272ae3393377f5da55914182a9f0fa7f388341e412a433d7a"), looks := false }, kinds := [], alts := [], laidByText := true, laidKinds := [.data, .pinned], laidTests := true, laidLooks := .later }
def CellOneCardSaid : Prop := Claim7.holds Tryd.pinned (.plain (OpenSpec.ofChange cellOneSpec)) cellOneCard

/-- THE TIED CARD OF 'mortmainlaw07.CellRanges'. -/
def cellRangesCard : Claim7 := { stood := { row := cellRangesRow, standIns := [], harness := (true, "bb508dab7887a07272ae3393377f5da55914182a9f0fa7f388341e412a433d7a"), looks := false }, kinds := [], alts := [], laidByText := true, laidKinds := [.data, .pinned], laidTests := true, laidLooks := .later }
def CellRangesCardSaid : Prop := Claim7.holds Tryd.pinned (.plain (OpenSpec.ofChange cellRangesSpec)) cellRangesCard

/-- THE TIED CARD OF 'mortmainlaw07.CellKeys'. -/
def cellKeysCard : Claim7 := { stood := { row := cellKeysRow, standIns := [], harness := (true, "bb508dab7887a07272ae3393377f5da55914182a9f0fa7f388341e412a433d7a"), looks := false }, kinds := [], alts := [], laidByText := true, laidKinds := [.data, .pinned], laidTests := true, laidLooks := .later }
def CellKeysCardSaid : Prop := Claim7.holds Tryd.pinned (.plain (OpenSpec.ofChange cellKeysSpec)) cellKeysCard

/-- THE TIED CARD OF 'mortmainlaw02.RealOrder'. -/
def realOrderCard : Claim7 := { stood := { row := realOrderRow, standIns := [], harness := (true, "bb508dab7887a07272ae3393377f5da55914182a9f0fa7f388341e412a433d7a"), looks := false }, kinds := [], alts := [], laidByText := true, laidKinds := [.data, .data, .data, .data, .pinned, .pinned], laidTests := true, laidLooks := .later }
def RealOrderCardSaid : Prop := Claim7.holds Tryd.pinned (.plain (OpenSpec.ofChange realOrderSpec)) realOrderCard

/-- THE TIED CARD OF 'mortmainlaw02.RealKept'. -/
def realKeptCard : Claim7 := { stood := { row := realKeptRow, standIns := [], harness := (true, "bb508dab7887a07272ae3393377f5da55914182a9f0fa7f388341e412a433d7a"), looks := false }, kinds := [], alts := [], laidByText := true, laidKinds := [.data, .data, .data, .data, .pinned, .pinned], laidTests := true, laidLooks := .later }
def RealKeptCardSaid : Prop := Claim7.holds Tryd.pinned (.plain (OpenSpec.ofChange realKeptSpec)) realKeptCard

/-- THE TIED CARD OF 'mortmainlaw02.RealReckons'. -/
def realReckonsCard : Claim7 := { stood := { row := realReckonsRow, standIns := [], harness := (true, "bb508dab7887a07272ae3393377f5da55914182a9f0fa7f388341e412a433d7a"), looks := false }, kinds := [], alts := [], laidByText := true, laidKinds := [.data, .data, .data, .data, .pinned, .pinned], laidTests := true, laidLooks := .later }
def RealReckonsCardSaid : Prop := Claim7.holds Tryd.pinned (.plain (OpenSpec.ofChange realReckonsSpec)) realReckonsCard

/-- THE TIED CARD OF 'mortmainlaw02.RealKeys'. -/
def realKeysCard : Claim7 := { stood := { row := realKeysRow, standIns := [], harness := (true, "bb508dab7887a07272ae3393377f5da55914182a9f0fa7f388341e412a433d7a"), looks := false }, kinds := [], alts := [], laidByText := true, laidKinds := [.data, .data, .data, .data, .pinned, .pinned], laidTests := true, laidLooks := .later }
def RealKeysCardSaid : Prop := Claim7.holds Tryd.pinned (.plain (OpenSpec.ofChange realKeysSpec)) realKeysCard

/-- THE SECOND FORM's CARD OF 'mortmainlaw07.CellParses'. -/
def cellParsesUptoCard : Claim7 := { stood := { row := cellParsesUptoRow, standIns := [], harness := (true, "bb508dab7887a07272ae3393377f5da55914182a9f0fa7f388341e412a433d7a"), looks := false }, kinds := [], alts := [], laidByText := true, laidKinds := [.data, .pinned], laidTests := true, laidLooks := .later }
def CellParsesUptoCardSaid : Prop := Claim7.holds Tryd.pinned (.plain (OpenSpec.upto cellParsesSpec)) cellParsesUptoCard

/-- THE SECOND FORM's CARD OF 'mortmainlaw07.CellReads'. -/
def cellReadsUptoCard : Claim7 := { stood := { row := cellReadsUptoRow, standIns := [], harness := (true, "bb508dab7887a07272ae3393377f5da55914182a9f0fa7f388341e412a433d7a"), looks := false }, kinds := [], alts := [], laidByText := true, laidKinds := [.data, .pinned], laidTests := true, laidLooks := .later }
def CellReadsUptoCardSaid : Prop := Claim7.holds Tryd.pinned (.plain (OpenSpec.upto cellReadsSpec)) cellReadsUptoCard

/-- THE SECOND FORM's CARD OF 'mortmainlaw07.CellLies'. -/
def cellLiesUptoCard : Claim7 := { stood := { row := cellLiesUptoRow, standIns := [], harness := (true, "bb508dab7887a07272ae3393377f5da55914182a9f0fa7f388341e412a433d7a"), looks := false }, kinds := [], alts := [], laidByText := true, laidKinds := [.data, .pinned], laidTests := true, laidLooks := .later }
def CellLiesUptoCardSaid : Prop := Claim7.holds Tryd.pinned (.plain (OpenSpec.upto cellLiesSpec)) cellLiesUptoCard

/-- THE SECOND FORM's CARD OF 'mortmainlaw07.CellOne'. -/
def cellOneUptoCard : Claim7 := { stood := { row := cellOneUptoRow, standIns := [], harness := (true, "bb508dab7887a07272ae3393377f5da55914182a9f0fa7f388341e412a433d7a"), looks := false }, kinds := [], alts := [], laidByText := true, laidKinds := [.data, .pinned], laidTests := true, laidLooks := .later }
def CellOneUptoCardSaid : Prop := Claim7.holds Tryd.pinned (.plain (OpenSpec.upto cellOneSpec)) cellOneUptoCard

/-- THE SECOND FORM's CARD OF 'mortmainlaw07.CellRanges'. -/
def cellRangesUptoCard : Claim7 := { stood := { row := cellRangesUptoRow, standIns := [], harness := (true, "bb508dab7887a07272ae3393377f5da55914182a9f0fa7f388341e412a433d7a"), looks := false }, kinds := [], alts := [], laidByText := true, laidKinds := [.data, .pinned], laidTests := true, laidLooks := .later }
def CellRangesUptoCardSaid : Prop := Claim7.holds Tryd.pinned (.plain (OpenSpec.upto cellRangesSpec)) cellRangesUptoCard

/-- THE SECOND FORM's CARD OF 'mortmainlaw07.CellKeys'. -/
def cellKeysUptoCard : Claim7 := { stood := { row := cellKeysUptoRow, standIns := [], harness := (true, "bb508dab7887a07272ae3393377f5da55914182a9f0fa7f388341e412a433d7a"), looks := false }, kinds := [], alts := [], laidByText := true, laidKinds := [.data, .pinned], laidTests := true, laidLooks := .later }
def CellKeysUptoCardSaid : Prop := Claim7.holds Tryd.pinned (.plain (OpenSpec.upto cellKeysSpec)) cellKeysUptoCard

/-- THE SECOND FORM's CARD OF 'mortmainlaw02.RealOrder'. -/
def realOrderUptoCard : Claim7 := { stood := { row := realOrderUptoRow, standIns := [], harness := (true, "bb508dab7887a07272ae3393377f5da55914182a9f0fa7f388341e412a433d7a"), looks := false }, kinds := [], alts := [], laidByText := true, laidKinds := [.data, .data, .data, .data, .pinned, .pinned], laidTests := true, laidLooks := .later }
def RealOrderUptoCardSaid : Prop := Claim7.holds Tryd.pinned (.plain (OpenSpec.upto realOrderSpec)) realOrderUptoCard

/-- THE SECOND FORM's CARD OF 'mortmainlaw02.RealKept'. -/
def realKeptUptoCard : Claim7 := { stood := { row := realKeptUptoRow, standIns := [], harness := (true, "bb508dab7887a07272ae3393377f5da55914182a9f0fa7f388341e412a433d7a"), looks := false }, kinds := [], alts := [], laidByText := true, laidKinds := [.data, .data, .data, .data, .pinned, .pinned], laidTests := true, laidLooks := .later }
def RealKeptUptoCardSaid : Prop := Claim7.holds Tryd.pinned (.plain (OpenSpec.upto realKeptSpec)) realKeptUptoCard

/-- THE SECOND FORM's CARD OF 'mortmainlaw02.RealReckons'. -/
def realReckonsUptoCard : Claim7 := { stood := { row := realReckonsUptoRow, standIns := [], harness := (true, "bb508dab7887a07272ae3393377f5da55914182a9f0fa7f388341e412a433d7a"), looks := false }, kinds := [], alts := [], laidByText := true, laidKinds := [.data, .data, .data, .data, .pinned, .pinned], laidTests := true, laidLooks := .later }
def RealReckonsUptoCardSaid : Prop := Claim7.holds Tryd.pinned (.plain (OpenSpec.upto realReckonsSpec)) realReckonsUptoCard

/-- THE SECOND FORM's CARD OF 'mortmainlaw02.RealKeys'. -/
def realKeysUptoCard : Claim7 := { stood := { row := realKeysUptoRow, standIns := [], harness := (true, "bb508dab7887a07272ae3393377f5da55914182a9f0fa7f388341e412a433d7a"), looks := false }, kinds := [], alts := [], laidByText := true, laidKinds := [.data, .data, .data, .data, .pinned, .pinned], laidTests := true, laidLooks := .later }
def RealKeysUptoCardSaid : Prop := Claim7.holds Tryd.pinned (.plain (OpenSpec.upto realKeysSpec)) realKeysUptoCard
end Rows
end Go.Proofs.YtmaciepkkianhaaDoor

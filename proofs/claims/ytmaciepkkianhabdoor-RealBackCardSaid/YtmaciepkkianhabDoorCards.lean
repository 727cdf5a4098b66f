/-
  DERIVED. GIVEN WITH THE SEED: THE CARDS: each row of YtmaciepkkianhabDoorRows.lean that lists a variable, with what it lists TIED to the program's text (the seventh form; the later family's looks); each row that meets fmt, with fmt's text TOLD by the authors' own Lean function (tested against real Go, not proved from fmt's source: count such statements apart). THE CARD IS WHAT COUNTS. Prove the row's statement (the work); the ties are given (YtmaciepkkianhabDoorTie.lean); close each card by the builder's one call (the guide's Derived/Test/ToyasCard.lean, 'card_holds'). Laid BY PROGRAM, IN A SANDBOX (cutbox-door.mjs). By AI agents, Wed Nov 11 2026. No macro, syntax, notation, axiom, sorry.
-/
import Derived.Test.YtmaciepkkianhabDoorRows
import GoSem.ClaimSeven
namespace Go.Proofs.YtmaciepkkianhabDoor
namespace Rows

/-- THE TIED CARD OF 'mortmainlaw02.RealBack'. -/
def realBackCard : Claim7 := { stood := { row := realBackRow, standIns := [], harness := (true, "996b66cdac7693d2c15e9214f141a60140850a2e4947993026fbf2a6225819ba"), looks := false }, kinds := [], alts := [], laidByText := true, laidKinds := [.data, .data, .data, .data, .pinned, .pinned], laidTests := true, laidLooks := .later }
def RealBackCardSaid : Prop := Claim7.holds Tryd.pinned (.plain (OpenSpec.ofChange realBackSpec)) realBackCard

/-- THE TIED CARD OF 'mortmainlaw03.ValueGood'. -/
def valueGoodCard : Claim7 := { stood := { row := valueGoodRow, standIns := [], harness := (true, "996b66cdac7693d2c15e9214f141a60140850a2e4947993026fbf2a6225819ba"), looks := false }, kinds := [], alts := [], laidByText := true, laidKinds := [.data, .data, .data, .data, .data, .pinned, .pinned, .pinned], laidTests := true, laidLooks := .later }
def ValueGoodCardSaid : Prop := Claim7.holds Tryd.pinned (.plain (OpenSpec.ofChange valueGoodSpec)) valueGoodCard

/-- THE SECOND FORM's CARD OF 'mortmainlaw02.RealBack'. -/
def realBackUptoCard : Claim7 := { stood := { row := realBackUptoRow, standIns := [], harness := (true, "996b66cdac7693d2c15e9214f141a60140850a2e4947993026fbf2a6225819ba"), looks := false }, kinds := [], alts := [], laidByText := true, laidKinds := [.data, .data, .data, .data, .pinned, .pinned], laidTests := true, laidLooks := .later }
def RealBackUptoCardSaid : Prop := Claim7.holds Tryd.pinned (.plain (OpenSpec.upto realBackSpec)) realBackUptoCard

/-- THE SECOND FORM's CARD OF 'mortmainlaw03.ValueGood'. -/
def valueGoodUptoCard : Claim7 := { stood := { row := valueGoodUptoRow, standIns := [], harness := (true, "996b66cdac7693d2c15e9214f141a60140850a2e4947993026fbf2a6225819ba"), looks := false }, kinds := [], alts := [], laidByText := true, laidKinds := [.data, .data, .data, .data, .data, .pinned, .pinned, .pinned], laidTests := true, laidLooks := .later }
def ValueGoodUptoCardSaid : Prop := Claim7.holds Tryd.pinned (.plain (OpenSpec.upto valueGoodSpec)) valueGoodUptoCard
end Rows
end Go.Proofs.YtmaciepkkianhabDoor

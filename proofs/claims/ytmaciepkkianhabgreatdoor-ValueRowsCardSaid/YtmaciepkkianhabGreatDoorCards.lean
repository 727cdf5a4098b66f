/-
  DERIVED. GIVEN WITH THE SEED: THE CARDS: each row of YtmaciepkkianhabGreatDoorRows.lean that lists a variable, with what it lists TIED to the program's text (the seventh form; the later family's looks); each row that meets fmt, with fmt's text TOLD by the authors' own Lean function (tested against real Go, not proved from fmt's source: count such statements apart). THE CARD IS WHAT COUNTS. Prove the row's statement (the work); the ties are given (YtmaciepkkianhabGreatDoorTie.lean); close each card by the builder's one call (the guide's Derived/Test/ToyasCard.lean, 'card_holds'). Laid BY PROGRAM, IN A SANDBOX (cutbox-door.mjs). By AI agents, Wed Nov 11 2026. No macro, syntax, notation, axiom, sorry.
-/
import Derived.Test.YtmaciepkkianhabGreatDoorRows
import GoSem.ClaimSeven
namespace Go.Proofs.YtmaciepkkianhabGreatDoor
namespace Rows

/-- THE TIED CARD OF 'mortmainlaw03.ValueKeys'. -/
def valueKeysCard : Claim7 := { stood := { row := valueKeysRow, standIns := [], harness := (true, "bd3cfd86daef975da121645d7a5072777e31583921e84120f193f5f966c62277"), looks := true }, kinds := [], alts := [], laidByText := true, laidKinds := [.data, .data, .data, .data, .data, .pinned, .pinned, .pinned], laidTests := true, laidLooks := .later }
def ValueKeysCardSaid : Prop := Claim7.holds Tryz.pinned (.plain (OpenSpec.ofChange valueKeysSpec)) valueKeysCard

/-- THE TIED CARD OF 'mortmainlaw03.ValueCuts'. -/
def valueCutsCard : Claim7 := { stood := { row := valueCutsRow, standIns := [], harness := (true, "bd3cfd86daef975da121645d7a5072777e31583921e84120f193f5f966c62277"), looks := true }, kinds := [], alts := [], laidByText := true, laidKinds := [.data, .data, .data, .data, .data, .pinned, .pinned, .pinned], laidTests := true, laidLooks := .later }
def ValueCutsCardSaid : Prop := Claim7.holds Tryz.pinned (.plain (OpenSpec.ofChange valueCutsSpec)) valueCutsCard

/-- THE TIED CARD OF 'mortmainlaw03.ValueRowKeys'. -/
def valueRowKeysCard : Claim7 := { stood := { row := valueRowKeysRow, standIns := [], harness := (true, "bd3cfd86daef975da121645d7a5072777e31583921e84120f193f5f966c62277"), looks := true }, kinds := [], alts := [], laidByText := true, laidKinds := [.data, .data, .data, .data, .data, .pinned, .pinned, .pinned], laidTests := true, laidLooks := .later }
def ValueRowKeysCardSaid : Prop := Claim7.holds Tryz.pinned (.plain (OpenSpec.ofChange valueRowKeysSpec)) valueRowKeysCard

/-- THE TIED CARD OF 'mortmainlaw03.ValueRows'. -/
def valueRowsCard : Claim7 := { stood := { row := valueRowsRow, standIns := [], harness := (true, "bd3cfd86daef975da121645d7a5072777e31583921e84120f193f5f966c62277"), looks := true }, kinds := [], alts := [], laidByText := true, laidKinds := [.data, .data, .data, .data, .data, .pinned, .pinned, .pinned], laidTests := true, laidLooks := .later }
def ValueRowsCardSaid : Prop := Claim7.holds Tryz.pinned (.plain (OpenSpec.ofChange valueRowsSpec)) valueRowsCard

/-- THE TIED CARD OF 'mortmainlaw02.RealTexts'. -/
def realTextsCard : Claim7 := { stood := { row := realTextsRow, standIns := [], harness := (true, "bd3cfd86daef975da121645d7a5072777e31583921e84120f193f5f966c62277"), looks := true }, kinds := [], alts := [], laidByText := true, laidKinds := [.data, .data, .widerDeep, .widerDeep, .data, .data, .data, .data, .data, .sentinel, .sentinel, .pinned, .pinned], laidTests := true, laidLooks := .later }
def RealTextsCardSaid : Prop := Claim7.holds Tryz.pinned (.plain (OpenSpec.ofChange realTextsSpec)) realTextsCard

/-- THE TIED CARD OF 'mortmainlaw03.ValueWords'. -/
def valueWordsCard : Claim7 := { stood := { row := valueWordsRow, standIns := [], harness := (true, "bd3cfd86daef975da121645d7a5072777e31583921e84120f193f5f966c62277"), looks := true }, kinds := [], alts := [], laidByText := true, laidKinds := [.data, .data, .widerDeep, .widerDeep, .data, .data, .data, .data, .data, .data, .sentinel, .sentinel, .pinned, .pinned, .pinned], laidTests := true, laidLooks := .later }
def ValueWordsCardSaid : Prop := Claim7.holds Tryz.pinned (.plain (OpenSpec.ofChange valueWordsSpec)) valueWordsCard

/-- THE SECOND FORM's CARD OF 'mortmainlaw03.ValueKeys'. -/
def valueKeysUptoCard : Claim7 := { stood := { row := valueKeysUptoRow, standIns := [], harness := (true, "bd3cfd86daef975da121645d7a5072777e31583921e84120f193f5f966c62277"), looks := true }, kinds := [], alts := [], laidByText := true, laidKinds := [.data, .data, .data, .data, .data, .pinned, .pinned, .pinned], laidTests := true, laidLooks := .later }
def ValueKeysUptoCardSaid : Prop := Claim7.holds Tryz.pinned (.plain (OpenSpec.upto valueKeysSpec)) valueKeysUptoCard

/-- THE SECOND FORM's CARD OF 'mortmainlaw03.ValueCuts'. -/
def valueCutsUptoCard : Claim7 := { stood := { row := valueCutsUptoRow, standIns := [], harness := (true, "bd3cfd86daef975da121645d7a5072777e31583921e84120f193f5f966c62277"), looks := true }, kinds := [], alts := [], laidByText := true, laidKinds := [.data, .data, .data, .data, .data, .pinned, .pinned, .pinned], laidTests := true, laidLooks := .later }
def ValueCutsUptoCardSaid : Prop := Claim7.holds Tryz.pinned (.plain (OpenSpec.upto valueCutsSpec)) valueCutsUptoCard

/-- THE SECOND FORM's CARD OF 'mortmainlaw03.ValueRowKeys'. -/
def valueRowKeysUptoCard : Claim7 := { stood := { row := valueRowKeysUptoRow, standIns := [], harness := (true, "bd3cfd86daef975da121645d7a5072777e31583921e84120f193f5f966c62277"), looks := true }, kinds := [], alts := [], laidByText := true, laidKinds := [.data, .data, .data, .data, .data, .pinned, .pinned, .pinned], laidTests := true, laidLooks := .later }
def ValueRowKeysUptoCardSaid : Prop := Claim7.holds Tryz.pinned (.plain (OpenSpec.upto valueRowKeysSpec)) valueRowKeysUptoCard

/-- THE SECOND FORM's CARD OF 'mortmainlaw03.ValueRows'. -/
def valueRowsUptoCard : Claim7 := { stood := { row := valueRowsUptoRow, standIns := [], harness := (true, "bd3cfd86daef975da121645d7a5072777e31583921e84120f193f5f966c62277"), looks := true }, kinds := [], alts := [], laidByText := true, laidKinds := [.data, .data, .data, .data, .data, .pinned, .pinned, .pinned], laidTests := true, laidLooks := .later }
def ValueRowsUptoCardSaid : Prop := Claim7.holds Tryz.pinned (.plain (OpenSpec.upto valueRowsSpec)) valueRowsUptoCard

/-- THE SECOND FORM's CARD OF 'mortmainlaw02.RealTexts'. -/
def realTextsUptoCard : Claim7 := { stood := { row := realTextsUptoRow, standIns := [], harness := (true, "bd3cfd86daef975da121645d7a5072777e31583921e84120f193f5f966c62277"), looks := true }, kinds := [], alts := [], laidByText := true, laidKinds := [.data, .data, .widerDeep, .widerDeep, .data, .data, .data, .data, .data, .sentinel, .sentinel, .pinned, .pinned], laidTests := true, laidLooks := .later }
def RealTextsUptoCardSaid : Prop := Claim7.holds Tryz.pinned (.plain (OpenSpec.upto realTextsSpec)) realTextsUptoCard

/-- THE SECOND FORM's CARD OF 'mortmainlaw03.ValueWords'. -/
def valueWordsUptoCard : Claim7 := { stood := { row := valueWordsUptoRow, standIns := [], harness := (true, "bd3cfd86daef975da121645d7a5072777e31583921e84120f193f5f966c62277"), looks := true }, kinds := [], alts := [], laidByText := true, laidKinds := [.data, .data, .widerDeep, .widerDeep, .data, .data, .data, .data, .data, .data, .sentinel, .sentinel, .pinned, .pinned, .pinned], laidTests := true, laidLooks := .later }
def ValueWordsUptoCardSaid : Prop := Claim7.holds Tryz.pinned (.plain (OpenSpec.upto valueWordsSpec)) valueWordsUptoCard
end Rows
end Go.Proofs.YtmaciepkkianhabGreatDoor

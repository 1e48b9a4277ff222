/-
  DERIVED. GIVEN WITH THE SEED: THE CARDS: each row of YtnjgokpdlolapaaGreatDoorRows.lean that lists a variable, with what it lists TIED to the program's text (the seventh form; the later family's looks); each row that meets fmt, with fmt's text TOLD by the authors' own Lean function (tested against real Go, not proved from fmt's source: count such statements apart). THE CARD IS WHAT COUNTS. Prove the row's statement (the work); the ties are given (YtnjgokpdlolapaaGreatDoorTie.lean); close each card by the builder's one call (the guide's Derived/Test/ToyasCard.lean, 'card_holds'). Laid BY PROGRAM, IN A SANDBOX (cutbox-door.mjs). By AI agents, Wed Nov 11 2026. No macro, syntax, notation, axiom, sorry.
-/
import Derived.Test.YtnjgokpdlolapaaGreatDoorRows
import GoSem.ClaimSeven
namespace Go.Proofs.YtnjgokpdlolapaaGreatDoor
namespace Rows

/-- THE TIED CARD OF 'swarflaw26.SetupValid'. -/
def setupValidCard : Claim7 := { stood := { row := setupValidRow, standIns := [], harness := (true, "c695d6ec99e4cf8f3283b7b4ab221d50451edd311a0cd29591aab79d5afb3e45"), looks := true }, kinds := [], alts := [], laidByText := true, laidKinds := [.data, .data, .data, .data, .sentinel, .sentinel, .pinned], laidTests := true, laidLooks := .later }
def SetupValidCardSaid : Prop := Claim7.holds Tryz.pinned (.plain (OpenSpec.ofChange setupValidSpec)) setupValidCard

/-- THE TIED CARD OF 'swarflaw26.SetupHighest'. -/
def setupHighestCard : Claim7 := { stood := { row := setupHighestRow, standIns := [], harness := (true, "c695d6ec99e4cf8f3283b7b4ab221d50451edd311a0cd29591aab79d5afb3e45"), looks := true }, kinds := [], alts := [], laidByText := true, laidKinds := [.data, .data, .data, .data, .sentinel, .sentinel, .pinned], laidTests := true, laidLooks := .later }
def SetupHighestCardSaid : Prop := Claim7.holds Tryz.pinned (.plain (OpenSpec.ofChange setupHighestSpec)) setupHighestCard

/-- THE TIED CARD OF 'swarflaw26.SetupGrows'. -/
def setupGrowsCard : Claim7 := { stood := { row := setupGrowsRow, standIns := [], harness := (true, "c695d6ec99e4cf8f3283b7b4ab221d50451edd311a0cd29591aab79d5afb3e45"), looks := true }, kinds := [], alts := [], laidByText := true, laidKinds := [.data, .data, .data, .data, .sentinel, .sentinel, .pinned], laidTests := true, laidLooks := .later }
def SetupGrowsCardSaid : Prop := Claim7.holds Tryz.pinned (.plain (OpenSpec.ofChange setupGrowsSpec)) setupGrowsCard

/-- THE TIED CARD OF 'swarflaw26.SetupHigher'. -/
def setupHigherCard : Claim7 := { stood := { row := setupHigherRow, standIns := [], harness := (true, "c695d6ec99e4cf8f3283b7b4ab221d50451edd311a0cd29591aab79d5afb3e45"), looks := true }, kinds := [], alts := [], laidByText := true, laidKinds := [.data, .data, .data, .data, .sentinel, .sentinel, .pinned], laidTests := true, laidLooks := .later }
def SetupHigherCardSaid : Prop := Claim7.holds Tryz.pinned (.plain (OpenSpec.ofChange setupHigherSpec)) setupHigherCard

/-- THE SECOND FORM's CARD OF 'swarflaw26.SetupValid'. -/
def setupValidUptoCard : Claim7 := { stood := { row := setupValidUptoRow, standIns := [], harness := (true, "c695d6ec99e4cf8f3283b7b4ab221d50451edd311a0cd29591aab79d5afb3e45"), looks := true }, kinds := [], alts := [], laidByText := true, laidKinds := [.data, .data, .data, .data, .sentinel, .sentinel, .pinned], laidTests := true, laidLooks := .later }
def SetupValidUptoCardSaid : Prop := Claim7.holds Tryz.pinned (.plain (OpenSpec.upto setupValidSpec)) setupValidUptoCard

/-- THE SECOND FORM's CARD OF 'swarflaw26.SetupHighest'. -/
def setupHighestUptoCard : Claim7 := { stood := { row := setupHighestUptoRow, standIns := [], harness := (true, "c695d6ec99e4cf8f3283b7b4ab221d50451edd311a0cd29591aab79d5afb3e45"), looks := true }, kinds := [], alts := [], laidByText := true, laidKinds := [.data, .data, .data, .data, .sentinel, .sentinel, .pinned], laidTests := true, laidLooks := .later }
def SetupHighestUptoCardSaid : Prop := Claim7.holds Tryz.pinned (.plain (OpenSpec.upto setupHighestSpec)) setupHighestUptoCard

/-- THE SECOND FORM's CARD OF 'swarflaw26.SetupGrows'. -/
def setupGrowsUptoCard : Claim7 := { stood := { row := setupGrowsUptoRow, standIns := [], harness := (true, "c695d6ec99e4cf8f3283b7b4ab221d50451edd311a0cd29591aab79d5afb3e45"), looks := true }, kinds := [], alts := [], laidByText := true, laidKinds := [.data, .data, .data, .data, .sentinel, .sentinel, .pinned], laidTests := true, laidLooks := .later }
def SetupGrowsUptoCardSaid : Prop := Claim7.holds Tryz.pinned (.plain (OpenSpec.upto setupGrowsSpec)) setupGrowsUptoCard

/-- THE SECOND FORM's CARD OF 'swarflaw26.SetupHigher'. -/
def setupHigherUptoCard : Claim7 := { stood := { row := setupHigherUptoRow, standIns := [], harness := (true, "c695d6ec99e4cf8f3283b7b4ab221d50451edd311a0cd29591aab79d5afb3e45"), looks := true }, kinds := [], alts := [], laidByText := true, laidKinds := [.data, .data, .data, .data, .sentinel, .sentinel, .pinned], laidTests := true, laidLooks := .later }
def SetupHigherUptoCardSaid : Prop := Claim7.holds Tryz.pinned (.plain (OpenSpec.upto setupHigherSpec)) setupHigherUptoCard
end Rows
end Go.Proofs.YtnjgokpdlolapaaGreatDoor

/-
  DERIVED. GIVEN WITH THE SEED: THE CARDS: each row of YtigedpfipifefaaGreatDoorRows.lean that lists a variable, with what it lists TIED to the program's text (the seventh form; the later family's looks); each row that meets fmt, with fmt's text TOLD by the authors' own Lean function (tested against real Go, not proved from fmt's source: count such statements apart). THE CARD IS WHAT COUNTS. Prove the row's statement (the work); the ties are given (YtigedpfipifefaaGreatDoorTie.lean); close each card by the builder's one call (the guide's Derived/Test/ToyasCard.lean, 'card_holds'). Laid BY PROGRAM, IN A SANDBOX (cutbox-door.mjs). By AI agents, Wed Nov 11 2026. No macro, syntax, notation, axiom, sorry.
-/
import Derived.Test.YtigedpfipifefaaGreatDoorRows
import GoSem.ClaimSeven
namespace Go.Proofs.YtigedpfipifefaaGreatDoor
namespace Rows

/-- THE TIED CARD OF 'gunwalelaw24.RunBack'. -/
def runBackCard : Claim7 := { stood := { row := runBackRow, standIns := [], harness := (true, "52ad022d9d113faaff7bbc4c4ea3205cbaf45b6c65be99697df0133416ff73fa"), looks := true }, kinds := [], alts := [], laidByText := true, laidKinds := [.data, .data, .pinned], laidTests := true, laidLooks := .later }
def RunBackCardSaid : Prop := Claim7.holds Tryz.pinned (.plain (OpenSpec.ofChange runBackSpec)) runBackCard

/-- THE TIED CARD OF 'gunwalelaw24.RunBytes'. -/
def runBytesCard : Claim7 := { stood := { row := runBytesRow, standIns := [], harness := (true, "52ad022d9d113faaff7bbc4c4ea3205cbaf45b6c65be99697df0133416ff73fa"), looks := true }, kinds := [], alts := [], laidByText := true, laidKinds := [.data, .data, .pinned], laidTests := true, laidLooks := .later }
def RunBytesCardSaid : Prop := Claim7.holds Tryz.pinned (.plain (OpenSpec.ofChange runBytesSpec)) runBytesCard

/-- THE TIED CARD OF 'gunwalelaw24.RunParts'. -/
def runPartsCard : Claim7 := { stood := { row := runPartsRow, standIns := [], harness := (true, "52ad022d9d113faaff7bbc4c4ea3205cbaf45b6c65be99697df0133416ff73fa"), looks := true }, kinds := [], alts := [], laidByText := true, laidKinds := [.data, .data, .pinned], laidTests := true, laidLooks := .later }
def RunPartsCardSaid : Prop := Claim7.holds Tryz.pinned (.plain (OpenSpec.ofChange runPartsSpec)) runPartsCard

/-- THE TIED CARD OF 'gunwalelaw24.RunCuts'. -/
def runCutsCard : Claim7 := { stood := { row := runCutsRow, standIns := [], harness := (true, "52ad022d9d113faaff7bbc4c4ea3205cbaf45b6c65be99697df0133416ff73fa"), looks := true }, kinds := [], alts := [], laidByText := true, laidKinds := [.data, .data, .pinned], laidTests := true, laidLooks := .later }
def RunCutsCardSaid : Prop := Claim7.holds Tryz.pinned (.plain (OpenSpec.ofChange runCutsSpec)) runCutsCard

/-- THE TIED CARD OF 'gunwalelaw24.RunOne'. -/
def runOneCard : Claim7 := { stood := { row := runOneRow, standIns := [], harness := (true, "52ad022d9d113faaff7bbc4c4ea3205cbaf45b6c65be99697df0133416ff73fa"), looks := true }, kinds := [], alts := [], laidByText := true, laidKinds := [.data, .data, .pinned], laidTests := true, laidLooks := .later }
def RunOneCardSaid : Prop := Claim7.holds Tryz.pinned (.plain (OpenSpec.ofChange runOneSpec)) runOneCard

/-- THE SECOND FORM's CARD OF 'gunwalelaw24.RunBack'. -/
def runBackUptoCard : Claim7 := { stood := { row := runBackUptoRow, standIns := [], harness := (true, "52ad022d9d113faaff7bbc4c4ea3205cbaf45b6c65be99697df0133416ff73fa"), looks := true }, kinds := [], alts := [], laidByText := true, laidKinds := [.data, .data, .pinned], laidTests := true, laidLooks := .later }
def RunBackUptoCardSaid : Prop := Claim7.holds Tryz.pinned (.plain (OpenSpec.upto runBackSpec)) runBackUptoCard

/-- THE SECOND FORM's CARD OF 'gunwalelaw24.RunBytes'. -/
def runBytesUptoCard : Claim7 := { stood := { row := runBytesUptoRow, standIns := [], harness := (true, "52ad022d9d113faaff7bbc4c4ea3205cbaf45b6c65be99697df0133416ff73fa"), looks := true }, kinds := [], alts := [], laidByText := true, laidKinds := [.data, .data, .pinned], laidTests := true, laidLooks := .later }
def RunBytesUptoCardSaid : Prop := Claim7.holds Tryz.pinned (.plain (OpenSpec.upto runBytesSpec)) runBytesUptoCard

/-- THE SECOND FORM's CARD OF 'gunwalelaw24.RunParts'. -/
def runPartsUptoCard : Claim7 := { stood := { row := runPartsUptoRow, standIns := [], harness := (true, "52ad022d9d113faaff7bbc4c4ea3205cbaf45b6c65be99697df0133416ff73fa"), looks := true }, kinds := [], alts := [], laidByText := true, laidKinds := [.data, .data, .pinned], laidTests := true, laidLooks := .later }
def RunPartsUptoCardSaid : Prop := Claim7.holds Tryz.pinned (.plain (OpenSpec.upto runPartsSpec)) runPartsUptoCard

/-- THE SECOND FORM's CARD OF 'gunwalelaw24.RunCuts'. -/
def runCutsUptoCard : Claim7 := { stood := { row := runCutsUptoRow, standIns := [], harness := (true, "52ad022d9d113faaff7bbc4c4ea3205cbaf45b6c65be99697df0133416ff73fa"), looks := true }, kinds := [], alts := [], laidByText := true, laidKinds := [.data, .data, .pinned], laidTests := true, laidLooks := .later }
def RunCutsUptoCardSaid : Prop := Claim7.holds Tryz.pinned (.plain (OpenSpec.upto runCutsSpec)) runCutsUptoCard

/-- THE SECOND FORM's CARD OF 'gunwalelaw24.RunOne'. -/
def runOneUptoCard : Claim7 := { stood := { row := runOneUptoRow, standIns := [], harness := (true, "52ad022d9d113faaff7bbc4c4ea3205cbaf45b6c65be99697df0133416ff73fa"), looks := true }, kinds := [], alts := [], laidByText := true, laidKinds := [.data, .data, .pinned], laidTests := true, laidLooks := .later }
def RunOneUptoCardSaid : Prop := Claim7.holds Tryz.pinned (.plain (OpenSpec.upto runOneSpec)) runOneUptoCard
end Rows
end Go.Proofs.YtigedpfipifefaaGreatDoor

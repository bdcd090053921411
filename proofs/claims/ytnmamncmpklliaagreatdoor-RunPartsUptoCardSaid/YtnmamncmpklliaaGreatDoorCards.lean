/-
  DERIVED. GIVEN WITH THE SEED: THE CARDS: each row of YtnmamncmpklliaaGreatDoorRows.lean that lists a variable, with what it lists TIED to the program's text (the seventh form; the later family's looks); each row that meets fmt, with fmt's text TOLD by the authors' own Lean function (tested against real Go, not proved from fmt's source: count such statements apart). THE CARD IS WHAT COUNTS. Prove the row's statement (the work); the ties are given (YtnmamncmpklliaaGreatDoorTie.lean); close each card by the builder's one call (the guide's Derived/Test/ToyasCard.lean, 'card_holds'). Laid BY PROGRAM, IN A SANDBOX (cutbox-door.mjs). By AI agents, Wed Nov 11 2026. No macro, syntax, notation, axiom, sorry.
-/
import Derived.Test.YtnmamncmpklliaaGreatDoorRows
import GoSem.ClaimSeven
namespace Go.Proofs.YtnmamncmpklliaaGreatDoor
namespace Rows

/-- THE TIED CARD OF 'gunwalelaw23.DaemonKeeps'. -/
def daemonKeepsCard : Claim7 := { stood := { row := daemonKeepsRow, standIns := [], harness := (true, "31c076e2f65111c219a52b48c19c5d51bf8fd5c0df349b2344d7f754092b6c8c"), looks := true }, kinds := [], alts := [], laidByText := true, laidKinds := [.data, .data, .pinned], laidTests := true, laidLooks := .later }
def DaemonKeepsCardSaid : Prop := Claim7.holds Tryz.pinned (.plain (OpenSpec.ofChange daemonKeepsSpec)) daemonKeepsCard

/-- THE TIED CARD OF 'gunwalelaw23.DaemonModel'. -/
def daemonModelCard : Claim7 := { stood := { row := daemonModelRow, standIns := [], harness := (true, "31c076e2f65111c219a52b48c19c5d51bf8fd5c0df349b2344d7f754092b6c8c"), looks := true }, kinds := [], alts := [], laidByText := true, laidKinds := [.data, .data, .pinned], laidTests := true, laidLooks := .later }
def DaemonModelCardSaid : Prop := Claim7.holds Tryz.pinned (.plain (OpenSpec.ofChange daemonModelSpec)) daemonModelCard

/-- THE TIED CARD OF 'gunwalelaw23.DaemonTwice'. -/
def daemonTwiceCard : Claim7 := { stood := { row := daemonTwiceRow, standIns := [], harness := (true, "31c076e2f65111c219a52b48c19c5d51bf8fd5c0df349b2344d7f754092b6c8c"), looks := true }, kinds := [], alts := [], laidByText := true, laidKinds := [.data, .data, .pinned], laidTests := true, laidLooks := .later }
def DaemonTwiceCardSaid : Prop := Claim7.holds Tryz.pinned (.plain (OpenSpec.ofChange daemonTwiceSpec)) daemonTwiceCard

/-- THE TIED CARD OF 'gunwalelaw23.DaemonAnew'. -/
def daemonAnewCard : Claim7 := { stood := { row := daemonAnewRow, standIns := [], harness := (true, "31c076e2f65111c219a52b48c19c5d51bf8fd5c0df349b2344d7f754092b6c8c"), looks := true }, kinds := [], alts := [], laidByText := true, laidKinds := [.data, .data, .pinned], laidTests := true, laidLooks := .later }
def DaemonAnewCardSaid : Prop := Claim7.holds Tryz.pinned (.plain (OpenSpec.ofChange daemonAnewSpec)) daemonAnewCard

/-- THE TIED CARD OF 'gunwalelaw24.RunBytes'. -/
def runBytesCard : Claim7 := { stood := { row := runBytesRow, standIns := [], harness := (true, "31c076e2f65111c219a52b48c19c5d51bf8fd5c0df349b2344d7f754092b6c8c"), looks := true }, kinds := [], alts := [], laidByText := true, laidKinds := [.data, .data, .pinned], laidTests := true, laidLooks := .later }
def RunBytesCardSaid : Prop := Claim7.holds Tryz.pinned (.plain (OpenSpec.ofChange runBytesSpec)) runBytesCard

/-- THE TIED CARD OF 'gunwalelaw24.RunParts'. -/
def runPartsCard : Claim7 := { stood := { row := runPartsRow, standIns := [], harness := (true, "31c076e2f65111c219a52b48c19c5d51bf8fd5c0df349b2344d7f754092b6c8c"), looks := true }, kinds := [], alts := [], laidByText := true, laidKinds := [.data, .data, .pinned], laidTests := true, laidLooks := .later }
def RunPartsCardSaid : Prop := Claim7.holds Tryz.pinned (.plain (OpenSpec.ofChange runPartsSpec)) runPartsCard

/-- THE TIED CARD OF 'gunwalelaw24.RunOne'. -/
def runOneCard : Claim7 := { stood := { row := runOneRow, standIns := [], harness := (true, "31c076e2f65111c219a52b48c19c5d51bf8fd5c0df349b2344d7f754092b6c8c"), looks := true }, kinds := [], alts := [], laidByText := true, laidKinds := [.data, .data, .pinned], laidTests := true, laidLooks := .later }
def RunOneCardSaid : Prop := Claim7.holds Tryz.pinned (.plain (OpenSpec.ofChange runOneSpec)) runOneCard

/-- THE SECOND FORM's CARD OF 'gunwalelaw23.DaemonKeeps'. -/
def daemonKeepsUptoCard : Claim7 := { stood := { row := daemonKeepsUptoRow, standIns := [], harness := (true, "31c076e2f65111c219a52b48c19c5d51bf8fd5c0df349b2344d7f754092b6c8c"), looks := true }, kinds := [], alts := [], laidByText := true, laidKinds := [.data, .data, .pinned], laidTests := true, laidLooks := .later }
def DaemonKeepsUptoCardSaid : Prop := Claim7.holds Tryz.pinned (.plain (OpenSpec.upto daemonKeepsSpec)) daemonKeepsUptoCard

/-- THE SECOND FORM's CARD OF 'gunwalelaw23.DaemonModel'. -/
def daemonModelUptoCard : Claim7 := { stood := { row := daemonModelUptoRow, standIns := [], harness := (true, "31c076e2f65111c219a52b48c19c5d51bf8fd5c0df349b2344d7f754092b6c8c"), looks := true }, kinds := [], alts := [], laidByText := true, laidKinds := [.data, .data, .pinned], laidTests := true, laidLooks := .later }
def DaemonModelUptoCardSaid : Prop := Claim7.holds Tryz.pinned (.plain (OpenSpec.upto daemonModelSpec)) daemonModelUptoCard

/-- THE SECOND FORM's CARD OF 'gunwalelaw23.DaemonTwice'. -/
def daemonTwiceUptoCard : Claim7 := { stood := { row := daemonTwiceUptoRow, standIns := [], harness := (true, "31c076e2f65111c219a52b48c19c5d51bf8fd5c0df349b2344d7f754092b6c8c"), looks := true }, kinds := [], alts := [], laidByText := true, laidKinds := [.data, .data, .pinned], laidTests := true, laidLooks := .later }
def DaemonTwiceUptoCardSaid : Prop := Claim7.holds Tryz.pinned (.plain (OpenSpec.upto daemonTwiceSpec)) daemonTwiceUptoCard

/-- THE SECOND FORM's CARD OF 'gunwalelaw23.DaemonAnew'. -/
def daemonAnewUptoCard : Claim7 := { stood := { row := daemonAnewUptoRow, standIns := [], harness := (true, "31c076e2f65111c219a52b48c19c5d51bf8fd5c0df349b2344d7f754092b6c8c"), looks := true }, kinds := [], alts := [], laidByText := true, laidKinds := [.data, .data, .pinned], laidTests := true, laidLooks := .later }
def DaemonAnewUptoCardSaid : Prop := Claim7.holds Tryz.pinned (.plain (OpenSpec.upto daemonAnewSpec)) daemonAnewUptoCard

/-- THE SECOND FORM's CARD OF 'gunwalelaw24.RunBytes'. -/
def runBytesUptoCard : Claim7 := { stood := { row := runBytesUptoRow, standIns := [], harness := (true, "31c076e2f65111c219a52b48c19c5d51bf8fd5c0df349b2344d7f754092b6c8c"), looks := true }, kinds := [], alts := [], laidByText := true, laidKinds := [.data, .data, .pinned], laidTests := true, laidLooks := .later }
def RunBytesUptoCardSaid : Prop := Claim7.holds Tryz.pinned (.plain (OpenSpec.upto runBytesSpec)) runBytesUptoCard

/-- THE SECOND FORM's CARD OF 'gunwalelaw24.RunParts'. -/
def runPartsUptoCard : Claim7 := { stood := { row := runPartsUptoRow, standIns := [], harness := (true, "31c076e2f65111c219a52b48c19c5d51bf8fd5c0df349b2344d7f754092b6c8c"), looks := true }, kinds := [], alts := [], laidByText := true, laidKinds := [.data, .data, .pinned], laidTests := true, laidLooks := .later }
def RunPartsUptoCardSaid : Prop := Claim7.holds Tryz.pinned (.plain (OpenSpec.upto runPartsSpec)) runPartsUptoCard

/-- THE SECOND FORM's CARD OF 'gunwalelaw24.RunOne'. -/
def runOneUptoCard : Claim7 := { stood := { row := runOneUptoRow, standIns := [], harness := (true, "31c076e2f65111c219a52b48c19c5d51bf8fd5c0df349b2344d7f754092b6c8c"), looks := true }, kinds := [], alts := [], laidByText := true, laidKinds := [.data, .data, .pinned], laidTests := true, laidLooks := .later }
def RunOneUptoCardSaid : Prop := Claim7.holds Tryz.pinned (.plain (OpenSpec.upto runOneSpec)) runOneUptoCard
end Rows
end Go.Proofs.YtnmamncmpklliaaGreatDoor

/-
  DERIVED. GIVEN WITH THE SEED: THE CARDS: each row of YtmknmapgfjmioaaGreatDoorRows.lean that lists a variable, with what it lists TIED to the program's text (the seventh form; the later family's looks); each row that meets fmt, with fmt's text TOLD by the authors' own Lean function (tested against real Go, not proved from fmt's source: count such statements apart). THE CARD IS WHAT COUNTS. Prove the row's statement (the work); the ties are given (YtmknmapgfjmioaaGreatDoorTie.lean); close each card by the builder's one call (the guide's Derived/Test/ToyasCard.lean, 'card_holds'). Laid BY PROGRAM, IN A SANDBOX (cutbox-door.mjs). By AI agents, Wed Nov 11 2026. No macro, syntax, notation, axiom, sorry.
-/
import Derived.Test.YtmknmapgfjmioaaGreatDoorRows
import GoSem.ClaimSeven
namespace Go.Proofs.YtmknmapgfjmioaaGreatDoor
namespace Rows

/-- THE TIED CARD OF 'gunwalelaw20.PlanTells'. -/
def planTellsCard : Claim7 := { stood := { row := planTellsRow, standIns := [], harness := (true, "b74874a1d891d80c3692ecbfca461833be3a18af6353cb6ced062bed307bda3d"), looks := true }, kinds := [], alts := [], laidByText := true, laidKinds := [.data, .pinned], laidTests := true, laidLooks := .later }
def PlanTellsCardSaid : Prop := Claim7.holds Tryz.pinned (.plain (OpenSpec.ofChange planTellsSpec)) planTellsCard

/-- THE TIED CARD OF 'gunwalelaw20.PlanOrder'. -/
def planOrderCard : Claim7 := { stood := { row := planOrderRow, standIns := [], harness := (true, "b74874a1d891d80c3692ecbfca461833be3a18af6353cb6ced062bed307bda3d"), looks := true }, kinds := [], alts := [], laidByText := true, laidKinds := [.data, .pinned], laidTests := true, laidLooks := .later }
def PlanOrderCardSaid : Prop := Claim7.holds Tryz.pinned (.plain (OpenSpec.ofChange planOrderSpec)) planOrderCard

/-- THE SECOND FORM's CARD OF 'gunwalelaw20.PlanTells'. -/
def planTellsUptoCard : Claim7 := { stood := { row := planTellsUptoRow, standIns := [], harness := (true, "b74874a1d891d80c3692ecbfca461833be3a18af6353cb6ced062bed307bda3d"), looks := true }, kinds := [], alts := [], laidByText := true, laidKinds := [.data, .pinned], laidTests := true, laidLooks := .later }
def PlanTellsUptoCardSaid : Prop := Claim7.holds Tryz.pinned (.plain (OpenSpec.upto planTellsSpec)) planTellsUptoCard

/-- THE SECOND FORM's CARD OF 'gunwalelaw20.PlanOrder'. -/
def planOrderUptoCard : Claim7 := { stood := { row := planOrderUptoRow, standIns := [], harness := (true, "b74874a1d891d80c3692ecbfca461833be3a18af6353cb6ced062bed307bda3d"), looks := true }, kinds := [], alts := [], laidByText := true, laidKinds := [.data, .pinned], laidTests := true, laidLooks := .later }
def PlanOrderUptoCardSaid : Prop := Claim7.holds Tryz.pinned (.plain (OpenSpec.upto planOrderSpec)) planOrderUptoCard
end Rows
end Go.Proofs.YtmknmapgfjmioaaGreatDoor

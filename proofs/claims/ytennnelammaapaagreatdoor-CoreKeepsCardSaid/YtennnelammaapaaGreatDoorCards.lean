/-
  DERIVED. GIVEN WITH THE SEED: THE CARDS: each row of YtennnelammaapaaGreatDoorRows.lean that lists a variable, with what it lists TIED to the program's text (the seventh form; the later family's looks); each row that meets fmt, with fmt's text TOLD by the authors' own Lean function (tested against real Go, not proved from fmt's source: count such statements apart). THE CARD IS WHAT COUNTS. Prove the row's statement (the work); the ties are given (YtennnelammaapaaGreatDoorTie.lean); close each card by the builder's one call (the guide's Derived/Test/ToyasCard.lean, 'card_holds'). Laid BY PROGRAM, IN A SANDBOX (cutbox-door.mjs). By AI agents, Wed Nov 11 2026. No macro, syntax, notation, axiom, sorry.
-/
import Derived.Test.YtennnelammaapaaGreatDoorRows
import GoSem.ClaimSeven
namespace Go.Proofs.YtennnelammaapaaGreatDoor
namespace Rows

/-- THE TIED CARD OF 'gunwalelaw21.CoreLive'. -/
def coreLiveCard : Claim7 := { stood := { row := coreLiveRow, standIns := [], harness := (true, "93fba198f5d2af12b2f6eb48584f4df6b621c8d2cb8552a9ff7f35d8a508c024"), looks := true }, kinds := [], alts := [], laidByText := true, laidKinds := [.data, .pinned], laidTests := true, laidLooks := .later }
def CoreLiveCardSaid : Prop := Claim7.holds Tryz.pinned (.plain (OpenSpec.ofChange coreLiveSpec)) coreLiveCard

/-- THE TIED CARD OF 'gunwalelaw21.CoreEnds'. -/
def coreEndsCard : Claim7 := { stood := { row := coreEndsRow, standIns := [], harness := (true, "93fba198f5d2af12b2f6eb48584f4df6b621c8d2cb8552a9ff7f35d8a508c024"), looks := true }, kinds := [], alts := [], laidByText := true, laidKinds := [.data, .pinned], laidTests := true, laidLooks := .later }
def CoreEndsCardSaid : Prop := Claim7.holds Tryz.pinned (.plain (OpenSpec.ofChange coreEndsSpec)) coreEndsCard

/-- THE TIED CARD OF 'gunwalelaw21.CoreLocks'. -/
def coreLocksCard : Claim7 := { stood := { row := coreLocksRow, standIns := [], harness := (true, "93fba198f5d2af12b2f6eb48584f4df6b621c8d2cb8552a9ff7f35d8a508c024"), looks := true }, kinds := [], alts := [], laidByText := true, laidKinds := [.data, .pinned], laidTests := true, laidLooks := .later }
def CoreLocksCardSaid : Prop := Claim7.holds Tryz.pinned (.plain (OpenSpec.ofChange coreLocksSpec)) coreLocksCard

/-- THE TIED CARD OF 'gunwalelaw21.CoreKeeps'. -/
def coreKeepsCard : Claim7 := { stood := { row := coreKeepsRow, standIns := [], harness := (true, "93fba198f5d2af12b2f6eb48584f4df6b621c8d2cb8552a9ff7f35d8a508c024"), looks := true }, kinds := [], alts := [], laidByText := true, laidKinds := [.data, .pinned], laidTests := true, laidLooks := .later }
def CoreKeepsCardSaid : Prop := Claim7.holds Tryz.pinned (.plain (OpenSpec.ofChange coreKeepsSpec)) coreKeepsCard

/-- THE TIED CARD OF 'gunwalelaw21.CoreOthers'. -/
def coreOthersCard : Claim7 := { stood := { row := coreOthersRow, standIns := [], harness := (true, "93fba198f5d2af12b2f6eb48584f4df6b621c8d2cb8552a9ff7f35d8a508c024"), looks := true }, kinds := [], alts := [], laidByText := true, laidKinds := [.data, .pinned], laidTests := true, laidLooks := .later }
def CoreOthersCardSaid : Prop := Claim7.holds Tryz.pinned (.plain (OpenSpec.ofChange coreOthersSpec)) coreOthersCard

/-- THE TIED CARD OF 'gunwalelaw21.CoreGuards'. -/
def coreGuardsCard : Claim7 := { stood := { row := coreGuardsRow, standIns := [], harness := (true, "93fba198f5d2af12b2f6eb48584f4df6b621c8d2cb8552a9ff7f35d8a508c024"), looks := true }, kinds := [], alts := [], laidByText := true, laidKinds := [.data, .pinned], laidTests := true, laidLooks := .later }
def CoreGuardsCardSaid : Prop := Claim7.holds Tryz.pinned (.plain (OpenSpec.ofChange coreGuardsSpec)) coreGuardsCard

/-- THE SECOND FORM's CARD OF 'gunwalelaw21.CoreLive'. -/
def coreLiveUptoCard : Claim7 := { stood := { row := coreLiveUptoRow, standIns := [], harness := (true, "93fba198f5d2af12b2f6eb48584f4df6b621c8d2cb8552a9ff7f35d8a508c024"), looks := true }, kinds := [], alts := [], laidByText := true, laidKinds := [.data, .pinned], laidTests := true, laidLooks := .later }
def CoreLiveUptoCardSaid : Prop := Claim7.holds Tryz.pinned (.plain (OpenSpec.upto coreLiveSpec)) coreLiveUptoCard

/-- THE SECOND FORM's CARD OF 'gunwalelaw21.CoreEnds'. -/
def coreEndsUptoCard : Claim7 := { stood := { row := coreEndsUptoRow, standIns := [], harness := (true, "93fba198f5d2af12b2f6eb48584f4df6b621c8d2cb8552a9ff7f35d8a508c024"), looks := true }, kinds := [], alts := [], laidByText := true, laidKinds := [.data, .pinned], laidTests := true, laidLooks := .later }
def CoreEndsUptoCardSaid : Prop := Claim7.holds Tryz.pinned (.plain (OpenSpec.upto coreEndsSpec)) coreEndsUptoCard

/-- THE SECOND FORM's CARD OF 'gunwalelaw21.CoreLocks'. -/
def coreLocksUptoCard : Claim7 := { stood := { row := coreLocksUptoRow, standIns := [], harness := (true, "93fba198f5d2af12b2f6eb48584f4df6b621c8d2cb8552a9ff7f35d8a508c024"), looks := true }, kinds := [], alts := [], laidByText := true, laidKinds := [.data, .pinned], laidTests := true, laidLooks := .later }
def CoreLocksUptoCardSaid : Prop := Claim7.holds Tryz.pinned (.plain (OpenSpec.upto coreLocksSpec)) coreLocksUptoCard

/-- THE SECOND FORM's CARD OF 'gunwalelaw21.CoreKeeps'. -/
def coreKeepsUptoCard : Claim7 := { stood := { row := coreKeepsUptoRow, standIns := [], harness := (true, "93fba198f5d2af12b2f6eb48584f4df6b621c8d2cb8552a9ff7f35d8a508c024"), looks := true }, kinds := [], alts := [], laidByText := true, laidKinds := [.data, .pinned], laidTests := true, laidLooks := .later }
def CoreKeepsUptoCardSaid : Prop := Claim7.holds Tryz.pinned (.plain (OpenSpec.upto coreKeepsSpec)) coreKeepsUptoCard

/-- THE SECOND FORM's CARD OF 'gunwalelaw21.CoreOthers'. -/
def coreOthersUptoCard : Claim7 := { stood := { row := coreOthersUptoRow, standIns := [], harness := (true, "93fba198f5d2af12b2f6eb48584f4df6b621c8d2cb8552a9ff7f35d8a508c024"), looks := true }, kinds := [], alts := [], laidByText := true, laidKinds := [.data, .pinned], laidTests := true, laidLooks := .later }
def CoreOthersUptoCardSaid : Prop := Claim7.holds Tryz.pinned (.plain (OpenSpec.upto coreOthersSpec)) coreOthersUptoCard

/-- THE SECOND FORM's CARD OF 'gunwalelaw21.CoreGuards'. -/
def coreGuardsUptoCard : Claim7 := { stood := { row := coreGuardsUptoRow, standIns := [], harness := (true, "93fba198f5d2af12b2f6eb48584f4df6b621c8d2cb8552a9ff7f35d8a508c024"), looks := true }, kinds := [], alts := [], laidByText := true, laidKinds := [.data, .pinned], laidTests := true, laidLooks := .later }
def CoreGuardsUptoCardSaid : Prop := Claim7.holds Tryz.pinned (.plain (OpenSpec.upto coreGuardsSpec)) coreGuardsUptoCard
end Rows
end Go.Proofs.YtennnelammaapaaGreatDoor

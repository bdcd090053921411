/-
  DERIVED. GIVEN WITH THE SEED: THE CARDS: each row of YthhdnjiodklmmaaGreatDoorRows.lean that lists a variable, with what it lists TIED to the program's text (the seventh form; the later family's looks); each row that meets fmt, with fmt's text TOLD by the authors' own Lean function (tested against real Go, not proved from fmt's source: count such statements apart). THE CARD IS WHAT COUNTS. Prove the row's statement (the work); the ties are given (YthhdnjiodklmmaaGreatDoorTie.lean); close each card by the builder's one call (the guide's Derived/Test/ToyasCard.lean, 'card_holds'). Laid BY PROGRAM, IN A SANDBOX (cutbox-door.mjs). By AI agents, Wed Nov 11 2026. No macro, syntax, notation, axiom, sorry.
-/
import Derived.Test.YthhdnjiodklmmaaGreatDoorRows
import GoSem.ClaimSeven
namespace Go.Proofs.YthhdnjiodklmmaaGreatDoor
namespace Rows

/-- THE TIED CARD OF 'gunwalelaw19.ModelErrors'. -/
def modelErrorsCard : Claim7 := { stood := { row := modelErrorsRow, standIns := [], harness := (true, "aa85309be068a12bcf86355bf905a7ff64a0c164a5d1394cc54c7d4c672dc33f"), looks := true }, kinds := [], alts := [], laidByText := true, laidKinds := [.data, .pinned], laidTests := true, laidLooks := .later }
def ModelErrorsCardSaid : Prop := Claim7.holds Tryz.pinned (.plain (OpenSpec.ofChange modelErrorsSpec)) modelErrorsCard

/-- THE TIED CARD OF 'gunwalelaw19.ModelSnaps'. -/
def modelSnapsCard : Claim7 := { stood := { row := modelSnapsRow, standIns := [], harness := (true, "aa85309be068a12bcf86355bf905a7ff64a0c164a5d1394cc54c7d4c672dc33f"), looks := true }, kinds := [], alts := [], laidByText := true, laidKinds := [.data, .pinned], laidTests := true, laidLooks := .later }
def ModelSnapsCardSaid : Prop := Claim7.holds Tryz.pinned (.plain (OpenSpec.ofChange modelSnapsSpec)) modelSnapsCard

/-- THE TIED CARD OF 'gunwalelaw19.ModelWatches'. -/
def modelWatchesCard : Claim7 := { stood := { row := modelWatchesRow, standIns := [], harness := (true, "aa85309be068a12bcf86355bf905a7ff64a0c164a5d1394cc54c7d4c672dc33f"), looks := true }, kinds := [], alts := [], laidByText := true, laidKinds := [.data, .pinned], laidTests := true, laidLooks := .later }
def ModelWatchesCardSaid : Prop := Claim7.holds Tryz.pinned (.plain (OpenSpec.ofChange modelWatchesSpec)) modelWatchesCard

/-- THE TIED CARD OF 'gunwalelaw19.ModelWrites'. -/
def modelWritesCard : Claim7 := { stood := { row := modelWritesRow, standIns := [], harness := (true, "aa85309be068a12bcf86355bf905a7ff64a0c164a5d1394cc54c7d4c672dc33f"), looks := true }, kinds := [], alts := [], laidByText := true, laidKinds := [.data, .pinned], laidTests := true, laidLooks := .later }
def ModelWritesCardSaid : Prop := Claim7.holds Tryz.pinned (.plain (OpenSpec.ofChange modelWritesSpec)) modelWritesCard

/-- THE TIED CARD OF 'gunwalelaw19.ModelNew'. -/
def modelNewCard : Claim7 := { stood := { row := modelNewRow, standIns := [], harness := (true, "aa85309be068a12bcf86355bf905a7ff64a0c164a5d1394cc54c7d4c672dc33f"), looks := true }, kinds := [], alts := [], laidByText := true, laidKinds := [.data, .pinned], laidTests := true, laidLooks := .later }
def ModelNewCardSaid : Prop := Claim7.holds Tryz.pinned (.plain (OpenSpec.ofChange modelNewSpec)) modelNewCard

/-- THE TIED CARD OF 'gunwalelaw19.ModelTells'. -/
def modelTellsCard : Claim7 := { stood := { row := modelTellsRow, standIns := [], harness := (true, "aa85309be068a12bcf86355bf905a7ff64a0c164a5d1394cc54c7d4c672dc33f"), looks := true }, kinds := [], alts := [], laidByText := true, laidKinds := [.data, .pinned], laidTests := true, laidLooks := .later }
def ModelTellsCardSaid : Prop := Claim7.holds Tryz.pinned (.plain (OpenSpec.ofChange modelTellsSpec)) modelTellsCard

/-- THE TIED CARD OF 'gunwalelaw19.ModelOps'. -/
def modelOpsCard : Claim7 := { stood := { row := modelOpsRow, standIns := [], harness := (true, "aa85309be068a12bcf86355bf905a7ff64a0c164a5d1394cc54c7d4c672dc33f"), looks := true }, kinds := [], alts := [], laidByText := true, laidKinds := [.data, .pinned], laidTests := true, laidLooks := .later }
def ModelOpsCardSaid : Prop := Claim7.holds Tryz.pinned (.plain (OpenSpec.ofChange modelOpsSpec)) modelOpsCard

/-- THE TIED CARD OF 'gunwalelaw19.ModelMeets'. -/
def modelMeetsCard : Claim7 := { stood := { row := modelMeetsRow, standIns := [], harness := (true, "aa85309be068a12bcf86355bf905a7ff64a0c164a5d1394cc54c7d4c672dc33f"), looks := true }, kinds := [], alts := [], laidByText := true, laidKinds := [.data, .pinned], laidTests := true, laidLooks := .later }
def ModelMeetsCardSaid : Prop := Claim7.holds Tryz.pinned (.plain (OpenSpec.ofChange modelMeetsSpec)) modelMeetsCard

/-- THE SECOND FORM's CARD OF 'gunwalelaw19.ModelErrors'. -/
def modelErrorsUptoCard : Claim7 := { stood := { row := modelErrorsUptoRow, standIns := [], harness := (true, "aa85309be068a12bcf86355bf905a7ff64a0c164a5d1394cc54c7d4c672dc33f"), looks := true }, kinds := [], alts := [], laidByText := true, laidKinds := [.data, .pinned], laidTests := true, laidLooks := .later }
def ModelErrorsUptoCardSaid : Prop := Claim7.holds Tryz.pinned (.plain (OpenSpec.upto modelErrorsSpec)) modelErrorsUptoCard

/-- THE SECOND FORM's CARD OF 'gunwalelaw19.ModelSnaps'. -/
def modelSnapsUptoCard : Claim7 := { stood := { row := modelSnapsUptoRow, standIns := [], harness := (true, "aa85309be068a12bcf86355bf905a7ff64a0c164a5d1394cc54c7d4c672dc33f"), looks := true }, kinds := [], alts := [], laidByText := true, laidKinds := [.data, .pinned], laidTests := true, laidLooks := .later }
def ModelSnapsUptoCardSaid : Prop := Claim7.holds Tryz.pinned (.plain (OpenSpec.upto modelSnapsSpec)) modelSnapsUptoCard

/-- THE SECOND FORM's CARD OF 'gunwalelaw19.ModelWatches'. -/
def modelWatchesUptoCard : Claim7 := { stood := { row := modelWatchesUptoRow, standIns := [], harness := (true, "aa85309be068a12bcf86355bf905a7ff64a0c164a5d1394cc54c7d4c672dc33f"), looks := true }, kinds := [], alts := [], laidByText := true, laidKinds := [.data, .pinned], laidTests := true, laidLooks := .later }
def ModelWatchesUptoCardSaid : Prop := Claim7.holds Tryz.pinned (.plain (OpenSpec.upto modelWatchesSpec)) modelWatchesUptoCard

/-- THE SECOND FORM's CARD OF 'gunwalelaw19.ModelWrites'. -/
def modelWritesUptoCard : Claim7 := { stood := { row := modelWritesUptoRow, standIns := [], harness := (true, "aa85309be068a12bcf86355bf905a7ff64a0c164a5d1394cc54c7d4c672dc33f"), looks := true }, kinds := [], alts := [], laidByText := true, laidKinds := [.data, .pinned], laidTests := true, laidLooks := .later }
def ModelWritesUptoCardSaid : Prop := Claim7.holds Tryz.pinned (.plain (OpenSpec.upto modelWritesSpec)) modelWritesUptoCard

/-- THE SECOND FORM's CARD OF 'gunwalelaw19.ModelNew'. -/
def modelNewUptoCard : Claim7 := { stood := { row := modelNewUptoRow, standIns := [], harness := (true, "aa85309be068a12bcf86355bf905a7ff64a0c164a5d1394cc54c7d4c672dc33f"), looks := true }, kinds := [], alts := [], laidByText := true, laidKinds := [.data, .pinned], laidTests := true, laidLooks := .later }
def ModelNewUptoCardSaid : Prop := Claim7.holds Tryz.pinned (.plain (OpenSpec.upto modelNewSpec)) modelNewUptoCard

/-- THE SECOND FORM's CARD OF 'gunwalelaw19.ModelTells'. -/
def modelTellsUptoCard : Claim7 := { stood := { row := modelTellsUptoRow, standIns := [], harness := (true, "aa85309be068a12bcf86355bf905a7ff64a0c164a5d1394cc54c7d4c672dc33f"), looks := true }, kinds := [], alts := [], laidByText := true, laidKinds := [.data, .pinned], laidTests := true, laidLooks := .later }
def ModelTellsUptoCardSaid : Prop := Claim7.holds Tryz.pinned (.plain (OpenSpec.upto modelTellsSpec)) modelTellsUptoCard

/-- THE SECOND FORM's CARD OF 'gunwalelaw19.ModelOps'. -/
def modelOpsUptoCard : Claim7 := { stood := { row := modelOpsUptoRow, standIns := [], harness := (true, "aa85309be068a12bcf86355bf905a7ff64a0c164a5d1394cc54c7d4c672dc33f"), looks := true }, kinds := [], alts := [], laidByText := true, laidKinds := [.data, .pinned], laidTests := true, laidLooks := .later }
def ModelOpsUptoCardSaid : Prop := Claim7.holds Tryz.pinned (.plain (OpenSpec.upto modelOpsSpec)) modelOpsUptoCard

/-- THE SECOND FORM's CARD OF 'gunwalelaw19.ModelMeets'. -/
def modelMeetsUptoCard : Claim7 := { stood := { row := modelMeetsUptoRow, standIns := [], harness := (true, "aa85309be068a12bcf86355bf905a7ff64a0c164a5d1394cc54c7d4c672dc33f"), looks := true }, kinds := [], alts := [], laidByText := true, laidKinds := [.data, .pinned], laidTests := true, laidLooks := .later }
def ModelMeetsUptoCardSaid : Prop := Claim7.holds Tryz.pinned (.plain (OpenSpec.upto modelMeetsSpec)) modelMeetsUptoCard
end Rows
end Go.Proofs.YthhdnjiodklmmaaGreatDoor

/-
  DERIVED. GIVEN WITH THE SEED: THE CARDS: each row of YtmknmapgfjmioaaDoorRows.lean that lists a variable, with what it lists TIED to the program's text (the seventh form; the later family's looks); each row that meets fmt, with fmt's text TOLD by the authors' own Lean function (tested against real Go, not proved from fmt's source: count such statements apart). THE CARD IS WHAT COUNTS. Prove the row's statement (the work); the ties are given (YtmknmapgfjmioaaDoorTie.lean); close each card by the builder's one call (the guide's Derived/Test/ToyasCard.lean, 'card_holds'). Laid BY PROGRAM, IN A SANDBOX (cutbox-door.mjs). By AI agents, Wed Nov 11 2026. No macro, syntax, notation, axiom, sorry.
-/
import Derived.Test.YtmknmapgfjmioaaDoorRows
import GoSem.ClaimSeven
namespace Go.Proofs.YtmknmapgfjmioaaDoor
namespace Rows

/-- THE TIED CARD OF 'gunwalelaw20.PlanAlone'. -/
def planAloneCard : Claim7 := { stood := { row := planAloneRow, standIns := [], harness := (true, "70c3cda7c92e5e35b1380150c51c7b7613d2b292ebf639f442541aa58cd24e05"), looks := true }, kinds := [], alts := [], laidByText := true, laidKinds := [.data, .pinned], laidTests := true, laidLooks := .later }
def PlanAloneCardSaid : Prop := Claim7.holds Tryd.pinned (.plain (OpenSpec.ofChange planAloneSpec)) planAloneCard

/-- THE TIED CARD OF 'gunwalelaw20.PlanAgain'. -/
def planAgainCard : Claim7 := { stood := { row := planAgainRow, standIns := [], harness := (true, "70c3cda7c92e5e35b1380150c51c7b7613d2b292ebf639f442541aa58cd24e05"), looks := true }, kinds := [], alts := [], laidByText := true, laidKinds := [.data, .pinned], laidTests := true, laidLooks := .later }
def PlanAgainCardSaid : Prop := Claim7.holds Tryd.pinned (.plain (OpenSpec.ofChange planAgainSpec)) planAgainCard

/-- THE TIED CARD OF 'gunwalelaw20.PlanFrees'. -/
def planFreesCard : Claim7 := { stood := { row := planFreesRow, standIns := [], harness := (true, "70c3cda7c92e5e35b1380150c51c7b7613d2b292ebf639f442541aa58cd24e05"), looks := true }, kinds := [], alts := [], laidByText := true, laidKinds := [.data, .pinned], laidTests := true, laidLooks := .later }
def PlanFreesCardSaid : Prop := Claim7.holds Tryd.pinned (.plain (OpenSpec.ofChange planFreesSpec)) planFreesCard

/-- THE TIED CARD OF 'gunwalelaw20.PlanHolds'. -/
def planHoldsCard : Claim7 := { stood := { row := planHoldsRow, standIns := [], harness := (true, "70c3cda7c92e5e35b1380150c51c7b7613d2b292ebf639f442541aa58cd24e05"), looks := true }, kinds := [], alts := [], laidByText := true, laidKinds := [.data, .pinned], laidTests := true, laidLooks := .later }
def PlanHoldsCardSaid : Prop := Claim7.holds Tryd.pinned (.plain (OpenSpec.ofChange planHoldsSpec)) planHoldsCard

/-- THE SECOND FORM's CARD OF 'gunwalelaw20.PlanAlone'. -/
def planAloneUptoCard : Claim7 := { stood := { row := planAloneUptoRow, standIns := [], harness := (true, "70c3cda7c92e5e35b1380150c51c7b7613d2b292ebf639f442541aa58cd24e05"), looks := true }, kinds := [], alts := [], laidByText := true, laidKinds := [.data, .pinned], laidTests := true, laidLooks := .later }
def PlanAloneUptoCardSaid : Prop := Claim7.holds Tryd.pinned (.plain (OpenSpec.upto planAloneSpec)) planAloneUptoCard

/-- THE SECOND FORM's CARD OF 'gunwalelaw20.PlanAgain'. -/
def planAgainUptoCard : Claim7 := { stood := { row := planAgainUptoRow, standIns := [], harness := (true, "70c3cda7c92e5e35b1380150c51c7b7613d2b292ebf639f442541aa58cd24e05"), looks := true }, kinds := [], alts := [], laidByText := true, laidKinds := [.data, .pinned], laidTests := true, laidLooks := .later }
def PlanAgainUptoCardSaid : Prop := Claim7.holds Tryd.pinned (.plain (OpenSpec.upto planAgainSpec)) planAgainUptoCard

/-- THE SECOND FORM's CARD OF 'gunwalelaw20.PlanFrees'. -/
def planFreesUptoCard : Claim7 := { stood := { row := planFreesUptoRow, standIns := [], harness := (true, "70c3cda7c92e5e35b1380150c51c7b7613d2b292ebf639f442541aa58cd24e05"), looks := true }, kinds := [], alts := [], laidByText := true, laidKinds := [.data, .pinned], laidTests := true, laidLooks := .later }
def PlanFreesUptoCardSaid : Prop := Claim7.holds Tryd.pinned (.plain (OpenSpec.upto planFreesSpec)) planFreesUptoCard

/-- THE SECOND FORM's CARD OF 'gunwalelaw20.PlanHolds'. -/
def planHoldsUptoCard : Claim7 := { stood := { row := planHoldsUptoRow, standIns := [], harness := (true, "70c3cda7c92e5e35b1380150c51c7b7613d2b292ebf639f442541aa58cd24e05"), looks := true }, kinds := [], alts := [], laidByText := true, laidKinds := [.data, .pinned], laidTests := true, laidLooks := .later }
def PlanHoldsUptoCardSaid : Prop := Claim7.holds Tryd.pinned (.plain (OpenSpec.upto planHoldsSpec)) planHoldsUptoCard
end Rows
end Go.Proofs.YtmknmapgfjmioaaDoor

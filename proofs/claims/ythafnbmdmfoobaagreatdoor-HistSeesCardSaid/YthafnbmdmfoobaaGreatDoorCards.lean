/-
  DERIVED. GIVEN WITH THE SEED: THE CARDS: each row of YthafnbmdmfoobaaGreatDoorRows.lean that lists a variable, with what it lists TIED to the program's text (the seventh form; the later family's looks); each row that meets fmt, with fmt's text TOLD by the authors' own Lean function (tested against real Go, not proved from fmt's source: count such statements apart). THE CARD IS WHAT COUNTS. Prove the row's statement (the work); the ties are given (YthafnbmdmfoobaaGreatDoorTie.lean); close each card by the builder's one call (the guide's Derived/Test/ToyasCard.lean, 'card_holds'). Laid BY PROGRAM, IN A SANDBOX (cutbox-door.mjs). By AI agents, Wed Nov 11 2026. No macro, syntax, notation, axiom, sorry.
-/
import Derived.Test.YthafnbmdmfoobaaGreatDoorRows
import GoSem.ClaimSeven
namespace Go.Proofs.YthafnbmdmfoobaaGreatDoor
namespace Rows

/-- THE TIED CARD OF 'gunwalelaw22.HistTrue'. -/
def histTrueCard : Claim7 := { stood := { row := histTrueRow, standIns := [], harness := (true, "6dd4f0f72b25f6a0e1e6a39835bba66f29800271df2eb181d97951cd66087702"), looks := true }, kinds := [], alts := [], laidByText := true, laidKinds := [.data, .pinned], laidTests := true, laidLooks := .later }
def HistTrueCardSaid : Prop := Claim7.holds Tryz.pinned (.plain (OpenSpec.ofChange histTrueSpec)) histTrueCard

/-- THE TIED CARD OF 'gunwalelaw22.HistSees'. -/
def histSeesCard : Claim7 := { stood := { row := histSeesRow, standIns := [], harness := (true, "6dd4f0f72b25f6a0e1e6a39835bba66f29800271df2eb181d97951cd66087702"), looks := true }, kinds := [], alts := [], laidByText := true, laidKinds := [.data, .pinned], laidTests := true, laidLooks := .later }
def HistSeesCardSaid : Prop := Claim7.holds Tryz.pinned (.plain (OpenSpec.ofChange histSeesSpec)) histSeesCard

/-- THE TIED CARD OF 'gunwalelaw22.HistReal'. -/
def histRealCard : Claim7 := { stood := { row := histRealRow, standIns := [], harness := (true, "6dd4f0f72b25f6a0e1e6a39835bba66f29800271df2eb181d97951cd66087702"), looks := true }, kinds := [], alts := [], laidByText := true, laidKinds := [.data, .pinned], laidTests := true, laidLooks := .later }
def HistRealCardSaid : Prop := Claim7.holds Tryz.pinned (.plain (OpenSpec.ofChange histRealSpec)) histRealCard

/-- THE TIED CARD OF 'gunwalelaw22.HistOf'. -/
def histOfCard : Claim7 := { stood := { row := histOfRow, standIns := [], harness := (true, "6dd4f0f72b25f6a0e1e6a39835bba66f29800271df2eb181d97951cd66087702"), looks := true }, kinds := [], alts := [], laidByText := true, laidKinds := [.data, .pinned], laidTests := true, laidLooks := .later }
def HistOfCardSaid : Prop := Claim7.holds Tryz.pinned (.plain (OpenSpec.ofChange histOfSpec)) histOfCard

/-- THE TIED CARD OF 'gunwalelaw22.HistParts'. -/
def histPartsCard : Claim7 := { stood := { row := histPartsRow, standIns := [], harness := (true, "6dd4f0f72b25f6a0e1e6a39835bba66f29800271df2eb181d97951cd66087702"), looks := true }, kinds := [], alts := [], laidByText := true, laidKinds := [.data, .pinned], laidTests := true, laidLooks := .later }
def HistPartsCardSaid : Prop := Claim7.holds Tryz.pinned (.plain (OpenSpec.ofChange histPartsSpec)) histPartsCard

/-- THE SECOND FORM's CARD OF 'gunwalelaw22.HistTrue'. -/
def histTrueUptoCard : Claim7 := { stood := { row := histTrueUptoRow, standIns := [], harness := (true, "6dd4f0f72b25f6a0e1e6a39835bba66f29800271df2eb181d97951cd66087702"), looks := true }, kinds := [], alts := [], laidByText := true, laidKinds := [.data, .pinned], laidTests := true, laidLooks := .later }
def HistTrueUptoCardSaid : Prop := Claim7.holds Tryz.pinned (.plain (OpenSpec.upto histTrueSpec)) histTrueUptoCard

/-- THE SECOND FORM's CARD OF 'gunwalelaw22.HistSees'. -/
def histSeesUptoCard : Claim7 := { stood := { row := histSeesUptoRow, standIns := [], harness := (true, "6dd4f0f72b25f6a0e1e6a39835bba66f29800271df2eb181d97951cd66087702"), looks := true }, kinds := [], alts := [], laidByText := true, laidKinds := [.data, .pinned], laidTests := true, laidLooks := .later }
def HistSeesUptoCardSaid : Prop := Claim7.holds Tryz.pinned (.plain (OpenSpec.upto histSeesSpec)) histSeesUptoCard

/-- THE SECOND FORM's CARD OF 'gunwalelaw22.HistReal'. -/
def histRealUptoCard : Claim7 := { stood := { row := histRealUptoRow, standIns := [], harness := (true, "6dd4f0f72b25f6a0e1e6a39835bba66f29800271df2eb181d97951cd66087702"), looks := true }, kinds := [], alts := [], laidByText := true, laidKinds := [.data, .pinned], laidTests := true, laidLooks := .later }
def HistRealUptoCardSaid : Prop := Claim7.holds Tryz.pinned (.plain (OpenSpec.upto histRealSpec)) histRealUptoCard

/-- THE SECOND FORM's CARD OF 'gunwalelaw22.HistOf'. -/
def histOfUptoCard : Claim7 := { stood := { row := histOfUptoRow, standIns := [], harness := (true, "6dd4f0f72b25f6a0e1e6a39835bba66f29800271df2eb181d97951cd66087702"), looks := true }, kinds := [], alts := [], laidByText := true, laidKinds := [.data, .pinned], laidTests := true, laidLooks := .later }
def HistOfUptoCardSaid : Prop := Claim7.holds Tryz.pinned (.plain (OpenSpec.upto histOfSpec)) histOfUptoCard

/-- THE SECOND FORM's CARD OF 'gunwalelaw22.HistParts'. -/
def histPartsUptoCard : Claim7 := { stood := { row := histPartsUptoRow, standIns := [], harness := (true, "6dd4f0f72b25f6a0e1e6a39835bba66f29800271df2eb181d97951cd66087702"), looks := true }, kinds := [], alts := [], laidByText := true, laidKinds := [.data, .pinned], laidTests := true, laidLooks := .later }
def HistPartsUptoCardSaid : Prop := Claim7.holds Tryz.pinned (.plain (OpenSpec.upto histPartsSpec)) histPartsUptoCard
end Rows
end Go.Proofs.YthafnbmdmfoobaaGreatDoor

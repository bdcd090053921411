/-
  DERIVED. GIVEN WITH THE SEED: THE CARDS: each row of YtolbeecicikoaaaGreatDoorRows.lean that lists a variable, with what it lists TIED to the program's text (the seventh form; the later family's looks); each row that meets fmt, with fmt's text TOLD by the authors' own Lean function (tested against real Go, not proved from fmt's source: count such statements apart). THE CARD IS WHAT COUNTS. Prove the row's statement (the work); the ties are given (YtolbeecicikoaaaGreatDoorTie.lean); close each card by the builder's one call (the guide's Derived/Test/ToyasCard.lean, 'card_holds'). Laid BY PROGRAM, IN A SANDBOX (cutbox-door.mjs). By AI agents, Wed Nov 11 2026. No macro, syntax, notation, axiom, sorry.
-/
import Derived.Test.YtolbeecicikoaaaGreatDoorRows
import GoSem.ClaimSeven
namespace Go.Proofs.YtolbeecicikoaaaGreatDoor
namespace Rows

/-- THE TIED CARD OF 'gunwalelaw19.ModelTells'. -/
def modelTellsCard : Claim7 := { stood := { row := modelTellsRow, standIns := [], harness := (true, "b2ae883fb60271fdb8382cb2df480c0e2f355cd6c703260301395788bbd3e9fc"), looks := true }, kinds := [], alts := [], laidByText := true, laidKinds := [.data, .pinned], laidTests := true, laidLooks := .later }
def ModelTellsCardSaid : Prop := Claim7.holds Tryz.pinned (.plain (OpenSpec.ofChange modelTellsSpec)) modelTellsCard

/-- THE SECOND FORM's CARD OF 'gunwalelaw19.ModelTells'. -/
def modelTellsUptoCard : Claim7 := { stood := { row := modelTellsUptoRow, standIns := [], harness := (true, "b2ae883fb60271fdb8382cb2df480c0e2f355cd6c703260301395788bbd3e9fc"), looks := true }, kinds := [], alts := [], laidByText := true, laidKinds := [.data, .pinned], laidTests := true, laidLooks := .later }
def ModelTellsUptoCardSaid : Prop := Claim7.holds Tryz.pinned (.plain (OpenSpec.upto modelTellsSpec)) modelTellsUptoCard
end Rows
end Go.Proofs.YtolbeecicikoaaaGreatDoor

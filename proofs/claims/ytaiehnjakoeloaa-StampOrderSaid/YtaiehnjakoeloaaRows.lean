/-
  No cell of these rows narrows 'for every input' (looked for: loops, veiled, ifaces, maps, wideKeys, modest, calm, conditions, laid).
  DERIVED. THE GIVEN ROWS OF THIS SEAT. 6 by the template 'for every input the law returns true; each argument reads behind the call as it read before'; 0 by the template 'total and deterministic' (their statements: YtaiehnjakoeloaaTotals.lean).
  GIVEN WITH THE SEED: the statements are not yours to turn. If you find one false, say at which input.
  Laid BY PROGRAM, IN A SANDBOX (cutbox-rows.mjs): the forced cells as the released guide's own fill.sh prints them over the translation 8b78acd86def922c… (all of the seat's roots in one cut). By AI agents, Wed Nov 11 2026. No macro, syntax, notation, axiom, sorry.
-/
import Derived.Test.YtaiehnjakoeloaaChecked
import GoSem.Claim
import GoSem.ClaimJoined
import GoSem.ClaimMapViews
import Derived.JoinedTies
import Derived.KernelRfl
namespace Go.Proofs.Ytaiehnjakoeloaa
/- THE CELL 'sum', in the pinned program and in every row, IS THE sha256 OF THE DUMP (.gsa) THAT YtaiehnjakoeloaaProg.lean LOADS. Nothing in Lean hashes anything: it is a label: what it is worth is what the hold of that sum in a sandbox is worth. -/
noncomputable def Try.pinned : Pinned := { name := "ytaiehnjakoeloaa", sum := "8b78acd86def922c4bb4d6fd3ba693e6e98eb3e390a6d6c645d231029c208684", checked := Try.checked }
namespace Rows
def none {H : Type} : Left H := { results := [], args := [] }

/-- 'gunwalelaw02.StampTells': WHATEVER THE INPUT: true; the input reads as it did. -/
def stampTellsSpec : ChangeSpec := { name := "stampTells", fn := fun _ => fun
  | [d1, d2, d3, d4, d5, d6] => { results := [.lit (.bool true)], args := [d1, d2, d3, d4, d5, d6] }
  | _ => none }
def stampTellsRow : OpenClaim := { program := "ytaiehnjakoeloaa", sum := "8b78acd86def922c4bb4d6fd3ba693e6e98eb3e390a6d6c645d231029c208684", func := "gunwale/gunwalelaw02.StampTells", spec := "stampTells", apart := false }
def StampTellsSaid : Prop := stampTellsRow.holds Try.pinned (OpenSpec.ofChange stampTellsSpec)

/-- ITS FALSE NEIGHBOUR: 'it returns false'. Refute it at one input. -/
def stampTellsWrong : ChangeSpec := { name := "stampTells", fn := fun _ => fun
  | [d1, d2, d3, d4, d5, d6] => { results := [.lit (.bool false)], args := [d1, d2, d3, d4, d5, d6] }
  | _ => none }
def StampTellsWrongFalsely : Prop := stampTellsRow.holds Try.pinned (OpenSpec.ofChange stampTellsWrong)

/-- 'gunwalelaw02.StampBack': WHATEVER THE INPUT: true; the input reads as it did. -/
def stampBackSpec : ChangeSpec := { name := "stampBack", fn := fun _ => fun
  | [d1, d2, d3] => { results := [.lit (.bool true)], args := [d1, d2, d3] }
  | _ => none }
def stampBackRow : OpenClaim := { program := "ytaiehnjakoeloaa", sum := "8b78acd86def922c4bb4d6fd3ba693e6e98eb3e390a6d6c645d231029c208684", func := "gunwale/gunwalelaw02.StampBack", spec := "stampBack", apart := false }
def StampBackSaid : Prop := stampBackRow.holds Try.pinned (OpenSpec.ofChange stampBackSpec)

/-- ITS FALSE NEIGHBOUR: 'it returns false'. Refute it at one input. -/
def stampBackWrong : ChangeSpec := { name := "stampBack", fn := fun _ => fun
  | [d1, d2, d3] => { results := [.lit (.bool false)], args := [d1, d2, d3] }
  | _ => none }
def StampBackWrongFalsely : Prop := stampBackRow.holds Try.pinned (OpenSpec.ofChange stampBackWrong)

/-- 'gunwalelaw02.StampOrder': WHATEVER THE INPUT: true; the input reads as it did. -/
def stampOrderSpec : ChangeSpec := { name := "stampOrder", fn := fun _ => fun
  | [d1, d2, d3] => { results := [.lit (.bool true)], args := [d1, d2, d3] }
  | _ => none }
def stampOrderRow : OpenClaim := { program := "ytaiehnjakoeloaa", sum := "8b78acd86def922c4bb4d6fd3ba693e6e98eb3e390a6d6c645d231029c208684", func := "gunwale/gunwalelaw02.StampOrder", spec := "stampOrder", apart := false }
def StampOrderSaid : Prop := stampOrderRow.holds Try.pinned (OpenSpec.ofChange stampOrderSpec)

/-- ITS FALSE NEIGHBOUR: 'it returns false'. Refute it at one input. -/
def stampOrderWrong : ChangeSpec := { name := "stampOrder", fn := fun _ => fun
  | [d1, d2, d3] => { results := [.lit (.bool false)], args := [d1, d2, d3] }
  | _ => none }
def StampOrderWrongFalsely : Prop := stampOrderRow.holds Try.pinned (OpenSpec.ofChange stampOrderWrong)

/-- 'gunwalelaw02.StampNext': WHATEVER THE INPUT: true; the input reads as it did. -/
def stampNextSpec : ChangeSpec := { name := "stampNext", fn := fun _ => fun
  | [d1, d2] => { results := [.lit (.bool true)], args := [d1, d2] }
  | _ => none }
def stampNextRow : OpenClaim := { program := "ytaiehnjakoeloaa", sum := "8b78acd86def922c4bb4d6fd3ba693e6e98eb3e390a6d6c645d231029c208684", func := "gunwale/gunwalelaw02.StampNext", spec := "stampNext", apart := false }
def StampNextSaid : Prop := stampNextRow.holds Try.pinned (OpenSpec.ofChange stampNextSpec)

/-- ITS FALSE NEIGHBOUR: 'it returns false'. Refute it at one input. -/
def stampNextWrong : ChangeSpec := { name := "stampNext", fn := fun _ => fun
  | [d1, d2] => { results := [.lit (.bool false)], args := [d1, d2] }
  | _ => none }
def StampNextWrongFalsely : Prop := stampNextRow.holds Try.pinned (OpenSpec.ofChange stampNextWrong)

/-- 'gunwalelaw02.StampSeen': WHATEVER THE INPUT: true; the input reads as it did. -/
def stampSeenSpec : ChangeSpec := { name := "stampSeen", fn := fun _ => fun
  | [d1, d2, d3] => { results := [.lit (.bool true)], args := [d1, d2, d3] }
  | _ => none }
def stampSeenRow : OpenClaim := { program := "ytaiehnjakoeloaa", sum := "8b78acd86def922c4bb4d6fd3ba693e6e98eb3e390a6d6c645d231029c208684", func := "gunwale/gunwalelaw02.StampSeen", spec := "stampSeen", apart := false }
def StampSeenSaid : Prop := stampSeenRow.holds Try.pinned (OpenSpec.ofChange stampSeenSpec)

/-- ITS FALSE NEIGHBOUR: 'it returns false'. Refute it at one input. -/
def stampSeenWrong : ChangeSpec := { name := "stampSeen", fn := fun _ => fun
  | [d1, d2, d3] => { results := [.lit (.bool false)], args := [d1, d2, d3] }
  | _ => none }
def StampSeenWrongFalsely : Prop := stampSeenRow.holds Try.pinned (OpenSpec.ofChange stampSeenWrong)

/-- 'gunwalelaw02.StampApart': WHATEVER THE INPUT: true; the input reads as it did. -/
def stampApartSpec : ChangeSpec := { name := "stampApart", fn := fun _ => fun
  | [d1, d2, d3, d4] => { results := [.lit (.bool true)], args := [d1, d2, d3, d4] }
  | _ => none }
def stampApartRow : OpenClaim := { program := "ytaiehnjakoeloaa", sum := "8b78acd86def922c4bb4d6fd3ba693e6e98eb3e390a6d6c645d231029c208684", func := "gunwale/gunwalelaw02.StampApart", spec := "stampApart", apart := false }
def StampApartSaid : Prop := stampApartRow.holds Try.pinned (OpenSpec.ofChange stampApartSpec)

/-- ITS FALSE NEIGHBOUR: 'it returns false'. Refute it at one input. -/
def stampApartWrong : ChangeSpec := { name := "stampApart", fn := fun _ => fun
  | [d1, d2, d3, d4] => { results := [.lit (.bool false)], args := [d1, d2, d3, d4] }
  | _ => none }
def StampApartWrongFalsely : Prop := stampApartRow.holds Try.pinned (OpenSpec.ofChange stampApartWrong)

/- THE SECOND FORM. 'bulk': how many values and letters a reading holds, each counted each time it is reached (what is shared counts as often as it is met; a slice's spare places count too). A statement '..UptoSaid' is the law's where the arguments, and the package variables that the reading takes, are together of bulk at most 1048576: NARROWER than '..Said'. Prove '..Said' where nothing that the law and all that it calls make is longer than what came in: it says more and counts as full. Else prove '..UptoSaid'. A law counts once. -/
mutual
def uptoBulk {H : Type} : DataW H → Nat
  | .lit (.string bytes) => bytes.length + 1
  | .lit _ => 1
  | .nil => 1
  | .ptr d => uptoBulk d + 1
  | .slice elems spare => uptoBulkAll elems + uptoBulkAll spare + 1
  | .agg parts => uptoBulkAll parts + 1
  | .iface _ d => uptoBulk d + 1
  | .map entries => uptoBulkEntries entries + 1
  | .held _ => 1
def uptoBulkAll {H : Type} : List (DataW H) → Nat
  | [] => 0
  | d :: r => uptoBulk d + uptoBulkAll r
def uptoBulkEntries {H : Type} : List (Lit × DataW H) → Nat
  | [] => 0
  | x :: r => uptoBulkEntry x + uptoBulkEntries r
def uptoBulkEntry {H : Type} : Lit × DataW H → Nat
  | (.string bytes, d) => bytes.length + uptoBulk d + 1
  | (_, d) => uptoBulk d + 1
 end
def uptoSmall : (H : Type) → List (DataW H) → Bool := fun _ ds => decide (uptoBulkAll ds ≤ 1048576)
def OpenSpec.upto (s : _root_.Go.ChangeSpec) : _root_.Go.OpenSpec := { _root_.Go.OpenSpec.ofChange s with cond := some uptoSmall }

/-- 'gunwalelaw02.StampTells', WHERE WHAT IT READS IS OF BULK AT MOST 1048576: true; the input reads as it did. -/
def stampTellsUptoRow : OpenClaim := { program := "ytaiehnjakoeloaa", sum := "8b78acd86def922c4bb4d6fd3ba693e6e98eb3e390a6d6c645d231029c208684", func := "gunwale/gunwalelaw02.StampTells", spec := "stampTells", apart := false, narrowed := true }
def StampTellsUptoSaid : Prop := stampTellsUptoRow.holds Try.pinned (OpenSpec.upto stampTellsSpec)

/-- 'gunwalelaw02.StampBack', WHERE WHAT IT READS IS OF BULK AT MOST 1048576: true; the input reads as it did. -/
def stampBackUptoRow : OpenClaim := { program := "ytaiehnjakoeloaa", sum := "8b78acd86def922c4bb4d6fd3ba693e6e98eb3e390a6d6c645d231029c208684", func := "gunwale/gunwalelaw02.StampBack", spec := "stampBack", apart := false, narrowed := true }
def StampBackUptoSaid : Prop := stampBackUptoRow.holds Try.pinned (OpenSpec.upto stampBackSpec)

/-- 'gunwalelaw02.StampOrder', WHERE WHAT IT READS IS OF BULK AT MOST 1048576: true; the input reads as it did. -/
def stampOrderUptoRow : OpenClaim := { program := "ytaiehnjakoeloaa", sum := "8b78acd86def922c4bb4d6fd3ba693e6e98eb3e390a6d6c645d231029c208684", func := "gunwale/gunwalelaw02.StampOrder", spec := "stampOrder", apart := false, narrowed := true }
def StampOrderUptoSaid : Prop := stampOrderUptoRow.holds Try.pinned (OpenSpec.upto stampOrderSpec)

/-- 'gunwalelaw02.StampNext', WHERE WHAT IT READS IS OF BULK AT MOST 1048576: true; the input reads as it did. -/
def stampNextUptoRow : OpenClaim := { program := "ytaiehnjakoeloaa", sum := "8b78acd86def922c4bb4d6fd3ba693e6e98eb3e390a6d6c645d231029c208684", func := "gunwale/gunwalelaw02.StampNext", spec := "stampNext", apart := false, narrowed := true }
def StampNextUptoSaid : Prop := stampNextUptoRow.holds Try.pinned (OpenSpec.upto stampNextSpec)

/-- 'gunwalelaw02.StampSeen', WHERE WHAT IT READS IS OF BULK AT MOST 1048576: true; the input reads as it did. -/
def stampSeenUptoRow : OpenClaim := { program := "ytaiehnjakoeloaa", sum := "8b78acd86def922c4bb4d6fd3ba693e6e98eb3e390a6d6c645d231029c208684", func := "gunwale/gunwalelaw02.StampSeen", spec := "stampSeen", apart := false, narrowed := true }
def StampSeenUptoSaid : Prop := stampSeenUptoRow.holds Try.pinned (OpenSpec.upto stampSeenSpec)

/-- 'gunwalelaw02.StampApart', WHERE WHAT IT READS IS OF BULK AT MOST 1048576: true; the input reads as it did. -/
def stampApartUptoRow : OpenClaim := { program := "ytaiehnjakoeloaa", sum := "8b78acd86def922c4bb4d6fd3ba693e6e98eb3e390a6d6c645d231029c208684", func := "gunwale/gunwalelaw02.StampApart", spec := "stampApart", apart := false, narrowed := true }
def StampApartUptoSaid : Prop := stampApartUptoRow.holds Try.pinned (OpenSpec.upto stampApartSpec)

end Rows
end Go.Proofs.Ytaiehnjakoeloaa

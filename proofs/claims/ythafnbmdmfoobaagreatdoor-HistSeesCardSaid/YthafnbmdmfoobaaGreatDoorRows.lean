/-
  NARROWER THAN 'FOR EVERY INPUT', by the rows' own cells (each row's printed sentence says how): HistTrue: laid · HistSees: laid · HistReal: laid · HistOf: laid · HistParts: laid.
  DERIVED. THE GIVEN ROWS OF THIS SEAT. 5 by the template 'for every input the law returns true; each argument reads behind the call as it read before'; 0 by the template 'total and deterministic' (their statements: YthafnbmdmfoobaaGreatDoorTotals.lean).
  GIVEN WITH THE SEED: the statements are not yours to turn. If you find one false, say at which input.
  Laid BY PROGRAM, IN A SANDBOX (cutbox-rows.mjs): the forced cells as the released guide's own fill.sh prints them over the translation d28b0651e99d73ab… (all of the seat's roots in one cut). By AI agents, Wed Nov 11 2026. No macro, syntax, notation, axiom, sorry.
-/
import Derived.Test.YthafnbmdmfoobaaGreatDoorChecked
import GoSem.PinnedTables
import GoSem.Claim
import GoSem.ClaimJoined
import GoSem.ClaimMapViews
import Derived.JoinedTies
import Derived.KernelRfl
namespace Go.Proofs.YthafnbmdmfoobaaGreatDoor
/- THE CELL 'sum', in the pinned program and in every row, IS THE sha256 OF THE DUMP (.gsa) THAT YthafnbmdmfoobaaGreatDoorProg.lean LOADS. Nothing in Lean hashes anything: it is a label: what it is worth is what the hold of that sum in a sandbox is worth. -/
noncomputable def Tryz.pinned : Pinned := { name := "ythafnbmdmfoobaagreatdoor", sum := "d28b0651e99d73ab4d8b858d19876bebca1cb9bee4399c5ddb4136e99db98afc", checked := Tryz.checked }
namespace Rows
def none {H : Type} : Left H := { results := [], args := [] }

/- WHAT THE LISTED PACKAGE-LEVEL VARIABLES READ AS WHEN THE CALL BEGINS. Each datum BY PROGRAM (the guide's laid-datum.mjs) off the statement by which the dump's own 'gosem.cut.vars' lays the variable. In a bare row this is a premise. The card (YthafnbmdmfoobaaGreatDoorCards.lean) ties it to the program's text. -/
def laid_unicode_utf8_acceptRanges {H : Type} : DataW H := .agg [.agg [.lit (.int .u8 128), .lit (.int .u8 191)], .agg [.lit (.int .u8 160), .lit (.int .u8 191)], .agg [.lit (.int .u8 128), .lit (.int .u8 159)], .agg [.lit (.int .u8 144), .lit (.int .u8 191)], .agg [.lit (.int .u8 128), .lit (.int .u8 143)], .agg [.lit (.int .u8 0), .lit (.int .u8 0)], .agg [.lit (.int .u8 0), .lit (.int .u8 0)], .agg [.lit (.int .u8 0), .lit (.int .u8 0)], .agg [.lit (.int .u8 0), .lit (.int .u8 0)], .agg [.lit (.int .u8 0), .lit (.int .u8 0)], .agg [.lit (.int .u8 0), .lit (.int .u8 0)], .agg [.lit (.int .u8 0), .lit (.int .u8 0)], .agg [.lit (.int .u8 0), .lit (.int .u8 0)], .agg [.lit (.int .u8 0), .lit (.int .u8 0)], .agg [.lit (.int .u8 0), .lit (.int .u8 0)], .agg [.lit (.int .u8 0), .lit (.int .u8 0)]]
/-- One of Go's own tables, pinned by name: the form's constant. -/
def laid_unicode_utf8_first : DataW Unit := Go.Pinned.utf8First

/-- 'gunwalelaw22.HistTrue': WHATEVER THE INPUT: true; the input reads as it did. -/
def histTrueSpec : ChangeSpec := { name := "histTrue", fn := fun _ => fun
  | [d] => { results := [.lit (.bool true)], args := [d] }
  | _ => none }
def histTrueRow : OpenClaim := { program := "ythafnbmdmfoobaagreatdoor", sum := "d28b0651e99d73ab4d8b858d19876bebca1cb9bee4399c5ddb4136e99db98afc", func := "gunwale/gunwalelaw22.HistTrue", spec := "histTrue", inPlace := ["internal/bytealg.CountString", "internal/bytealg.IndexByteString", "internal/bytealg.IndexString"], unfollowed := true, recurses := true, named := ["unicode/utf8.first", "unicode/utf8.acceptRanges", "internal/bytealg.MaxLen"], apart := false, laid := [("unicode/utf8.acceptRanges", laid_unicode_utf8_acceptRanges), ("unicode/utf8.first", laid_unicode_utf8_first)] }
def HistTrueSaid : Prop := histTrueRow.holds Tryz.pinned (OpenSpec.ofChange histTrueSpec)

/-- ITS FALSE NEIGHBOUR: 'it returns false'. Refute it at one input. -/
def histTrueWrong : ChangeSpec := { name := "histTrue", fn := fun _ => fun
  | [d] => { results := [.lit (.bool false)], args := [d] }
  | _ => none }
def HistTrueWrongFalsely : Prop := histTrueRow.holds Tryz.pinned (OpenSpec.ofChange histTrueWrong)

/-- 'gunwalelaw22.HistSees': WHATEVER THE INPUT: true; the input reads as it did. -/
def histSeesSpec : ChangeSpec := { name := "histSees", fn := fun _ => fun
  | [d1, d2, d3] => { results := [.lit (.bool true)], args := [d1, d2, d3] }
  | _ => none }
def histSeesRow : OpenClaim := { program := "ythafnbmdmfoobaagreatdoor", sum := "d28b0651e99d73ab4d8b858d19876bebca1cb9bee4399c5ddb4136e99db98afc", func := "gunwale/gunwalelaw22.HistSees", spec := "histSees", inPlace := ["internal/bytealg.CountString", "internal/bytealg.IndexByteString", "internal/bytealg.IndexString"], unfollowed := true, recurses := true, named := ["unicode/utf8.first", "unicode/utf8.acceptRanges", "internal/bytealg.MaxLen"], apart := false, laid := [("unicode/utf8.acceptRanges", laid_unicode_utf8_acceptRanges), ("unicode/utf8.first", laid_unicode_utf8_first)] }
def HistSeesSaid : Prop := histSeesRow.holds Tryz.pinned (OpenSpec.ofChange histSeesSpec)

/-- ITS FALSE NEIGHBOUR: 'it returns false'. Refute it at one input. -/
def histSeesWrong : ChangeSpec := { name := "histSees", fn := fun _ => fun
  | [d1, d2, d3] => { results := [.lit (.bool false)], args := [d1, d2, d3] }
  | _ => none }
def HistSeesWrongFalsely : Prop := histSeesRow.holds Tryz.pinned (OpenSpec.ofChange histSeesWrong)

/-- 'gunwalelaw22.HistReal': WHATEVER THE INPUT: true; the input reads as it did. -/
def histRealSpec : ChangeSpec := { name := "histReal", fn := fun _ => fun
  | [d] => { results := [.lit (.bool true)], args := [d] }
  | _ => none }
def histRealRow : OpenClaim := { program := "ythafnbmdmfoobaagreatdoor", sum := "d28b0651e99d73ab4d8b858d19876bebca1cb9bee4399c5ddb4136e99db98afc", func := "gunwale/gunwalelaw22.HistReal", spec := "histReal", inPlace := ["internal/bytealg.CountString", "internal/bytealg.IndexByteString", "internal/bytealg.IndexString"], unfollowed := true, recurses := true, named := ["unicode/utf8.first", "unicode/utf8.acceptRanges", "internal/bytealg.MaxLen"], apart := false, laid := [("unicode/utf8.acceptRanges", laid_unicode_utf8_acceptRanges), ("unicode/utf8.first", laid_unicode_utf8_first)] }
def HistRealSaid : Prop := histRealRow.holds Tryz.pinned (OpenSpec.ofChange histRealSpec)

/-- ITS FALSE NEIGHBOUR: 'it returns false'. Refute it at one input. -/
def histRealWrong : ChangeSpec := { name := "histReal", fn := fun _ => fun
  | [d] => { results := [.lit (.bool false)], args := [d] }
  | _ => none }
def HistRealWrongFalsely : Prop := histRealRow.holds Tryz.pinned (OpenSpec.ofChange histRealWrong)

/-- 'gunwalelaw22.HistOf': WHATEVER THE INPUT: true; the input reads as it did. -/
def histOfSpec : ChangeSpec := { name := "histOf", fn := fun _ => fun
  | [d] => { results := [.lit (.bool true)], args := [d] }
  | _ => none }
def histOfRow : OpenClaim := { program := "ythafnbmdmfoobaagreatdoor", sum := "d28b0651e99d73ab4d8b858d19876bebca1cb9bee4399c5ddb4136e99db98afc", func := "gunwale/gunwalelaw22.HistOf", spec := "histOf", inPlace := ["internal/bytealg.CountString", "internal/bytealg.IndexByteString", "internal/bytealg.IndexString"], unfollowed := true, recurses := true, named := ["unicode/utf8.first", "unicode/utf8.acceptRanges", "internal/bytealg.MaxLen"], apart := false, laid := [("unicode/utf8.acceptRanges", laid_unicode_utf8_acceptRanges), ("unicode/utf8.first", laid_unicode_utf8_first)] }
def HistOfSaid : Prop := histOfRow.holds Tryz.pinned (OpenSpec.ofChange histOfSpec)

/-- ITS FALSE NEIGHBOUR: 'it returns false'. Refute it at one input. -/
def histOfWrong : ChangeSpec := { name := "histOf", fn := fun _ => fun
  | [d] => { results := [.lit (.bool false)], args := [d] }
  | _ => none }
def HistOfWrongFalsely : Prop := histOfRow.holds Tryz.pinned (OpenSpec.ofChange histOfWrong)

/-- 'gunwalelaw22.HistParts': WHATEVER THE INPUT: true; the input reads as it did. -/
def histPartsSpec : ChangeSpec := { name := "histParts", fn := fun _ => fun
  | [d1, d2, d3] => { results := [.lit (.bool true)], args := [d1, d2, d3] }
  | _ => none }
def histPartsRow : OpenClaim := { program := "ythafnbmdmfoobaagreatdoor", sum := "d28b0651e99d73ab4d8b858d19876bebca1cb9bee4399c5ddb4136e99db98afc", func := "gunwale/gunwalelaw22.HistParts", spec := "histParts", inPlace := ["internal/bytealg.CountString", "internal/bytealg.IndexByteString", "internal/bytealg.IndexString"], unfollowed := true, recurses := true, named := ["unicode/utf8.first", "unicode/utf8.acceptRanges", "internal/bytealg.MaxLen"], apart := false, laid := [("unicode/utf8.acceptRanges", laid_unicode_utf8_acceptRanges), ("unicode/utf8.first", laid_unicode_utf8_first)] }
def HistPartsSaid : Prop := histPartsRow.holds Tryz.pinned (OpenSpec.ofChange histPartsSpec)

/-- ITS FALSE NEIGHBOUR: 'it returns false'. Refute it at one input. -/
def histPartsWrong : ChangeSpec := { name := "histParts", fn := fun _ => fun
  | [d1, d2, d3] => { results := [.lit (.bool false)], args := [d1, d2, d3] }
  | _ => none }
def HistPartsWrongFalsely : Prop := histPartsRow.holds Tryz.pinned (OpenSpec.ofChange histPartsWrong)

/- THE SECOND FORM. 'bulk': how many values and letters a reading holds, each counted each time it is reached (what is shared counts as often as it is met; a slice's spare places count too). A statement '..UptoSaid' is the law's where the arguments, and the package variables that the reading takes, are together of bulk at most 1048576: NARROWER than '..Said'. Prove '..Said' where nothing that the law and all that it calls make is longer than what came in: it says more and counts as full. Else prove '..UptoSaid'. A law counts once. -/
mutual
def uptoBulk {H : Type} : DataW H → Nat
  | .lit (.string bytes) => bytes.length + 1
  | .lit _ => 1
  | .nil => 1
  | .ptr d => uptoBulk d + 1
  | .slice elems spare => uptoBulkAll elems + uptoBulkAll spare + 1
  | .agg parts => uptoBulkAll parts + 1
  | .iface _ d => uptoBulk d + 1
  | .map entries => uptoBulkEntries entries + 1
  | .held _ => 1
def uptoBulkAll {H : Type} : List (DataW H) → Nat
  | [] => 0
  | d :: r => uptoBulk d + uptoBulkAll r
def uptoBulkEntries {H : Type} : List (Lit × DataW H) → Nat
  | [] => 0
  | x :: r => uptoBulkEntry x + uptoBulkEntries r
def uptoBulkEntry {H : Type} : Lit × DataW H → Nat
  | (.string bytes, d) => bytes.length + uptoBulk d + 1
  | (_, d) => uptoBulk d + 1
 end
def uptoSmall : (H : Type) → List (DataW H) → Bool := fun _ ds => decide (uptoBulkAll ds ≤ 1048576)
def OpenSpec.upto (s : _root_.Go.ChangeSpec) : _root_.Go.OpenSpec := { _root_.Go.OpenSpec.ofChange s with cond := some uptoSmall }

/-- 'gunwalelaw22.HistTrue', WHERE WHAT IT READS IS OF BULK AT MOST 1048576: true; the input reads as it did. -/
def histTrueUptoRow : OpenClaim := { program := "ythafnbmdmfoobaagreatdoor", sum := "d28b0651e99d73ab4d8b858d19876bebca1cb9bee4399c5ddb4136e99db98afc", func := "gunwale/gunwalelaw22.HistTrue", spec := "histTrue", inPlace := ["internal/bytealg.CountString", "internal/bytealg.IndexByteString", "internal/bytealg.IndexString"], unfollowed := true, recurses := true, named := ["unicode/utf8.first", "unicode/utf8.acceptRanges", "internal/bytealg.MaxLen"], apart := false, laid := [("unicode/utf8.acceptRanges", laid_unicode_utf8_acceptRanges), ("unicode/utf8.first", laid_unicode_utf8_first)], narrowed := true }
def HistTrueUptoSaid : Prop := histTrueUptoRow.holds Tryz.pinned (OpenSpec.upto histTrueSpec)

/-- 'gunwalelaw22.HistSees', WHERE WHAT IT READS IS OF BULK AT MOST 1048576: true; the input reads as it did. -/
def histSeesUptoRow : OpenClaim := { program := "ythafnbmdmfoobaagreatdoor", sum := "d28b0651e99d73ab4d8b858d19876bebca1cb9bee4399c5ddb4136e99db98afc", func := "gunwale/gunwalelaw22.HistSees", spec := "histSees", inPlace := ["internal/bytealg.CountString", "internal/bytealg.IndexByteString", "internal/bytealg.IndexString"], unfollowed := true, recurses := true, named := ["unicode/utf8.first", "unicode/utf8.acceptRanges", "internal/bytealg.MaxLen"], apart := false, laid := [("unicode/utf8.acceptRanges", laid_unicode_utf8_acceptRanges), ("unicode/utf8.first", laid_unicode_utf8_first)], narrowed := true }
def HistSeesUptoSaid : Prop := histSeesUptoRow.holds Tryz.pinned (OpenSpec.upto histSeesSpec)

/-- 'gunwalelaw22.HistReal', WHERE WHAT IT READS IS OF BULK AT MOST 1048576: true; the input reads as it did. -/
def histRealUptoRow : OpenClaim := { program := "ythafnbmdmfoobaagreatdoor", sum := "d28b0651e99d73ab4d8b858d19876bebca1cb9bee4399c5ddb4136e99db98afc", func := "gunwale/gunwalelaw22.HistReal", spec := "histReal", inPlace := ["internal/bytealg.CountString", "internal/bytealg.IndexByteString", "internal/bytealg.IndexString"], unfollowed := true, recurses := true, named := ["unicode/utf8.first", "unicode/utf8.acceptRanges", "internal/bytealg.MaxLen"], apart := false, laid := [("unicode/utf8.acceptRanges", laid_unicode_utf8_acceptRanges), ("unicode/utf8.first", laid_unicode_utf8_first)], narrowed := true }
def HistRealUptoSaid : Prop := histRealUptoRow.holds Tryz.pinned (OpenSpec.upto histRealSpec)

/-- 'gunwalelaw22.HistOf', WHERE WHAT IT READS IS OF BULK AT MOST 1048576: true; the input reads as it did. -/
def histOfUptoRow : OpenClaim := { program := "ythafnbmdmfoobaagreatdoor", sum := "d28b0651e99d73ab4d8b858d19876bebca1cb9bee4399c5ddb4136e99db98afc", func := "gunwale/gunwalelaw22.HistOf", spec := "histOf", inPlace := ["internal/bytealg.CountString", "internal/bytealg.IndexByteString", "internal/bytealg.IndexString"], unfollowed := true, recurses := true, named := ["unicode/utf8.first", "unicode/utf8.acceptRanges", "internal/bytealg.MaxLen"], apart := false, laid := [("unicode/utf8.acceptRanges", laid_unicode_utf8_acceptRanges), ("unicode/utf8.first", laid_unicode_utf8_first)], narrowed := true }
def HistOfUptoSaid : Prop := histOfUptoRow.holds Tryz.pinned (OpenSpec.upto histOfSpec)

/-- 'gunwalelaw22.HistParts', WHERE WHAT IT READS IS OF BULK AT MOST 1048576: true; the input reads as it did. -/
def histPartsUptoRow : OpenClaim := { program := "ythafnbmdmfoobaagreatdoor", sum := "d28b0651e99d73ab4d8b858d19876bebca1cb9bee4399c5ddb4136e99db98afc", func := "gunwale/gunwalelaw22.HistParts", spec := "histParts", inPlace := ["internal/bytealg.CountString", "internal/bytealg.IndexByteString", "internal/bytealg.IndexString"], unfollowed := true, recurses := true, named := ["unicode/utf8.first", "unicode/utf8.acceptRanges", "internal/bytealg.MaxLen"], apart := false, laid := [("unicode/utf8.acceptRanges", laid_unicode_utf8_acceptRanges), ("unicode/utf8.first", laid_unicode_utf8_first)], narrowed := true }
def HistPartsUptoSaid : Prop := histPartsUptoRow.holds Tryz.pinned (OpenSpec.upto histPartsSpec)

end Rows
end Go.Proofs.YthafnbmdmfoobaaGreatDoor

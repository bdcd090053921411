/-
  NARROWER THAN 'FOR EVERY INPUT', by the rows' own cells (each row's printed sentence says how): ModelErrors: laid · ModelSnaps: laid · ModelWatches: laid · ModelWrites: laid · ModelNew: laid · ModelTells: laid · ModelOps: laid · ModelMeets: laid.
  DERIVED. THE GIVEN ROWS OF THIS SEAT. 8 by the template 'for every input the law returns true; each argument reads behind the call as it read before'; 0 by the template 'total and deterministic' (their statements: YthhdnjiodklmmaaGreatDoorTotals.lean).
  GIVEN WITH THE SEED: the statements are not yours to turn. If you find one false, say at which input.
  Laid BY PROGRAM, IN A SANDBOX (cutbox-rows.mjs): the forced cells as the released guide's own fill.sh prints them over the translation 243dc02ee7247641… (all of the seat's roots in one cut). By AI agents, Wed Nov 11 2026. No macro, syntax, notation, axiom, sorry.
-/
import Derived.Test.YthhdnjiodklmmaaGreatDoorChecked
import GoSem.PinnedTables
import GoSem.Claim
import GoSem.ClaimJoined
import GoSem.ClaimMapViews
import Derived.JoinedTies
import Derived.KernelRfl
namespace Go.Proofs.YthhdnjiodklmmaaGreatDoor
/- THE CELL 'sum', in the pinned program and in every row, IS THE sha256 OF THE DUMP (.gsa) THAT YthhdnjiodklmmaaGreatDoorProg.lean LOADS. Nothing in Lean hashes anything: it is a label: what it is worth is what the hold of that sum in a sandbox is worth. -/
noncomputable def Tryz.pinned : Pinned := { name := "ythhdnjiodklmmaagreatdoor", sum := "243dc02ee7247641bca3a25373e59e423e62a26244eae8ea27b2d2d7ecd4e876", checked := Tryz.checked }
namespace Rows
def none {H : Type} : Left H := { results := [], args := [] }

/- WHAT THE LISTED PACKAGE-LEVEL VARIABLES READ AS WHEN THE CALL BEGINS. Each datum BY PROGRAM (the guide's laid-datum.mjs) off the statement by which the dump's own 'gosem.cut.vars' lays the variable. In a bare row this is a premise. The card (YthhdnjiodklmmaaGreatDoorCards.lean) ties it to the program's text. -/
def laid_unicode_utf8_acceptRanges {H : Type} : DataW H := .agg [.agg [.lit (.int .u8 128), .lit (.int .u8 191)], .agg [.lit (.int .u8 160), .lit (.int .u8 191)], .agg [.lit (.int .u8 128), .lit (.int .u8 159)], .agg [.lit (.int .u8 144), .lit (.int .u8 191)], .agg [.lit (.int .u8 128), .lit (.int .u8 143)], .agg [.lit (.int .u8 0), .lit (.int .u8 0)], .agg [.lit (.int .u8 0), .lit (.int .u8 0)], .agg [.lit (.int .u8 0), .lit (.int .u8 0)], .agg [.lit (.int .u8 0), .lit (.int .u8 0)], .agg [.lit (.int .u8 0), .lit (.int .u8 0)], .agg [.lit (.int .u8 0), .lit (.int .u8 0)], .agg [.lit (.int .u8 0), .lit (.int .u8 0)], .agg [.lit (.int .u8 0), .lit (.int .u8 0)], .agg [.lit (.int .u8 0), .lit (.int .u8 0)], .agg [.lit (.int .u8 0), .lit (.int .u8 0)], .agg [.lit (.int .u8 0), .lit (.int .u8 0)]]
/-- One of Go's own tables, pinned by name: the form's constant. -/
def laid_unicode_utf8_first : DataW Unit := Go.Pinned.utf8First

/-- 'gunwalelaw19.ModelErrors': WHATEVER THE INPUT: true; the input reads as it did. -/
def modelErrorsSpec : ChangeSpec := { name := "modelErrors", fn := fun _ => fun
  | [d1, d2] => { results := [.lit (.bool true)], args := [d1, d2] }
  | _ => none }
def modelErrorsRow : OpenClaim := { program := "ythhdnjiodklmmaagreatdoor", sum := "243dc02ee7247641bca3a25373e59e423e62a26244eae8ea27b2d2d7ecd4e876", func := "gunwale/gunwalelaw19.ModelErrors", spec := "modelErrors", inPlace := ["internal/bytealg.CountString", "internal/bytealg.IndexByteString", "internal/bytealg.IndexString"], unfollowed := true, recurses := true, named := ["unicode/utf8.first", "unicode/utf8.acceptRanges", "internal/bytealg.MaxLen"], apart := false, laid := [("unicode/utf8.acceptRanges", laid_unicode_utf8_acceptRanges), ("unicode/utf8.first", laid_unicode_utf8_first)] }
def ModelErrorsSaid : Prop := modelErrorsRow.holds Tryz.pinned (OpenSpec.ofChange modelErrorsSpec)

/-- ITS FALSE NEIGHBOUR: 'it returns false'. Refute it at one input. -/
def modelErrorsWrong : ChangeSpec := { name := "modelErrors", fn := fun _ => fun
  | [d1, d2] => { results := [.lit (.bool false)], args := [d1, d2] }
  | _ => none }
def ModelErrorsWrongFalsely : Prop := modelErrorsRow.holds Tryz.pinned (OpenSpec.ofChange modelErrorsWrong)

/-- 'gunwalelaw19.ModelSnaps': WHATEVER THE INPUT: true; the input reads as it did. -/
def modelSnapsSpec : ChangeSpec := { name := "modelSnaps", fn := fun _ => fun
  | [d1, d2, d3, d4] => { results := [.lit (.bool true)], args := [d1, d2, d3, d4] }
  | _ => none }
def modelSnapsRow : OpenClaim := { program := "ythhdnjiodklmmaagreatdoor", sum := "243dc02ee7247641bca3a25373e59e423e62a26244eae8ea27b2d2d7ecd4e876", func := "gunwale/gunwalelaw19.ModelSnaps", spec := "modelSnaps", inPlace := ["internal/bytealg.CountString", "internal/bytealg.IndexByteString", "internal/bytealg.IndexString"], unfollowed := true, recurses := true, named := ["unicode/utf8.first", "unicode/utf8.acceptRanges", "internal/bytealg.MaxLen"], apart := false, laid := [("unicode/utf8.acceptRanges", laid_unicode_utf8_acceptRanges), ("unicode/utf8.first", laid_unicode_utf8_first)] }
def ModelSnapsSaid : Prop := modelSnapsRow.holds Tryz.pinned (OpenSpec.ofChange modelSnapsSpec)

/-- ITS FALSE NEIGHBOUR: 'it returns false'. Refute it at one input. -/
def modelSnapsWrong : ChangeSpec := { name := "modelSnaps", fn := fun _ => fun
  | [d1, d2, d3, d4] => { results := [.lit (.bool false)], args := [d1, d2, d3, d4] }
  | _ => none }
def ModelSnapsWrongFalsely : Prop := modelSnapsRow.holds Tryz.pinned (OpenSpec.ofChange modelSnapsWrong)

/-- 'gunwalelaw19.ModelWatches': WHATEVER THE INPUT: true; the input reads as it did. -/
def modelWatchesSpec : ChangeSpec := { name := "modelWatches", fn := fun _ => fun
  | [d1, d2, d3] => { results := [.lit (.bool true)], args := [d1, d2, d3] }
  | _ => none }
def modelWatchesRow : OpenClaim := { program := "ythhdnjiodklmmaagreatdoor", sum := "243dc02ee7247641bca3a25373e59e423e62a26244eae8ea27b2d2d7ecd4e876", func := "gunwale/gunwalelaw19.ModelWatches", spec := "modelWatches", inPlace := ["internal/bytealg.CountString", "internal/bytealg.IndexByteString", "internal/bytealg.IndexString"], unfollowed := true, recurses := true, named := ["unicode/utf8.first", "unicode/utf8.acceptRanges", "internal/bytealg.MaxLen"], apart := false, laid := [("unicode/utf8.acceptRanges", laid_unicode_utf8_acceptRanges), ("unicode/utf8.first", laid_unicode_utf8_first)] }
def ModelWatchesSaid : Prop := modelWatchesRow.holds Tryz.pinned (OpenSpec.ofChange modelWatchesSpec)

/-- ITS FALSE NEIGHBOUR: 'it returns false'. Refute it at one input. -/
def modelWatchesWrong : ChangeSpec := { name := "modelWatches", fn := fun _ => fun
  | [d1, d2, d3] => { results := [.lit (.bool false)], args := [d1, d2, d3] }
  | _ => none }
def ModelWatchesWrongFalsely : Prop := modelWatchesRow.holds Tryz.pinned (OpenSpec.ofChange modelWatchesWrong)

/-- 'gunwalelaw19.ModelWrites': WHATEVER THE INPUT: true; the input reads as it did. -/
def modelWritesSpec : ChangeSpec := { name := "modelWrites", fn := fun _ => fun
  | [d1, d2, d3] => { results := [.lit (.bool true)], args := [d1, d2, d3] }
  | _ => none }
def modelWritesRow : OpenClaim := { program := "ythhdnjiodklmmaagreatdoor", sum := "243dc02ee7247641bca3a25373e59e423e62a26244eae8ea27b2d2d7ecd4e876", func := "gunwale/gunwalelaw19.ModelWrites", spec := "modelWrites", inPlace := ["internal/bytealg.CountString", "internal/bytealg.IndexByteString", "internal/bytealg.IndexString"], unfollowed := true, recurses := true, named := ["unicode/utf8.first", "unicode/utf8.acceptRanges", "internal/bytealg.MaxLen"], apart := false, laid := [("unicode/utf8.acceptRanges", laid_unicode_utf8_acceptRanges), ("unicode/utf8.first", laid_unicode_utf8_first)] }
def ModelWritesSaid : Prop := modelWritesRow.holds Tryz.pinned (OpenSpec.ofChange modelWritesSpec)

/-- ITS FALSE NEIGHBOUR: 'it returns false'. Refute it at one input. -/
def modelWritesWrong : ChangeSpec := { name := "modelWrites", fn := fun _ => fun
  | [d1, d2, d3] => { results := [.lit (.bool false)], args := [d1, d2, d3] }
  | _ => none }
def ModelWritesWrongFalsely : Prop := modelWritesRow.holds Tryz.pinned (OpenSpec.ofChange modelWritesWrong)

/-- 'gunwalelaw19.ModelNew': WHATEVER THE INPUT: true; the input reads as it did. -/
def modelNewSpec : ChangeSpec := { name := "modelNew", fn := fun _ => fun
  | [d1, d2, d3] => { results := [.lit (.bool true)], args := [d1, d2, d3] }
  | _ => none }
def modelNewRow : OpenClaim := { program := "ythhdnjiodklmmaagreatdoor", sum := "243dc02ee7247641bca3a25373e59e423e62a26244eae8ea27b2d2d7ecd4e876", func := "gunwale/gunwalelaw19.ModelNew", spec := "modelNew", inPlace := ["internal/bytealg.CountString", "internal/bytealg.IndexByteString", "internal/bytealg.IndexString"], unfollowed := true, recurses := true, named := ["unicode/utf8.first", "unicode/utf8.acceptRanges", "internal/bytealg.MaxLen"], apart := false, laid := [("unicode/utf8.acceptRanges", laid_unicode_utf8_acceptRanges), ("unicode/utf8.first", laid_unicode_utf8_first)] }
def ModelNewSaid : Prop := modelNewRow.holds Tryz.pinned (OpenSpec.ofChange modelNewSpec)

/-- ITS FALSE NEIGHBOUR: 'it returns false'. Refute it at one input. -/
def modelNewWrong : ChangeSpec := { name := "modelNew", fn := fun _ => fun
  | [d1, d2, d3] => { results := [.lit (.bool false)], args := [d1, d2, d3] }
  | _ => none }
def ModelNewWrongFalsely : Prop := modelNewRow.holds Tryz.pinned (OpenSpec.ofChange modelNewWrong)

/-- 'gunwalelaw19.ModelTells': WHATEVER THE INPUT: true; the input reads as it did. -/
def modelTellsSpec : ChangeSpec := { name := "modelTells", fn := fun _ => fun
  | [d1, d2, d3] => { results := [.lit (.bool true)], args := [d1, d2, d3] }
  | _ => none }
def modelTellsRow : OpenClaim := { program := "ythhdnjiodklmmaagreatdoor", sum := "243dc02ee7247641bca3a25373e59e423e62a26244eae8ea27b2d2d7ecd4e876", func := "gunwale/gunwalelaw19.ModelTells", spec := "modelTells", inPlace := ["internal/bytealg.CountString", "internal/bytealg.IndexByteString", "internal/bytealg.IndexString"], unfollowed := true, recurses := true, named := ["unicode/utf8.first", "unicode/utf8.acceptRanges", "internal/bytealg.MaxLen"], apart := false, laid := [("unicode/utf8.acceptRanges", laid_unicode_utf8_acceptRanges), ("unicode/utf8.first", laid_unicode_utf8_first)] }
def ModelTellsSaid : Prop := modelTellsRow.holds Tryz.pinned (OpenSpec.ofChange modelTellsSpec)

/-- ITS FALSE NEIGHBOUR: 'it returns false'. Refute it at one input. -/
def modelTellsWrong : ChangeSpec := { name := "modelTells", fn := fun _ => fun
  | [d1, d2, d3] => { results := [.lit (.bool false)], args := [d1, d2, d3] }
  | _ => none }
def ModelTellsWrongFalsely : Prop := modelTellsRow.holds Tryz.pinned (OpenSpec.ofChange modelTellsWrong)

/-- 'gunwalelaw19.ModelOps': WHATEVER THE INPUT: true; the input reads as it did. -/
def modelOpsSpec : ChangeSpec := { name := "modelOps", fn := fun _ => fun
  | [d1, d2, d3] => { results := [.lit (.bool true)], args := [d1, d2, d3] }
  | _ => none }
def modelOpsRow : OpenClaim := { program := "ythhdnjiodklmmaagreatdoor", sum := "243dc02ee7247641bca3a25373e59e423e62a26244eae8ea27b2d2d7ecd4e876", func := "gunwale/gunwalelaw19.ModelOps", spec := "modelOps", inPlace := ["internal/bytealg.CountString", "internal/bytealg.IndexByteString", "internal/bytealg.IndexString"], unfollowed := true, recurses := true, named := ["unicode/utf8.first", "unicode/utf8.acceptRanges", "internal/bytealg.MaxLen"], apart := false, laid := [("unicode/utf8.acceptRanges", laid_unicode_utf8_acceptRanges), ("unicode/utf8.first", laid_unicode_utf8_first)] }
def ModelOpsSaid : Prop := modelOpsRow.holds Tryz.pinned (OpenSpec.ofChange modelOpsSpec)

/-- ITS FALSE NEIGHBOUR: 'it returns false'. Refute it at one input. -/
def modelOpsWrong : ChangeSpec := { name := "modelOps", fn := fun _ => fun
  | [d1, d2, d3] => { results := [.lit (.bool false)], args := [d1, d2, d3] }
  | _ => none }
def ModelOpsWrongFalsely : Prop := modelOpsRow.holds Tryz.pinned (OpenSpec.ofChange modelOpsWrong)

/-- 'gunwalelaw19.ModelMeets': WHATEVER THE INPUT: true; the input reads as it did. -/
def modelMeetsSpec : ChangeSpec := { name := "modelMeets", fn := fun _ => fun
  | [d1, d2] => { results := [.lit (.bool true)], args := [d1, d2] }
  | _ => none }
def modelMeetsRow : OpenClaim := { program := "ythhdnjiodklmmaagreatdoor", sum := "243dc02ee7247641bca3a25373e59e423e62a26244eae8ea27b2d2d7ecd4e876", func := "gunwale/gunwalelaw19.ModelMeets", spec := "modelMeets", inPlace := ["internal/bytealg.CountString", "internal/bytealg.IndexByteString", "internal/bytealg.IndexString"], unfollowed := true, recurses := true, named := ["unicode/utf8.first", "unicode/utf8.acceptRanges", "internal/bytealg.MaxLen"], apart := false, laid := [("unicode/utf8.acceptRanges", laid_unicode_utf8_acceptRanges), ("unicode/utf8.first", laid_unicode_utf8_first)] }
def ModelMeetsSaid : Prop := modelMeetsRow.holds Tryz.pinned (OpenSpec.ofChange modelMeetsSpec)

/-- ITS FALSE NEIGHBOUR: 'it returns false'. Refute it at one input. -/
def modelMeetsWrong : ChangeSpec := { name := "modelMeets", fn := fun _ => fun
  | [d1, d2] => { results := [.lit (.bool false)], args := [d1, d2] }
  | _ => none }
def ModelMeetsWrongFalsely : Prop := modelMeetsRow.holds Tryz.pinned (OpenSpec.ofChange modelMeetsWrong)

/- THE SECOND FORM. 'bulk': how many values and letters a reading holds, each counted each time it is reached (what is shared counts as often as it is met; a slice's spare places count too). A statement '..UptoSaid' is the law's where the arguments, and the package variables that the reading takes, are together of bulk at most 1048576: NARROWER than '..Said'. Prove '..Said' where nothing that the law and all that it calls make is longer than what came in: it says more and counts as full. Else prove '..UptoSaid'. A law counts once. -/
mutual
def uptoBulk {H : Type} : DataW H → Nat
  | .lit (.string bytes) => bytes.length + 1
  | .lit _ => 1
  | .nil => 1
  | .ptr d => uptoBulk d + 1
  | .slice elems spare => uptoBulkAll elems + uptoBulkAll spare + 1
  | .agg parts => uptoBulkAll parts + 1
  | .iface _ d => uptoBulk d + 1
  | .map entries => uptoBulkEntries entries + 1
  | .held _ => 1
def uptoBulkAll {H : Type} : List (DataW H) → Nat
  | [] => 0
  | d :: r => uptoBulk d + uptoBulkAll r
def uptoBulkEntries {H : Type} : List (Lit × DataW H) → Nat
  | [] => 0
  | x :: r => uptoBulkEntry x + uptoBulkEntries r
def uptoBulkEntry {H : Type} : Lit × DataW H → Nat
  | (.string bytes, d) => bytes.length + uptoBulk d + 1
  | (_, d) => uptoBulk d + 1
 end
def uptoSmall : (H : Type) → List (DataW H) → Bool := fun _ ds => decide (uptoBulkAll ds ≤ 1048576)
def OpenSpec.upto (s : _root_.Go.ChangeSpec) : _root_.Go.OpenSpec := { _root_.Go.OpenSpec.ofChange s with cond := some uptoSmall }

/-- 'gunwalelaw19.ModelErrors', WHERE WHAT IT READS IS OF BULK AT MOST 1048576: true; the input reads as it did. -/
def modelErrorsUptoRow : OpenClaim := { program := "ythhdnjiodklmmaagreatdoor", sum := "243dc02ee7247641bca3a25373e59e423e62a26244eae8ea27b2d2d7ecd4e876", func := "gunwale/gunwalelaw19.ModelErrors", spec := "modelErrors", inPlace := ["internal/bytealg.CountString", "internal/bytealg.IndexByteString", "internal/bytealg.IndexString"], unfollowed := true, recurses := true, named := ["unicode/utf8.first", "unicode/utf8.acceptRanges", "internal/bytealg.MaxLen"], apart := false, laid := [("unicode/utf8.acceptRanges", laid_unicode_utf8_acceptRanges), ("unicode/utf8.first", laid_unicode_utf8_first)], narrowed := true }
def ModelErrorsUptoSaid : Prop := modelErrorsUptoRow.holds Tryz.pinned (OpenSpec.upto modelErrorsSpec)

/-- 'gunwalelaw19.ModelSnaps', WHERE WHAT IT READS IS OF BULK AT MOST 1048576: true; the input reads as it did. -/
def modelSnapsUptoRow : OpenClaim := { program := "ythhdnjiodklmmaagreatdoor", sum := "243dc02ee7247641bca3a25373e59e423e62a26244eae8ea27b2d2d7ecd4e876", func := "gunwale/gunwalelaw19.ModelSnaps", spec := "modelSnaps", inPlace := ["internal/bytealg.CountString", "internal/bytealg.IndexByteString", "internal/bytealg.IndexString"], unfollowed := true, recurses := true, named := ["unicode/utf8.first", "unicode/utf8.acceptRanges", "internal/bytealg.MaxLen"], apart := false, laid := [("unicode/utf8.acceptRanges", laid_unicode_utf8_acceptRanges), ("unicode/utf8.first", laid_unicode_utf8_first)], narrowed := true }
def ModelSnapsUptoSaid : Prop := modelSnapsUptoRow.holds Tryz.pinned (OpenSpec.upto modelSnapsSpec)

/-- 'gunwalelaw19.ModelWatches', WHERE WHAT IT READS IS OF BULK AT MOST 1048576: true; the input reads as it did. -/
def modelWatchesUptoRow : OpenClaim := { program := "ythhdnjiodklmmaagreatdoor", sum := "243dc02ee7247641bca3a25373e59e423e62a26244eae8ea27b2d2d7ecd4e876", func := "gunwale/gunwalelaw19.ModelWatches", spec := "modelWatches", inPlace := ["internal/bytealg.CountString", "internal/bytealg.IndexByteString", "internal/bytealg.IndexString"], unfollowed := true, recurses := true, named := ["unicode/utf8.first", "unicode/utf8.acceptRanges", "internal/bytealg.MaxLen"], apart := false, laid := [("unicode/utf8.acceptRanges", laid_unicode_utf8_acceptRanges), ("unicode/utf8.first", laid_unicode_utf8_first)], narrowed := true }
def ModelWatchesUptoSaid : Prop := modelWatchesUptoRow.holds Tryz.pinned (OpenSpec.upto modelWatchesSpec)

/-- 'gunwalelaw19.ModelWrites', WHERE WHAT IT READS IS OF BULK AT MOST 1048576: true; the input reads as it did. -/
def modelWritesUptoRow : OpenClaim := { program := "ythhdnjiodklmmaagreatdoor", sum := "243dc02ee7247641bca3a25373e59e423e62a26244eae8ea27b2d2d7ecd4e876", func := "gunwale/gunwalelaw19.ModelWrites", spec := "modelWrites", inPlace := ["internal/bytealg.CountString", "internal/bytealg.IndexByteString", "internal/bytealg.IndexString"], unfollowed := true, recurses := true, named := ["unicode/utf8.first", "unicode/utf8.acceptRanges", "internal/bytealg.MaxLen"], apart := false, laid := [("unicode/utf8.acceptRanges", laid_unicode_utf8_acceptRanges), ("unicode/utf8.first", laid_unicode_utf8_first)], narrowed := true }
def ModelWritesUptoSaid : Prop := modelWritesUptoRow.holds Tryz.pinned (OpenSpec.upto modelWritesSpec)

/-- 'gunwalelaw19.ModelNew', WHERE WHAT IT READS IS OF BULK AT MOST 1048576: true; the input reads as it did. -/
def modelNewUptoRow : OpenClaim := { program := "ythhdnjiodklmmaagreatdoor", sum := "243dc02ee7247641bca3a25373e59e423e62a26244eae8ea27b2d2d7ecd4e876", func := "gunwale/gunwalelaw19.ModelNew", spec := "modelNew", inPlace := ["internal/bytealg.CountString", "internal/bytealg.IndexByteString", "internal/bytealg.IndexString"], unfollowed := true, recurses := true, named := ["unicode/utf8.first", "unicode/utf8.acceptRanges", "internal/bytealg.MaxLen"], apart := false, laid := [("unicode/utf8.acceptRanges", laid_unicode_utf8_acceptRanges), ("unicode/utf8.first", laid_unicode_utf8_first)], narrowed := true }
def ModelNewUptoSaid : Prop := modelNewUptoRow.holds Tryz.pinned (OpenSpec.upto modelNewSpec)

/-- 'gunwalelaw19.ModelTells', WHERE WHAT IT READS IS OF BULK AT MOST 1048576: true; the input reads as it did. -/
def modelTellsUptoRow : OpenClaim := { program := "ythhdnjiodklmmaagreatdoor", sum := "243dc02ee7247641bca3a25373e59e423e62a26244eae8ea27b2d2d7ecd4e876", func := "gunwale/gunwalelaw19.ModelTells", spec := "modelTells", inPlace := ["internal/bytealg.CountString", "internal/bytealg.IndexByteString", "internal/bytealg.IndexString"], unfollowed := true, recurses := true, named := ["unicode/utf8.first", "unicode/utf8.acceptRanges", "internal/bytealg.MaxLen"], apart := false, laid := [("unicode/utf8.acceptRanges", laid_unicode_utf8_acceptRanges), ("unicode/utf8.first", laid_unicode_utf8_first)], narrowed := true }
def ModelTellsUptoSaid : Prop := modelTellsUptoRow.holds Tryz.pinned (OpenSpec.upto modelTellsSpec)

/-- 'gunwalelaw19.ModelOps', WHERE WHAT IT READS IS OF BULK AT MOST 1048576: true; the input reads as it did. -/
def modelOpsUptoRow : OpenClaim := { program := "ythhdnjiodklmmaagreatdoor", sum := "243dc02ee7247641bca3a25373e59e423e62a26244eae8ea27b2d2d7ecd4e876", func := "gunwale/gunwalelaw19.ModelOps", spec := "modelOps", inPlace := ["internal/bytealg.CountString", "internal/bytealg.IndexByteString", "internal/bytealg.IndexString"], unfollowed := true, recurses := true, named := ["unicode/utf8.first", "unicode/utf8.acceptRanges", "internal/bytealg.MaxLen"], apart := false, laid := [("unicode/utf8.acceptRanges", laid_unicode_utf8_acceptRanges), ("unicode/utf8.first", laid_unicode_utf8_first)], narrowed := true }
def ModelOpsUptoSaid : Prop := modelOpsUptoRow.holds Tryz.pinned (OpenSpec.upto modelOpsSpec)

/-- 'gunwalelaw19.ModelMeets', WHERE WHAT IT READS IS OF BULK AT MOST 1048576: true; the input reads as it did. -/
def modelMeetsUptoRow : OpenClaim := { program := "ythhdnjiodklmmaagreatdoor", sum := "243dc02ee7247641bca3a25373e59e423e62a26244eae8ea27b2d2d7ecd4e876", func := "gunwale/gunwalelaw19.ModelMeets", spec := "modelMeets", inPlace := ["internal/bytealg.CountString", "internal/bytealg.IndexByteString", "internal/bytealg.IndexString"], unfollowed := true, recurses := true, named := ["unicode/utf8.first", "unicode/utf8.acceptRanges", "internal/bytealg.MaxLen"], apart := false, laid := [("unicode/utf8.acceptRanges", laid_unicode_utf8_acceptRanges), ("unicode/utf8.first", laid_unicode_utf8_first)], narrowed := true }
def ModelMeetsUptoSaid : Prop := modelMeetsUptoRow.holds Tryz.pinned (OpenSpec.upto modelMeetsSpec)

end Rows
end Go.Proofs.YthhdnjiodklmmaaGreatDoor

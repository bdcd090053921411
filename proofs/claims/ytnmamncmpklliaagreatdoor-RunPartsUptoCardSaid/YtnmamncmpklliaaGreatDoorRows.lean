/-
  NARROWER THAN 'FOR EVERY INPUT', by the rows' own cells (each row's printed sentence says how): DaemonKeeps: laid · DaemonModel: laid · DaemonTwice: laid · DaemonAnew: laid · RunBytes: laid · RunParts: laid · RunOne: laid.
  DERIVED. THE GIVEN ROWS OF THIS SEAT. 7 by the template 'for every input the law returns true; each argument reads behind the call as it read before'; 0 by the template 'total and deterministic' (their statements: YtnmamncmpklliaaGreatDoorTotals.lean).
  GIVEN WITH THE SEED: the statements are not yours to turn. If you find one false, say at which input.
  Laid BY PROGRAM, IN A SANDBOX (cutbox-rows.mjs): the forced cells as the released guide's own fill.sh prints them over the translation 84be80e396758270… (all of the seat's roots in one cut). By AI agents, Wed Nov 11 2026. No macro, syntax, notation, axiom, sorry.
-/
import Derived.Test.YtnmamncmpklliaaGreatDoorChecked
import GoSem.PinnedTables
import GoSem.Claim
import GoSem.ClaimJoined
import GoSem.ClaimMapViews
import Derived.JoinedTies
import Derived.KernelRfl
namespace Go.Proofs.YtnmamncmpklliaaGreatDoor
/- THE CELL 'sum', in the pinned program and in every row, IS THE sha256 OF THE DUMP (.gsa) THAT YtnmamncmpklliaaGreatDoorProg.lean LOADS. Nothing in Lean hashes anything: it is a label: what it is worth is what the hold of that sum in a sandbox is worth. -/
noncomputable def Tryz.pinned : Pinned := { name := "ytnmamncmpklliaagreatdoor", sum := "84be80e396758270a3b43d4dd0efb70a516c0a80f8d18500bf0c36ffc4a2250c", checked := Tryz.checked }
namespace Rows
def none {H : Type} : Left H := { results := [], args := [] }

/- WHAT THE LISTED PACKAGE-LEVEL VARIABLES READ AS WHEN THE CALL BEGINS. Each datum BY PROGRAM (the guide's laid-datum.mjs) off the statement by which the dump's own 'gosem.cut.vars' lays the variable. In a bare row this is a premise. The card (YtnmamncmpklliaaGreatDoorCards.lean) ties it to the program's text. -/
def laid_gunwale_sums_steps {H : Type} : DataW H := .agg [.lit (.int .u32 0), .lit (.int .u32 79764919)]
def laid_unicode_utf8_acceptRanges {H : Type} : DataW H := .agg [.agg [.lit (.int .u8 128), .lit (.int .u8 191)], .agg [.lit (.int .u8 160), .lit (.int .u8 191)], .agg [.lit (.int .u8 128), .lit (.int .u8 159)], .agg [.lit (.int .u8 144), .lit (.int .u8 191)], .agg [.lit (.int .u8 128), .lit (.int .u8 143)], .agg [.lit (.int .u8 0), .lit (.int .u8 0)], .agg [.lit (.int .u8 0), .lit (.int .u8 0)], .agg [.lit (.int .u8 0), .lit (.int .u8 0)], .agg [.lit (.int .u8 0), .lit (.int .u8 0)], .agg [.lit (.int .u8 0), .lit (.int .u8 0)], .agg [.lit (.int .u8 0), .lit (.int .u8 0)], .agg [.lit (.int .u8 0), .lit (.int .u8 0)], .agg [.lit (.int .u8 0), .lit (.int .u8 0)], .agg [.lit (.int .u8 0), .lit (.int .u8 0)], .agg [.lit (.int .u8 0), .lit (.int .u8 0)], .agg [.lit (.int .u8 0), .lit (.int .u8 0)]]
/-- One of Go's own tables, pinned by name: the form's constant. -/
def laid_unicode_utf8_first : DataW Unit := Go.Pinned.utf8First

/-- 'gunwalelaw23.DaemonKeeps': WHATEVER THE INPUT: true; the input reads as it did. -/
def daemonKeepsSpec : ChangeSpec := { name := "daemonKeeps", fn := fun _ => fun
  | [d1, d2] => { results := [.lit (.bool true)], args := [d1, d2] }
  | _ => none }
def daemonKeepsRow : OpenClaim := { program := "ytnmamncmpklliaagreatdoor", sum := "84be80e396758270a3b43d4dd0efb70a516c0a80f8d18500bf0c36ffc4a2250c", func := "gunwale/gunwalelaw23.DaemonKeeps", spec := "daemonKeeps", inPlace := ["internal/bytealg.CountString", "internal/bytealg.IndexByteString", "internal/bytealg.IndexString", "internal/abi.NoEscape"], unfollowed := true, recurses := true, named := ["gunwale/sums.steps", "unicode/utf8.first", "unicode/utf8.acceptRanges", "internal/bytealg.MaxLen"], apart := false, laid := [("gunwale/sums.steps", laid_gunwale_sums_steps), ("unicode/utf8.acceptRanges", laid_unicode_utf8_acceptRanges), ("unicode/utf8.first", laid_unicode_utf8_first)] }
def DaemonKeepsSaid : Prop := daemonKeepsRow.holds Tryz.pinned (OpenSpec.ofChange daemonKeepsSpec)

/-- ITS FALSE NEIGHBOUR: 'it returns false'. Refute it at one input. -/
def daemonKeepsWrong : ChangeSpec := { name := "daemonKeeps", fn := fun _ => fun
  | [d1, d2] => { results := [.lit (.bool false)], args := [d1, d2] }
  | _ => none }
def DaemonKeepsWrongFalsely : Prop := daemonKeepsRow.holds Tryz.pinned (OpenSpec.ofChange daemonKeepsWrong)

/-- 'gunwalelaw23.DaemonModel': WHATEVER THE INPUT: true; the input reads as it did. -/
def daemonModelSpec : ChangeSpec := { name := "daemonModel", fn := fun _ => fun
  | [d1, d2, d3] => { results := [.lit (.bool true)], args := [d1, d2, d3] }
  | _ => none }
def daemonModelRow : OpenClaim := { program := "ytnmamncmpklliaagreatdoor", sum := "84be80e396758270a3b43d4dd0efb70a516c0a80f8d18500bf0c36ffc4a2250c", func := "gunwale/gunwalelaw23.DaemonModel", spec := "daemonModel", inPlace := ["internal/bytealg.CountString", "internal/bytealg.IndexByteString", "internal/bytealg.IndexString", "internal/abi.NoEscape"], unfollowed := true, recurses := true, named := ["gunwale/sums.steps", "unicode/utf8.first", "unicode/utf8.acceptRanges", "internal/bytealg.MaxLen"], apart := false, laid := [("gunwale/sums.steps", laid_gunwale_sums_steps), ("unicode/utf8.acceptRanges", laid_unicode_utf8_acceptRanges), ("unicode/utf8.first", laid_unicode_utf8_first)] }
def DaemonModelSaid : Prop := daemonModelRow.holds Tryz.pinned (OpenSpec.ofChange daemonModelSpec)

/-- ITS FALSE NEIGHBOUR: 'it returns false'. Refute it at one input. -/
def daemonModelWrong : ChangeSpec := { name := "daemonModel", fn := fun _ => fun
  | [d1, d2, d3] => { results := [.lit (.bool false)], args := [d1, d2, d3] }
  | _ => none }
def DaemonModelWrongFalsely : Prop := daemonModelRow.holds Tryz.pinned (OpenSpec.ofChange daemonModelWrong)

/-- 'gunwalelaw23.DaemonTwice': WHATEVER THE INPUT: true; the input reads as it did. -/
def daemonTwiceSpec : ChangeSpec := { name := "daemonTwice", fn := fun _ => fun
  | [d1, d2, d3, d4] => { results := [.lit (.bool true)], args := [d1, d2, d3, d4] }
  | _ => none }
def daemonTwiceRow : OpenClaim := { program := "ytnmamncmpklliaagreatdoor", sum := "84be80e396758270a3b43d4dd0efb70a516c0a80f8d18500bf0c36ffc4a2250c", func := "gunwale/gunwalelaw23.DaemonTwice", spec := "daemonTwice", inPlace := ["internal/bytealg.CountString", "internal/bytealg.IndexByteString", "internal/bytealg.IndexString", "internal/abi.NoEscape"], unfollowed := true, recurses := true, named := ["gunwale/sums.steps", "unicode/utf8.first", "unicode/utf8.acceptRanges", "internal/bytealg.MaxLen"], apart := false, laid := [("gunwale/sums.steps", laid_gunwale_sums_steps), ("unicode/utf8.acceptRanges", laid_unicode_utf8_acceptRanges), ("unicode/utf8.first", laid_unicode_utf8_first)] }
def DaemonTwiceSaid : Prop := daemonTwiceRow.holds Tryz.pinned (OpenSpec.ofChange daemonTwiceSpec)

/-- ITS FALSE NEIGHBOUR: 'it returns false'. Refute it at one input. -/
def daemonTwiceWrong : ChangeSpec := { name := "daemonTwice", fn := fun _ => fun
  | [d1, d2, d3, d4] => { results := [.lit (.bool false)], args := [d1, d2, d3, d4] }
  | _ => none }
def DaemonTwiceWrongFalsely : Prop := daemonTwiceRow.holds Tryz.pinned (OpenSpec.ofChange daemonTwiceWrong)

/-- 'gunwalelaw23.DaemonAnew': WHATEVER THE INPUT: true; the input reads as it did. -/
def daemonAnewSpec : ChangeSpec := { name := "daemonAnew", fn := fun _ => fun
  | [d1, d2, d3] => { results := [.lit (.bool true)], args := [d1, d2, d3] }
  | _ => none }
def daemonAnewRow : OpenClaim := { program := "ytnmamncmpklliaagreatdoor", sum := "84be80e396758270a3b43d4dd0efb70a516c0a80f8d18500bf0c36ffc4a2250c", func := "gunwale/gunwalelaw23.DaemonAnew", spec := "daemonAnew", inPlace := ["internal/bytealg.CountString", "internal/bytealg.IndexByteString", "internal/bytealg.IndexString", "internal/abi.NoEscape"], unfollowed := true, recurses := true, named := ["gunwale/sums.steps", "unicode/utf8.first", "unicode/utf8.acceptRanges", "internal/bytealg.MaxLen"], apart := false, laid := [("gunwale/sums.steps", laid_gunwale_sums_steps), ("unicode/utf8.acceptRanges", laid_unicode_utf8_acceptRanges), ("unicode/utf8.first", laid_unicode_utf8_first)] }
def DaemonAnewSaid : Prop := daemonAnewRow.holds Tryz.pinned (OpenSpec.ofChange daemonAnewSpec)

/-- ITS FALSE NEIGHBOUR: 'it returns false'. Refute it at one input. -/
def daemonAnewWrong : ChangeSpec := { name := "daemonAnew", fn := fun _ => fun
  | [d1, d2, d3] => { results := [.lit (.bool false)], args := [d1, d2, d3] }
  | _ => none }
def DaemonAnewWrongFalsely : Prop := daemonAnewRow.holds Tryz.pinned (OpenSpec.ofChange daemonAnewWrong)

/-- 'gunwalelaw24.RunBytes': WHATEVER THE INPUT: true; the input reads as it did. -/
def runBytesSpec : ChangeSpec := { name := "runBytes", fn := fun _ => fun
  | [d1, d2] => { results := [.lit (.bool true)], args := [d1, d2] }
  | _ => none }
def runBytesRow : OpenClaim := { program := "ytnmamncmpklliaagreatdoor", sum := "84be80e396758270a3b43d4dd0efb70a516c0a80f8d18500bf0c36ffc4a2250c", func := "gunwale/gunwalelaw24.RunBytes", spec := "runBytes", inPlace := ["internal/bytealg.CountString", "internal/bytealg.IndexByteString", "internal/bytealg.IndexString", "internal/abi.NoEscape"], unfollowed := true, recurses := true, named := ["unicode/utf8.first", "unicode/utf8.acceptRanges", "internal/bytealg.MaxLen", "gunwale/sums.steps"], apart := false, laid := [("gunwale/sums.steps", laid_gunwale_sums_steps), ("unicode/utf8.acceptRanges", laid_unicode_utf8_acceptRanges), ("unicode/utf8.first", laid_unicode_utf8_first)] }
def RunBytesSaid : Prop := runBytesRow.holds Tryz.pinned (OpenSpec.ofChange runBytesSpec)

/-- ITS FALSE NEIGHBOUR: 'it returns false'. Refute it at one input. -/
def runBytesWrong : ChangeSpec := { name := "runBytes", fn := fun _ => fun
  | [d1, d2] => { results := [.lit (.bool false)], args := [d1, d2] }
  | _ => none }
def RunBytesWrongFalsely : Prop := runBytesRow.holds Tryz.pinned (OpenSpec.ofChange runBytesWrong)

/-- 'gunwalelaw24.RunParts': WHATEVER THE INPUT: true; the input reads as it did. -/
def runPartsSpec : ChangeSpec := { name := "runParts", fn := fun _ => fun
  | [d1, d2, d3] => { results := [.lit (.bool true)], args := [d1, d2, d3] }
  | _ => none }
def runPartsRow : OpenClaim := { program := "ytnmamncmpklliaagreatdoor", sum := "84be80e396758270a3b43d4dd0efb70a516c0a80f8d18500bf0c36ffc4a2250c", func := "gunwale/gunwalelaw24.RunParts", spec := "runParts", inPlace := ["internal/bytealg.CountString", "internal/bytealg.IndexByteString", "internal/bytealg.IndexString", "internal/abi.NoEscape"], unfollowed := true, recurses := true, named := ["unicode/utf8.first", "unicode/utf8.acceptRanges", "internal/bytealg.MaxLen", "gunwale/sums.steps"], apart := false, laid := [("gunwale/sums.steps", laid_gunwale_sums_steps), ("unicode/utf8.acceptRanges", laid_unicode_utf8_acceptRanges), ("unicode/utf8.first", laid_unicode_utf8_first)] }
def RunPartsSaid : Prop := runPartsRow.holds Tryz.pinned (OpenSpec.ofChange runPartsSpec)

/-- ITS FALSE NEIGHBOUR: 'it returns false'. Refute it at one input. -/
def runPartsWrong : ChangeSpec := { name := "runParts", fn := fun _ => fun
  | [d1, d2, d3] => { results := [.lit (.bool false)], args := [d1, d2, d3] }
  | _ => none }
def RunPartsWrongFalsely : Prop := runPartsRow.holds Tryz.pinned (OpenSpec.ofChange runPartsWrong)

/-- 'gunwalelaw24.RunOne': WHATEVER THE INPUT: true; the input reads as it did. -/
def runOneSpec : ChangeSpec := { name := "runOne", fn := fun _ => fun
  | [d] => { results := [.lit (.bool true)], args := [d] }
  | _ => none }
def runOneRow : OpenClaim := { program := "ytnmamncmpklliaagreatdoor", sum := "84be80e396758270a3b43d4dd0efb70a516c0a80f8d18500bf0c36ffc4a2250c", func := "gunwale/gunwalelaw24.RunOne", spec := "runOne", inPlace := ["internal/bytealg.CountString", "internal/bytealg.IndexByteString", "internal/bytealg.IndexString", "internal/abi.NoEscape"], unfollowed := true, recurses := true, named := ["unicode/utf8.first", "unicode/utf8.acceptRanges", "internal/bytealg.MaxLen", "gunwale/sums.steps"], apart := false, laid := [("gunwale/sums.steps", laid_gunwale_sums_steps), ("unicode/utf8.acceptRanges", laid_unicode_utf8_acceptRanges), ("unicode/utf8.first", laid_unicode_utf8_first)] }
def RunOneSaid : Prop := runOneRow.holds Tryz.pinned (OpenSpec.ofChange runOneSpec)

/-- ITS FALSE NEIGHBOUR: 'it returns false'. Refute it at one input. -/
def runOneWrong : ChangeSpec := { name := "runOne", fn := fun _ => fun
  | [d] => { results := [.lit (.bool false)], args := [d] }
  | _ => none }
def RunOneWrongFalsely : Prop := runOneRow.holds Tryz.pinned (OpenSpec.ofChange runOneWrong)

/- THE SECOND FORM. 'bulk': how many values and letters a reading holds, each counted each time it is reached (what is shared counts as often as it is met; a slice's spare places count too). A statement '..UptoSaid' is the law's where the arguments, and the package variables that the reading takes, are together of bulk at most 1048576: NARROWER than '..Said'. Prove '..Said' where nothing that the law and all that it calls make is longer than what came in: it says more and counts as full. Else prove '..UptoSaid'. A law counts once. -/
mutual
def uptoBulk {H : Type} : DataW H → Nat
  | .lit (.string bytes) => bytes.length + 1
  | .lit _ => 1
  | .nil => 1
  | .ptr d => uptoBulk d + 1
  | .slice elems spare => uptoBulkAll elems + uptoBulkAll spare + 1
  | .agg parts => uptoBulkAll parts + 1
  | .iface _ d => uptoBulk d + 1
  | .map entries => uptoBulkEntries entries + 1
  | .held _ => 1
def uptoBulkAll {H : Type} : List (DataW H) → Nat
  | [] => 0
  | d :: r => uptoBulk d + uptoBulkAll r
def uptoBulkEntries {H : Type} : List (Lit × DataW H) → Nat
  | [] => 0
  | x :: r => uptoBulkEntry x + uptoBulkEntries r
def uptoBulkEntry {H : Type} : Lit × DataW H → Nat
  | (.string bytes, d) => bytes.length + uptoBulk d + 1
  | (_, d) => uptoBulk d + 1
 end
def uptoSmall : (H : Type) → List (DataW H) → Bool := fun _ ds => decide (uptoBulkAll ds ≤ 1048576)
def OpenSpec.upto (s : _root_.Go.ChangeSpec) : _root_.Go.OpenSpec := { _root_.Go.OpenSpec.ofChange s with cond := some uptoSmall }

/-- 'gunwalelaw23.DaemonKeeps', WHERE WHAT IT READS IS OF BULK AT MOST 1048576: true; the input reads as it did. -/
def daemonKeepsUptoRow : OpenClaim := { program := "ytnmamncmpklliaagreatdoor", sum := "84be80e396758270a3b43d4dd0efb70a516c0a80f8d18500bf0c36ffc4a2250c", func := "gunwale/gunwalelaw23.DaemonKeeps", spec := "daemonKeeps", inPlace := ["internal/bytealg.CountString", "internal/bytealg.IndexByteString", "internal/bytealg.IndexString", "internal/abi.NoEscape"], unfollowed := true, recurses := true, named := ["gunwale/sums.steps", "unicode/utf8.first", "unicode/utf8.acceptRanges", "internal/bytealg.MaxLen"], apart := false, laid := [("gunwale/sums.steps", laid_gunwale_sums_steps), ("unicode/utf8.acceptRanges", laid_unicode_utf8_acceptRanges), ("unicode/utf8.first", laid_unicode_utf8_first)], narrowed := true }
def DaemonKeepsUptoSaid : Prop := daemonKeepsUptoRow.holds Tryz.pinned (OpenSpec.upto daemonKeepsSpec)

/-- 'gunwalelaw23.DaemonModel', WHERE WHAT IT READS IS OF BULK AT MOST 1048576: true; the input reads as it did. -/
def daemonModelUptoRow : OpenClaim := { program := "ytnmamncmpklliaagreatdoor", sum := "84be80e396758270a3b43d4dd0efb70a516c0a80f8d18500bf0c36ffc4a2250c", func := "gunwale/gunwalelaw23.DaemonModel", spec := "daemonModel", inPlace := ["internal/bytealg.CountString", "internal/bytealg.IndexByteString", "internal/bytealg.IndexString", "internal/abi.NoEscape"], unfollowed := true, recurses := true, named := ["gunwale/sums.steps", "unicode/utf8.first", "unicode/utf8.acceptRanges", "internal/bytealg.MaxLen"], apart := false, laid := [("gunwale/sums.steps", laid_gunwale_sums_steps), ("unicode/utf8.acceptRanges", laid_unicode_utf8_acceptRanges), ("unicode/utf8.first", laid_unicode_utf8_first)], narrowed := true }
def DaemonModelUptoSaid : Prop := daemonModelUptoRow.holds Tryz.pinned (OpenSpec.upto daemonModelSpec)

/-- 'gunwalelaw23.DaemonTwice', WHERE WHAT IT READS IS OF BULK AT MOST 1048576: true; the input reads as it did. -/
def daemonTwiceUptoRow : OpenClaim := { program := "ytnmamncmpklliaagreatdoor", sum := "84be80e396758270a3b43d4dd0efb70a516c0a80f8d18500bf0c36ffc4a2250c", func := "gunwale/gunwalelaw23.DaemonTwice", spec := "daemonTwice", inPlace := ["internal/bytealg.CountString", "internal/bytealg.IndexByteString", "internal/bytealg.IndexString", "internal/abi.NoEscape"], unfollowed := true, recurses := true, named := ["gunwale/sums.steps", "unicode/utf8.first", "unicode/utf8.acceptRanges", "internal/bytealg.MaxLen"], apart := false, laid := [("gunwale/sums.steps", laid_gunwale_sums_steps), ("unicode/utf8.acceptRanges", laid_unicode_utf8_acceptRanges), ("unicode/utf8.first", laid_unicode_utf8_first)], narrowed := true }
def DaemonTwiceUptoSaid : Prop := daemonTwiceUptoRow.holds Tryz.pinned (OpenSpec.upto daemonTwiceSpec)

/-- 'gunwalelaw23.DaemonAnew', WHERE WHAT IT READS IS OF BULK AT MOST 1048576: true; the input reads as it did. -/
def daemonAnewUptoRow : OpenClaim := { program := "ytnmamncmpklliaagreatdoor", sum := "84be80e396758270a3b43d4dd0efb70a516c0a80f8d18500bf0c36ffc4a2250c", func := "gunwale/gunwalelaw23.DaemonAnew", spec := "daemonAnew", inPlace := ["internal/bytealg.CountString", "internal/bytealg.IndexByteString", "internal/bytealg.IndexString", "internal/abi.NoEscape"], unfollowed := true, recurses := true, named := ["gunwale/sums.steps", "unicode/utf8.first", "unicode/utf8.acceptRanges", "internal/bytealg.MaxLen"], apart := false, laid := [("gunwale/sums.steps", laid_gunwale_sums_steps), ("unicode/utf8.acceptRanges", laid_unicode_utf8_acceptRanges), ("unicode/utf8.first", laid_unicode_utf8_first)], narrowed := true }
def DaemonAnewUptoSaid : Prop := daemonAnewUptoRow.holds Tryz.pinned (OpenSpec.upto daemonAnewSpec)

/-- 'gunwalelaw24.RunBytes', WHERE WHAT IT READS IS OF BULK AT MOST 1048576: true; the input reads as it did. -/
def runBytesUptoRow : OpenClaim := { program := "ytnmamncmpklliaagreatdoor", sum := "84be80e396758270a3b43d4dd0efb70a516c0a80f8d18500bf0c36ffc4a2250c", func := "gunwale/gunwalelaw24.RunBytes", spec := "runBytes", inPlace := ["internal/bytealg.CountString", "internal/bytealg.IndexByteString", "internal/bytealg.IndexString", "internal/abi.NoEscape"], unfollowed := true, recurses := true, named := ["unicode/utf8.first", "unicode/utf8.acceptRanges", "internal/bytealg.MaxLen", "gunwale/sums.steps"], apart := false, laid := [("gunwale/sums.steps", laid_gunwale_sums_steps), ("unicode/utf8.acceptRanges", laid_unicode_utf8_acceptRanges), ("unicode/utf8.first", laid_unicode_utf8_first)], narrowed := true }
def RunBytesUptoSaid : Prop := runBytesUptoRow.holds Tryz.pinned (OpenSpec.upto runBytesSpec)

/-- 'gunwalelaw24.RunParts', WHERE WHAT IT READS IS OF BULK AT MOST 1048576: true; the input reads as it did. -/
def runPartsUptoRow : OpenClaim := { program := "ytnmamncmpklliaagreatdoor", sum := "84be80e396758270a3b43d4dd0efb70a516c0a80f8d18500bf0c36ffc4a2250c", func := "gunwale/gunwalelaw24.RunParts", spec := "runParts", inPlace := ["internal/bytealg.CountString", "internal/bytealg.IndexByteString", "internal/bytealg.IndexString", "internal/abi.NoEscape"], unfollowed := true, recurses := true, named := ["unicode/utf8.first", "unicode/utf8.acceptRanges", "internal/bytealg.MaxLen", "gunwale/sums.steps"], apart := false, laid := [("gunwale/sums.steps", laid_gunwale_sums_steps), ("unicode/utf8.acceptRanges", laid_unicode_utf8_acceptRanges), ("unicode/utf8.first", laid_unicode_utf8_first)], narrowed := true }
def RunPartsUptoSaid : Prop := runPartsUptoRow.holds Tryz.pinned (OpenSpec.upto runPartsSpec)

/-- 'gunwalelaw24.RunOne', WHERE WHAT IT READS IS OF BULK AT MOST 1048576: true; the input reads as it did. -/
def runOneUptoRow : OpenClaim := { program := "ytnmamncmpklliaagreatdoor", sum := "84be80e396758270a3b43d4dd0efb70a516c0a80f8d18500bf0c36ffc4a2250c", func := "gunwale/gunwalelaw24.RunOne", spec := "runOne", inPlace := ["internal/bytealg.CountString", "internal/bytealg.IndexByteString", "internal/bytealg.IndexString", "internal/abi.NoEscape"], unfollowed := true, recurses := true, named := ["unicode/utf8.first", "unicode/utf8.acceptRanges", "internal/bytealg.MaxLen", "gunwale/sums.steps"], apart := false, laid := [("gunwale/sums.steps", laid_gunwale_sums_steps), ("unicode/utf8.acceptRanges", laid_unicode_utf8_acceptRanges), ("unicode/utf8.first", laid_unicode_utf8_first)], narrowed := true }
def RunOneUptoSaid : Prop := runOneUptoRow.holds Tryz.pinned (OpenSpec.upto runOneSpec)

end Rows
end Go.Proofs.YtnmamncmpklliaaGreatDoor

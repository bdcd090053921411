/-
  NARROWER THAN 'FOR EVERY INPUT', by the rows' own cells (each row's printed sentence says how): CoreLive: laid · CoreEnds: laid · CoreLocks: laid · CoreKeeps: laid · CoreOthers: laid · CoreGuards: laid.
  DERIVED. THE GIVEN ROWS OF THIS SEAT. 6 by the template 'for every input the law returns true; each argument reads behind the call as it read before'; 0 by the template 'total and deterministic' (their statements: YtennnelammaapaaGreatDoorTotals.lean).
  GIVEN WITH THE SEED: the statements are not yours to turn. If you find one false, say at which input.
  Laid BY PROGRAM, IN A SANDBOX (cutbox-rows.mjs): the forced cells as the released guide's own fill.sh prints them over the translation 843ad2a7ea2fe450… (all of the seat's roots in one cut). By AI agents, Wed Nov 11 2026. No macro, syntax, notation, axiom, sorry.
-/
import Derived.Test.YtennnelammaapaaGreatDoorChecked
import GoSem.PinnedTables
import GoSem.Claim
import GoSem.ClaimJoined
import GoSem.ClaimMapViews
import Derived.JoinedTies
import Derived.KernelRfl
namespace Go.Proofs.YtennnelammaapaaGreatDoor
/- THE CELL 'sum', in the pinned program and in every row, IS THE sha256 OF THE DUMP (.gsa) THAT YtennnelammaapaaGreatDoorProg.lean LOADS. Nothing in Lean hashes anything: it is a label: what it is worth is what the hold of that sum in a sandbox is worth. -/
noncomputable def Tryz.pinned : Pinned := { name := "ytennnelammaapaagreatdoor", sum := "843ad2a7ea2fe450c9d7adca4083947d215ae39ef8eec570b9ab5b8a631f68f3", checked := Tryz.checked }
namespace Rows
def none {H : Type} : Left H := { results := [], args := [] }

/- WHAT THE LISTED PACKAGE-LEVEL VARIABLES READ AS WHEN THE CALL BEGINS. Each datum BY PROGRAM (the guide's laid-datum.mjs) off the statement by which the dump's own 'gosem.cut.vars' lays the variable. In a bare row this is a premise. The card (YtennnelammaapaaGreatDoorCards.lean) ties it to the program's text. -/
def laid_unicode_utf8_acceptRanges {H : Type} : DataW H := .agg [.agg [.lit (.int .u8 128), .lit (.int .u8 191)], .agg [.lit (.int .u8 160), .lit (.int .u8 191)], .agg [.lit (.int .u8 128), .lit (.int .u8 159)], .agg [.lit (.int .u8 144), .lit (.int .u8 191)], .agg [.lit (.int .u8 128), .lit (.int .u8 143)], .agg [.lit (.int .u8 0), .lit (.int .u8 0)], .agg [.lit (.int .u8 0), .lit (.int .u8 0)], .agg [.lit (.int .u8 0), .lit (.int .u8 0)], .agg [.lit (.int .u8 0), .lit (.int .u8 0)], .agg [.lit (.int .u8 0), .lit (.int .u8 0)], .agg [.lit (.int .u8 0), .lit (.int .u8 0)], .agg [.lit (.int .u8 0), .lit (.int .u8 0)], .agg [.lit (.int .u8 0), .lit (.int .u8 0)], .agg [.lit (.int .u8 0), .lit (.int .u8 0)], .agg [.lit (.int .u8 0), .lit (.int .u8 0)], .agg [.lit (.int .u8 0), .lit (.int .u8 0)]]
/-- One of Go's own tables, pinned by name: the form's constant. -/
def laid_unicode_utf8_first : DataW Unit := Go.Pinned.utf8First

/-- 'gunwalelaw21.CoreLive': WHATEVER THE INPUT: true; the input reads as it did. -/
def coreLiveSpec : ChangeSpec := { name := "coreLive", fn := fun _ => fun
  | [d1, d2] => { results := [.lit (.bool true)], args := [d1, d2] }
  | _ => none }
def coreLiveRow : OpenClaim := { program := "ytennnelammaapaagreatdoor", sum := "843ad2a7ea2fe450c9d7adca4083947d215ae39ef8eec570b9ab5b8a631f68f3", func := "gunwale/gunwalelaw21.CoreLive", spec := "coreLive", inPlace := ["internal/bytealg.CountString", "internal/bytealg.IndexByteString", "internal/bytealg.IndexString"], unfollowed := true, recurses := true, named := ["unicode/utf8.first", "unicode/utf8.acceptRanges", "internal/bytealg.MaxLen"], apart := false, laid := [("unicode/utf8.acceptRanges", laid_unicode_utf8_acceptRanges), ("unicode/utf8.first", laid_unicode_utf8_first)] }
def CoreLiveSaid : Prop := coreLiveRow.holds Tryz.pinned (OpenSpec.ofChange coreLiveSpec)

/-- ITS FALSE NEIGHBOUR: 'it returns false'. Refute it at one input. -/
def coreLiveWrong : ChangeSpec := { name := "coreLive", fn := fun _ => fun
  | [d1, d2] => { results := [.lit (.bool false)], args := [d1, d2] }
  | _ => none }
def CoreLiveWrongFalsely : Prop := coreLiveRow.holds Tryz.pinned (OpenSpec.ofChange coreLiveWrong)

/-- 'gunwalelaw21.CoreEnds': WHATEVER THE INPUT: true; the input reads as it did. -/
def coreEndsSpec : ChangeSpec := { name := "coreEnds", fn := fun _ => fun
  | [d1, d2] => { results := [.lit (.bool true)], args := [d1, d2] }
  | _ => none }
def coreEndsRow : OpenClaim := { program := "ytennnelammaapaagreatdoor", sum := "843ad2a7ea2fe450c9d7adca4083947d215ae39ef8eec570b9ab5b8a631f68f3", func := "gunwale/gunwalelaw21.CoreEnds", spec := "coreEnds", inPlace := ["internal/bytealg.CountString", "internal/bytealg.IndexByteString", "internal/bytealg.IndexString"], unfollowed := true, recurses := true, named := ["unicode/utf8.first", "unicode/utf8.acceptRanges", "internal/bytealg.MaxLen"], apart := false, laid := [("unicode/utf8.acceptRanges", laid_unicode_utf8_acceptRanges), ("unicode/utf8.first", laid_unicode_utf8_first)] }
def CoreEndsSaid : Prop := coreEndsRow.holds Tryz.pinned (OpenSpec.ofChange coreEndsSpec)

/-- ITS FALSE NEIGHBOUR: 'it returns false'. Refute it at one input. -/
def coreEndsWrong : ChangeSpec := { name := "coreEnds", fn := fun _ => fun
  | [d1, d2] => { results := [.lit (.bool false)], args := [d1, d2] }
  | _ => none }
def CoreEndsWrongFalsely : Prop := coreEndsRow.holds Tryz.pinned (OpenSpec.ofChange coreEndsWrong)

/-- 'gunwalelaw21.CoreLocks': WHATEVER THE INPUT: true; the input reads as it did. -/
def coreLocksSpec : ChangeSpec := { name := "coreLocks", fn := fun _ => fun
  | [d] => { results := [.lit (.bool true)], args := [d] }
  | _ => none }
def coreLocksRow : OpenClaim := { program := "ytennnelammaapaagreatdoor", sum := "843ad2a7ea2fe450c9d7adca4083947d215ae39ef8eec570b9ab5b8a631f68f3", func := "gunwale/gunwalelaw21.CoreLocks", spec := "coreLocks", inPlace := ["internal/bytealg.CountString", "internal/bytealg.IndexByteString", "internal/bytealg.IndexString"], unfollowed := true, recurses := true, named := ["unicode/utf8.first", "unicode/utf8.acceptRanges", "internal/bytealg.MaxLen"], apart := false, laid := [("unicode/utf8.acceptRanges", laid_unicode_utf8_acceptRanges), ("unicode/utf8.first", laid_unicode_utf8_first)] }
def CoreLocksSaid : Prop := coreLocksRow.holds Tryz.pinned (OpenSpec.ofChange coreLocksSpec)

/-- ITS FALSE NEIGHBOUR: 'it returns false'. Refute it at one input. -/
def coreLocksWrong : ChangeSpec := { name := "coreLocks", fn := fun _ => fun
  | [d] => { results := [.lit (.bool false)], args := [d] }
  | _ => none }
def CoreLocksWrongFalsely : Prop := coreLocksRow.holds Tryz.pinned (OpenSpec.ofChange coreLocksWrong)

/-- 'gunwalelaw21.CoreKeeps': WHATEVER THE INPUT: true; the input reads as it did. -/
def coreKeepsSpec : ChangeSpec := { name := "coreKeeps", fn := fun _ => fun
  | [d] => { results := [.lit (.bool true)], args := [d] }
  | _ => none }
def coreKeepsRow : OpenClaim := { program := "ytennnelammaapaagreatdoor", sum := "843ad2a7ea2fe450c9d7adca4083947d215ae39ef8eec570b9ab5b8a631f68f3", func := "gunwale/gunwalelaw21.CoreKeeps", spec := "coreKeeps", inPlace := ["internal/bytealg.CountString", "internal/bytealg.IndexByteString", "internal/bytealg.IndexString"], unfollowed := true, recurses := true, named := ["unicode/utf8.first", "unicode/utf8.acceptRanges", "internal/bytealg.MaxLen"], apart := false, laid := [("unicode/utf8.acceptRanges", laid_unicode_utf8_acceptRanges), ("unicode/utf8.first", laid_unicode_utf8_first)] }
def CoreKeepsSaid : Prop := coreKeepsRow.holds Tryz.pinned (OpenSpec.ofChange coreKeepsSpec)

/-- ITS FALSE NEIGHBOUR: 'it returns false'. Refute it at one input. -/
def coreKeepsWrong : ChangeSpec := { name := "coreKeeps", fn := fun _ => fun
  | [d] => { results := [.lit (.bool false)], args := [d] }
  | _ => none }
def CoreKeepsWrongFalsely : Prop := coreKeepsRow.holds Tryz.pinned (OpenSpec.ofChange coreKeepsWrong)

/-- 'gunwalelaw21.CoreOthers': WHATEVER THE INPUT: true; the input reads as it did. -/
def coreOthersSpec : ChangeSpec := { name := "coreOthers", fn := fun _ => fun
  | [d] => { results := [.lit (.bool true)], args := [d] }
  | _ => none }
def coreOthersRow : OpenClaim := { program := "ytennnelammaapaagreatdoor", sum := "843ad2a7ea2fe450c9d7adca4083947d215ae39ef8eec570b9ab5b8a631f68f3", func := "gunwale/gunwalelaw21.CoreOthers", spec := "coreOthers", inPlace := ["internal/bytealg.CountString", "internal/bytealg.IndexByteString", "internal/bytealg.IndexString"], unfollowed := true, recurses := true, named := ["unicode/utf8.first", "unicode/utf8.acceptRanges", "internal/bytealg.MaxLen"], apart := false, laid := [("unicode/utf8.acceptRanges", laid_unicode_utf8_acceptRanges), ("unicode/utf8.first", laid_unicode_utf8_first)] }
def CoreOthersSaid : Prop := coreOthersRow.holds Tryz.pinned (OpenSpec.ofChange coreOthersSpec)

/-- ITS FALSE NEIGHBOUR: 'it returns false'. Refute it at one input. -/
def coreOthersWrong : ChangeSpec := { name := "coreOthers", fn := fun _ => fun
  | [d] => { results := [.lit (.bool false)], args := [d] }
  | _ => none }
def CoreOthersWrongFalsely : Prop := coreOthersRow.holds Tryz.pinned (OpenSpec.ofChange coreOthersWrong)

/-- 'gunwalelaw21.CoreGuards': WHATEVER THE INPUT: true; the input reads as it did. -/
def coreGuardsSpec : ChangeSpec := { name := "coreGuards", fn := fun _ => fun
  | [d] => { results := [.lit (.bool true)], args := [d] }
  | _ => none }
def coreGuardsRow : OpenClaim := { program := "ytennnelammaapaagreatdoor", sum := "843ad2a7ea2fe450c9d7adca4083947d215ae39ef8eec570b9ab5b8a631f68f3", func := "gunwale/gunwalelaw21.CoreGuards", spec := "coreGuards", inPlace := ["internal/bytealg.CountString", "internal/bytealg.IndexByteString", "internal/bytealg.IndexString"], unfollowed := true, recurses := true, named := ["unicode/utf8.first", "unicode/utf8.acceptRanges", "internal/bytealg.MaxLen"], apart := false, laid := [("unicode/utf8.acceptRanges", laid_unicode_utf8_acceptRanges), ("unicode/utf8.first", laid_unicode_utf8_first)] }
def CoreGuardsSaid : Prop := coreGuardsRow.holds Tryz.pinned (OpenSpec.ofChange coreGuardsSpec)

/-- ITS FALSE NEIGHBOUR: 'it returns false'. Refute it at one input. -/
def coreGuardsWrong : ChangeSpec := { name := "coreGuards", fn := fun _ => fun
  | [d] => { results := [.lit (.bool false)], args := [d] }
  | _ => none }
def CoreGuardsWrongFalsely : Prop := coreGuardsRow.holds Tryz.pinned (OpenSpec.ofChange coreGuardsWrong)

/- THE SECOND FORM. 'bulk': how many values and letters a reading holds, each counted each time it is reached (what is shared counts as often as it is met; a slice's spare places count too). A statement '..UptoSaid' is the law's where the arguments, and the package variables that the reading takes, are together of bulk at most 1048576: NARROWER than '..Said'. Prove '..Said' where nothing that the law and all that it calls make is longer than what came in: it says more and counts as full. Else prove '..UptoSaid'. A law counts once. -/
mutual
def uptoBulk {H : Type} : DataW H → Nat
  | .lit (.string bytes) => bytes.length + 1
  | .lit _ => 1
  | .nil => 1
  | .ptr d => uptoBulk d + 1
  | .slice elems spare => uptoBulkAll elems + uptoBulkAll spare + 1
  | .agg parts => uptoBulkAll parts + 1
  | .iface _ d => uptoBulk d + 1
  | .map entries => uptoBulkEntries entries + 1
  | .held _ => 1
def uptoBulkAll {H : Type} : List (DataW H) → Nat
  | [] => 0
  | d :: r => uptoBulk d + uptoBulkAll r
def uptoBulkEntries {H : Type} : List (Lit × DataW H) → Nat
  | [] => 0
  | x :: r => uptoBulkEntry x + uptoBulkEntries r
def uptoBulkEntry {H : Type} : Lit × DataW H → Nat
  | (.string bytes, d) => bytes.length + uptoBulk d + 1
  | (_, d) => uptoBulk d + 1
 end
def uptoSmall : (H : Type) → List (DataW H) → Bool := fun _ ds => decide (uptoBulkAll ds ≤ 1048576)
def OpenSpec.upto (s : _root_.Go.ChangeSpec) : _root_.Go.OpenSpec := { _root_.Go.OpenSpec.ofChange s with cond := some uptoSmall }

/-- 'gunwalelaw21.CoreLive', WHERE WHAT IT READS IS OF BULK AT MOST 1048576: true; the input reads as it did. -/
def coreLiveUptoRow : OpenClaim := { program := "ytennnelammaapaagreatdoor", sum := "843ad2a7ea2fe450c9d7adca4083947d215ae39ef8eec570b9ab5b8a631f68f3", func := "gunwale/gunwalelaw21.CoreLive", spec := "coreLive", inPlace := ["internal/bytealg.CountString", "internal/bytealg.IndexByteString", "internal/bytealg.IndexString"], unfollowed := true, recurses := true, named := ["unicode/utf8.first", "unicode/utf8.acceptRanges", "internal/bytealg.MaxLen"], apart := false, laid := [("unicode/utf8.acceptRanges", laid_unicode_utf8_acceptRanges), ("unicode/utf8.first", laid_unicode_utf8_first)], narrowed := true }
def CoreLiveUptoSaid : Prop := coreLiveUptoRow.holds Tryz.pinned (OpenSpec.upto coreLiveSpec)

/-- 'gunwalelaw21.CoreEnds', WHERE WHAT IT READS IS OF BULK AT MOST 1048576: true; the input reads as it did. -/
def coreEndsUptoRow : OpenClaim := { program := "ytennnelammaapaagreatdoor", sum := "843ad2a7ea2fe450c9d7adca4083947d215ae39ef8eec570b9ab5b8a631f68f3", func := "gunwale/gunwalelaw21.CoreEnds", spec := "coreEnds", inPlace := ["internal/bytealg.CountString", "internal/bytealg.IndexByteString", "internal/bytealg.IndexString"], unfollowed := true, recurses := true, named := ["unicode/utf8.first", "unicode/utf8.acceptRanges", "internal/bytealg.MaxLen"], apart := false, laid := [("unicode/utf8.acceptRanges", laid_unicode_utf8_acceptRanges), ("unicode/utf8.first", laid_unicode_utf8_first)], narrowed := true }
def CoreEndsUptoSaid : Prop := coreEndsUptoRow.holds Tryz.pinned (OpenSpec.upto coreEndsSpec)

/-- 'gunwalelaw21.CoreLocks', WHERE WHAT IT READS IS OF BULK AT MOST 1048576: true; the input reads as it did. -/
def coreLocksUptoRow : OpenClaim := { program := "ytennnelammaapaagreatdoor", sum := "843ad2a7ea2fe450c9d7adca4083947d215ae39ef8eec570b9ab5b8a631f68f3", func := "gunwale/gunwalelaw21.CoreLocks", spec := "coreLocks", inPlace := ["internal/bytealg.CountString", "internal/bytealg.IndexByteString", "internal/bytealg.IndexString"], unfollowed := true, recurses := true, named := ["unicode/utf8.first", "unicode/utf8.acceptRanges", "internal/bytealg.MaxLen"], apart := false, laid := [("unicode/utf8.acceptRanges", laid_unicode_utf8_acceptRanges), ("unicode/utf8.first", laid_unicode_utf8_first)], narrowed := true }
def CoreLocksUptoSaid : Prop := coreLocksUptoRow.holds Tryz.pinned (OpenSpec.upto coreLocksSpec)

/-- 'gunwalelaw21.CoreKeeps', WHERE WHAT IT READS IS OF BULK AT MOST 1048576: true; the input reads as it did. -/
def coreKeepsUptoRow : OpenClaim := { program := "ytennnelammaapaagreatdoor", sum := "843ad2a7ea2fe450c9d7adca4083947d215ae39ef8eec570b9ab5b8a631f68f3", func := "gunwale/gunwalelaw21.CoreKeeps", spec := "coreKeeps", inPlace := ["internal/bytealg.CountString", "internal/bytealg.IndexByteString", "internal/bytealg.IndexString"], unfollowed := true, recurses := true, named := ["unicode/utf8.first", "unicode/utf8.acceptRanges", "internal/bytealg.MaxLen"], apart := false, laid := [("unicode/utf8.acceptRanges", laid_unicode_utf8_acceptRanges), ("unicode/utf8.first", laid_unicode_utf8_first)], narrowed := true }
def CoreKeepsUptoSaid : Prop := coreKeepsUptoRow.holds Tryz.pinned (OpenSpec.upto coreKeepsSpec)

/-- 'gunwalelaw21.CoreOthers', WHERE WHAT IT READS IS OF BULK AT MOST 1048576: true; the input reads as it did. -/
def coreOthersUptoRow : OpenClaim := { program := "ytennnelammaapaagreatdoor", sum := "843ad2a7ea2fe450c9d7adca4083947d215ae39ef8eec570b9ab5b8a631f68f3", func := "gunwale/gunwalelaw21.CoreOthers", spec := "coreOthers", inPlace := ["internal/bytealg.CountString", "internal/bytealg.IndexByteString", "internal/bytealg.IndexString"], unfollowed := true, recurses := true, named := ["unicode/utf8.first", "unicode/utf8.acceptRanges", "internal/bytealg.MaxLen"], apart := false, laid := [("unicode/utf8.acceptRanges", laid_unicode_utf8_acceptRanges), ("unicode/utf8.first", laid_unicode_utf8_first)], narrowed := true }
def CoreOthersUptoSaid : Prop := coreOthersUptoRow.holds Tryz.pinned (OpenSpec.upto coreOthersSpec)

/-- 'gunwalelaw21.CoreGuards', WHERE WHAT IT READS IS OF BULK AT MOST 1048576: true; the input reads as it did. -/
def coreGuardsUptoRow : OpenClaim := { program := "ytennnelammaapaagreatdoor", sum := "843ad2a7ea2fe450c9d7adca4083947d215ae39ef8eec570b9ab5b8a631f68f3", func := "gunwale/gunwalelaw21.CoreGuards", spec := "coreGuards", inPlace := ["internal/bytealg.CountString", "internal/bytealg.IndexByteString", "internal/bytealg.IndexString"], unfollowed := true, recurses := true, named := ["unicode/utf8.first", "unicode/utf8.acceptRanges", "internal/bytealg.MaxLen"], apart := false, laid := [("unicode/utf8.acceptRanges", laid_unicode_utf8_acceptRanges), ("unicode/utf8.first", laid_unicode_utf8_first)], narrowed := true }
def CoreGuardsUptoSaid : Prop := coreGuardsUptoRow.holds Tryz.pinned (OpenSpec.upto coreGuardsSpec)

end Rows
end Go.Proofs.YtennnelammaapaaGreatDoor

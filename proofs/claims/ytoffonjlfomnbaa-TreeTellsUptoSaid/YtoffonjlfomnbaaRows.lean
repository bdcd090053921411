/-
  No cell of these rows narrows 'for every input' (looked for: loops, veiled, ifaces, maps, wideKeys, modest, calm, conditions, laid).
  DERIVED. THE GIVEN ROWS OF THIS SEAT. 13 by the template 'for every input the law returns true; each argument reads behind the call as it read before'; 0 by the template 'total and deterministic' (their statements: YtoffonjlfomnbaaTotals.lean).
  GIVEN WITH THE SEED: the statements are not yours to turn. If you find one false, say at which input.
  Laid BY PROGRAM, IN A SANDBOX (cutbox-rows.mjs): the forced cells as the released guide's own fill.sh prints them over the translation a47674a2a806d74f… (all of the seat's roots in one cut). By AI agents, Wed Nov 11 2026. No macro, syntax, notation, axiom, sorry.
-/
import Derived.Test.YtoffonjlfomnbaaChecked
import GoSem.Claim
import GoSem.ClaimJoined
import GoSem.ClaimMapViews
import Derived.JoinedTies
import Derived.KernelRfl
namespace Go.Proofs.Ytoffonjlfomnbaa
/- THE CELL 'sum', in the pinned program and in every row, IS THE sha256 OF THE DUMP (.gsa) THAT YtoffonjlfomnbaaProg.lean LOADS. Nothing in Lean hashes anything: it is a label: what it is worth is what the hold of that sum in a sandbox is worth. -/
noncomputable def Try.pinned : Pinned := { name := "ytoffonjlfomnbaa", sum := "a47674a2a806d74f2eda7b3eb3241ca44c970df2f2790b4934b3476f59f4ff21", checked := Try.checked }
namespace Rows
def none {H : Type} : Left H := { results := [], args := [] }

/-- 'gunwalelaw07.MergeFull': WHATEVER THE INPUT: true; the input reads as it did. -/
def mergeFullSpec : ChangeSpec := { name := "mergeFull", fn := fun _ => fun
  | [d1, d2] => { results := [.lit (.bool true)], args := [d1, d2] }
  | _ => none }
def mergeFullRow : OpenClaim := { program := "ytoffonjlfomnbaa", sum := "a47674a2a806d74f2eda7b3eb3241ca44c970df2f2790b4934b3476f59f4ff21", func := "gunwale/gunwalelaw07.MergeFull", spec := "mergeFull", unfollowed := true, recurses := true, apart := false }
def MergeFullSaid : Prop := mergeFullRow.holds Try.pinned (OpenSpec.ofChange mergeFullSpec)

/-- ITS FALSE NEIGHBOUR: 'it returns false'. Refute it at one input. -/
def mergeFullWrong : ChangeSpec := { name := "mergeFull", fn := fun _ => fun
  | [d1, d2] => { results := [.lit (.bool false)], args := [d1, d2] }
  | _ => none }
def MergeFullWrongFalsely : Prop := mergeFullRow.holds Try.pinned (OpenSpec.ofChange mergeFullWrong)

/-- 'gunwalelaw07.MergeTells': WHATEVER THE INPUT: true; the input reads as it did. -/
def mergeTellsSpec : ChangeSpec := { name := "mergeTells", fn := fun _ => fun
  | [d1, d2, d3] => { results := [.lit (.bool true)], args := [d1, d2, d3] }
  | _ => none }
def mergeTellsRow : OpenClaim := { program := "ytoffonjlfomnbaa", sum := "a47674a2a806d74f2eda7b3eb3241ca44c970df2f2790b4934b3476f59f4ff21", func := "gunwale/gunwalelaw07.MergeTells", spec := "mergeTells", unfollowed := true, recurses := true, apart := false }
def MergeTellsSaid : Prop := mergeTellsRow.holds Try.pinned (OpenSpec.ofChange mergeTellsSpec)

/-- ITS FALSE NEIGHBOUR: 'it returns false'. Refute it at one input. -/
def mergeTellsWrong : ChangeSpec := { name := "mergeTells", fn := fun _ => fun
  | [d1, d2, d3] => { results := [.lit (.bool false)], args := [d1, d2, d3] }
  | _ => none }
def MergeTellsWrongFalsely : Prop := mergeTellsRow.holds Try.pinned (OpenSpec.ofChange mergeTellsWrong)

/-- 'gunwalelaw07.MergeOrder': WHATEVER THE INPUT: true; the input reads as it did. -/
def mergeOrderSpec : ChangeSpec := { name := "mergeOrder", fn := fun _ => fun
  | [d1, d2] => { results := [.lit (.bool true)], args := [d1, d2] }
  | _ => none }
def mergeOrderRow : OpenClaim := { program := "ytoffonjlfomnbaa", sum := "a47674a2a806d74f2eda7b3eb3241ca44c970df2f2790b4934b3476f59f4ff21", func := "gunwale/gunwalelaw07.MergeOrder", spec := "mergeOrder", unfollowed := true, recurses := true, apart := false }
def MergeOrderSaid : Prop := mergeOrderRow.holds Try.pinned (OpenSpec.ofChange mergeOrderSpec)

/-- ITS FALSE NEIGHBOUR: 'it returns false'. Refute it at one input. -/
def mergeOrderWrong : ChangeSpec := { name := "mergeOrder", fn := fun _ => fun
  | [d1, d2] => { results := [.lit (.bool false)], args := [d1, d2] }
  | _ => none }
def MergeOrderWrongFalsely : Prop := mergeOrderRow.holds Try.pinned (OpenSpec.ofChange mergeOrderWrong)

/-- 'gunwalelaw07.MergeParts': WHATEVER THE INPUT: true; the input reads as it did. -/
def mergePartsSpec : ChangeSpec := { name := "mergeParts", fn := fun _ => fun
  | [d1, d2] => { results := [.lit (.bool true)], args := [d1, d2] }
  | _ => none }
def mergePartsRow : OpenClaim := { program := "ytoffonjlfomnbaa", sum := "a47674a2a806d74f2eda7b3eb3241ca44c970df2f2790b4934b3476f59f4ff21", func := "gunwale/gunwalelaw07.MergeParts", spec := "mergeParts", unfollowed := true, recurses := true, apart := false }
def MergePartsSaid : Prop := mergePartsRow.holds Try.pinned (OpenSpec.ofChange mergePartsSpec)

/-- ITS FALSE NEIGHBOUR: 'it returns false'. Refute it at one input. -/
def mergePartsWrong : ChangeSpec := { name := "mergeParts", fn := fun _ => fun
  | [d1, d2] => { results := [.lit (.bool false)], args := [d1, d2] }
  | _ => none }
def MergePartsWrongFalsely : Prop := mergePartsRow.holds Try.pinned (OpenSpec.ofChange mergePartsWrong)

/-- 'gunwalelaw07.MergeOps': WHATEVER THE INPUT: true; the input reads as it did. -/
def mergeOpsSpec : ChangeSpec := { name := "mergeOps", fn := fun _ => fun
  | [d1, d2] => { results := [.lit (.bool true)], args := [d1, d2] }
  | _ => none }
def mergeOpsRow : OpenClaim := { program := "ytoffonjlfomnbaa", sum := "a47674a2a806d74f2eda7b3eb3241ca44c970df2f2790b4934b3476f59f4ff21", func := "gunwale/gunwalelaw07.MergeOps", spec := "mergeOps", unfollowed := true, recurses := true, apart := false }
def MergeOpsSaid : Prop := mergeOpsRow.holds Try.pinned (OpenSpec.ofChange mergeOpsSpec)

/-- ITS FALSE NEIGHBOUR: 'it returns false'. Refute it at one input. -/
def mergeOpsWrong : ChangeSpec := { name := "mergeOps", fn := fun _ => fun
  | [d1, d2] => { results := [.lit (.bool false)], args := [d1, d2] }
  | _ => none }
def MergeOpsWrongFalsely : Prop := mergeOpsRow.holds Try.pinned (OpenSpec.ofChange mergeOpsWrong)

/-- 'gunwalelaw06.TreeTells': WHATEVER THE INPUT: true; the input reads as it did. -/
def treeTellsSpec : ChangeSpec := { name := "treeTells", fn := fun _ => fun
  | [d1, d2, d3, d4, d5] => { results := [.lit (.bool true)], args := [d1, d2, d3, d4, d5] }
  | _ => none }
def treeTellsRow : OpenClaim := { program := "ytoffonjlfomnbaa", sum := "a47674a2a806d74f2eda7b3eb3241ca44c970df2f2790b4934b3476f59f4ff21", func := "gunwale/gunwalelaw06.TreeTells", spec := "treeTells", unfollowed := true, recurses := true, apart := false }
def TreeTellsSaid : Prop := treeTellsRow.holds Try.pinned (OpenSpec.ofChange treeTellsSpec)

/-- ITS FALSE NEIGHBOUR: 'it returns false'. Refute it at one input. -/
def treeTellsWrong : ChangeSpec := { name := "treeTells", fn := fun _ => fun
  | [d1, d2, d3, d4, d5] => { results := [.lit (.bool false)], args := [d1, d2, d3, d4, d5] }
  | _ => none }
def TreeTellsWrongFalsely : Prop := treeTellsRow.holds Try.pinned (OpenSpec.ofChange treeTellsWrong)

/-- 'gunwalelaw06.TreeBack': WHATEVER THE INPUT: true; the input reads as it did. -/
def treeBackSpec : ChangeSpec := { name := "treeBack", fn := fun _ => fun
  | [d1, d2] => { results := [.lit (.bool true)], args := [d1, d2] }
  | _ => none }
def treeBackRow : OpenClaim := { program := "ytoffonjlfomnbaa", sum := "a47674a2a806d74f2eda7b3eb3241ca44c970df2f2790b4934b3476f59f4ff21", func := "gunwale/gunwalelaw06.TreeBack", spec := "treeBack", unfollowed := true, recurses := true, apart := false }
def TreeBackSaid : Prop := treeBackRow.holds Try.pinned (OpenSpec.ofChange treeBackSpec)

/-- ITS FALSE NEIGHBOUR: 'it returns false'. Refute it at one input. -/
def treeBackWrong : ChangeSpec := { name := "treeBack", fn := fun _ => fun
  | [d1, d2] => { results := [.lit (.bool false)], args := [d1, d2] }
  | _ => none }
def TreeBackWrongFalsely : Prop := treeBackRow.holds Try.pinned (OpenSpec.ofChange treeBackWrong)

/-- 'gunwalelaw06.TreeOnly': WHATEVER THE INPUT: true; the input reads as it did. -/
def treeOnlySpec : ChangeSpec := { name := "treeOnly", fn := fun _ => fun
  | [d1, d2, d3] => { results := [.lit (.bool true)], args := [d1, d2, d3] }
  | _ => none }
def treeOnlyRow : OpenClaim := { program := "ytoffonjlfomnbaa", sum := "a47674a2a806d74f2eda7b3eb3241ca44c970df2f2790b4934b3476f59f4ff21", func := "gunwale/gunwalelaw06.TreeOnly", spec := "treeOnly", unfollowed := true, recurses := true, apart := false }
def TreeOnlySaid : Prop := treeOnlyRow.holds Try.pinned (OpenSpec.ofChange treeOnlySpec)

/-- ITS FALSE NEIGHBOUR: 'it returns false'. Refute it at one input. -/
def treeOnlyWrong : ChangeSpec := { name := "treeOnly", fn := fun _ => fun
  | [d1, d2, d3] => { results := [.lit (.bool false)], args := [d1, d2, d3] }
  | _ => none }
def TreeOnlyWrongFalsely : Prop := treeOnlyRow.holds Try.pinned (OpenSpec.ofChange treeOnlyWrong)

/-- 'gunwalelaw06.TreeForest': WHATEVER THE INPUT: true; the input reads as it did. -/
def treeForestSpec : ChangeSpec := { name := "treeForest", fn := fun _ => fun
  | [d] => { results := [.lit (.bool true)], args := [d] }
  | _ => none }
def treeForestRow : OpenClaim := { program := "ytoffonjlfomnbaa", sum := "a47674a2a806d74f2eda7b3eb3241ca44c970df2f2790b4934b3476f59f4ff21", func := "gunwale/gunwalelaw06.TreeForest", spec := "treeForest", unfollowed := true, recurses := true, apart := false }
def TreeForestSaid : Prop := treeForestRow.holds Try.pinned (OpenSpec.ofChange treeForestSpec)

/-- ITS FALSE NEIGHBOUR: 'it returns false'. Refute it at one input. -/
def treeForestWrong : ChangeSpec := { name := "treeForest", fn := fun _ => fun
  | [d] => { results := [.lit (.bool false)], args := [d] }
  | _ => none }
def TreeForestWrongFalsely : Prop := treeForestRow.holds Try.pinned (OpenSpec.ofChange treeForestWrong)

/-- 'gunwalelaw06.TreeOrder': WHATEVER THE INPUT: true; the input reads as it did. -/
def treeOrderSpec : ChangeSpec := { name := "treeOrder", fn := fun _ => fun
  | [d1, d2] => { results := [.lit (.bool true)], args := [d1, d2] }
  | _ => none }
def treeOrderRow : OpenClaim := { program := "ytoffonjlfomnbaa", sum := "a47674a2a806d74f2eda7b3eb3241ca44c970df2f2790b4934b3476f59f4ff21", func := "gunwale/gunwalelaw06.TreeOrder", spec := "treeOrder", unfollowed := true, recurses := true, apart := false }
def TreeOrderSaid : Prop := treeOrderRow.holds Try.pinned (OpenSpec.ofChange treeOrderSpec)

/-- ITS FALSE NEIGHBOUR: 'it returns false'. Refute it at one input. -/
def treeOrderWrong : ChangeSpec := { name := "treeOrder", fn := fun _ => fun
  | [d1, d2] => { results := [.lit (.bool false)], args := [d1, d2] }
  | _ => none }
def TreeOrderWrongFalsely : Prop := treeOrderRow.holds Try.pinned (OpenSpec.ofChange treeOrderWrong)

/-- 'gunwalelaw06.TreeLast': WHATEVER THE INPUT: true; the input reads as it did. -/
def treeLastSpec : ChangeSpec := { name := "treeLast", fn := fun _ => fun
  | [d] => { results := [.lit (.bool true)], args := [d] }
  | _ => none }
def treeLastRow : OpenClaim := { program := "ytoffonjlfomnbaa", sum := "a47674a2a806d74f2eda7b3eb3241ca44c970df2f2790b4934b3476f59f4ff21", func := "gunwale/gunwalelaw06.TreeLast", spec := "treeLast", unfollowed := true, recurses := true, apart := false }
def TreeLastSaid : Prop := treeLastRow.holds Try.pinned (OpenSpec.ofChange treeLastSpec)

/-- ITS FALSE NEIGHBOUR: 'it returns false'. Refute it at one input. -/
def treeLastWrong : ChangeSpec := { name := "treeLast", fn := fun _ => fun
  | [d] => { results := [.lit (.bool false)], args := [d] }
  | _ => none }
def TreeLastWrongFalsely : Prop := treeLastRow.holds Try.pinned (OpenSpec.ofChange treeLastWrong)

/-- 'gunwalelaw06.TreeUp': WHATEVER THE INPUT: true; the input reads as it did. -/
def treeUpSpec : ChangeSpec := { name := "treeUp", fn := fun _ => fun
  | [d1, d2] => { results := [.lit (.bool true)], args := [d1, d2] }
  | _ => none }
def treeUpRow : OpenClaim := { program := "ytoffonjlfomnbaa", sum := "a47674a2a806d74f2eda7b3eb3241ca44c970df2f2790b4934b3476f59f4ff21", func := "gunwale/gunwalelaw06.TreeUp", spec := "treeUp", unfollowed := true, recurses := true, apart := false }
def TreeUpSaid : Prop := treeUpRow.holds Try.pinned (OpenSpec.ofChange treeUpSpec)

/-- ITS FALSE NEIGHBOUR: 'it returns false'. Refute it at one input. -/
def treeUpWrong : ChangeSpec := { name := "treeUp", fn := fun _ => fun
  | [d1, d2] => { results := [.lit (.bool false)], args := [d1, d2] }
  | _ => none }
def TreeUpWrongFalsely : Prop := treeUpRow.holds Try.pinned (OpenSpec.ofChange treeUpWrong)

/-- 'gunwalelaw07.MergeFolds': WHATEVER THE INPUT: true; the input reads as it did. -/
def mergeFoldsSpec : ChangeSpec := { name := "mergeFolds", fn := fun _ => fun
  | [d] => { results := [.lit (.bool true)], args := [d] }
  | _ => none }
def mergeFoldsRow : OpenClaim := { program := "ytoffonjlfomnbaa", sum := "a47674a2a806d74f2eda7b3eb3241ca44c970df2f2790b4934b3476f59f4ff21", func := "gunwale/gunwalelaw07.MergeFolds", spec := "mergeFolds", unfollowed := true, recurses := true, apart := false }
def MergeFoldsSaid : Prop := mergeFoldsRow.holds Try.pinned (OpenSpec.ofChange mergeFoldsSpec)

/-- ITS FALSE NEIGHBOUR: 'it returns false'. Refute it at one input. -/
def mergeFoldsWrong : ChangeSpec := { name := "mergeFolds", fn := fun _ => fun
  | [d] => { results := [.lit (.bool false)], args := [d] }
  | _ => none }
def MergeFoldsWrongFalsely : Prop := mergeFoldsRow.holds Try.pinned (OpenSpec.ofChange mergeFoldsWrong)

/- THE SECOND FORM. 'bulk': how many values and letters a reading holds, each counted each time it is reached (what is shared counts as often as it is met; a slice's spare places count too). A statement '..UptoSaid' is the law's where the arguments, and the package variables that the reading takes, are together of bulk at most 1048576: NARROWER than '..Said'. Prove '..Said' where nothing that the law and all that it calls make is longer than what came in: it says more and counts as full. Else prove '..UptoSaid'. A law counts once. -/
mutual
def uptoBulk {H : Type} : DataW H → Nat
  | .lit (.string bytes) => bytes.length + 1
  | .lit _ => 1
  | .nil => 1
  | .ptr d => uptoBulk d + 1
  | .slice elems spare => uptoBulkAll elems + uptoBulkAll spare + 1
  | .agg parts => uptoBulkAll parts + 1
  | .iface _ d => uptoBulk d + 1
  | .map entries => uptoBulkEntries entries + 1
  | .held _ => 1
def uptoBulkAll {H : Type} : List (DataW H) → Nat
  | [] => 0
  | d :: r => uptoBulk d + uptoBulkAll r
def uptoBulkEntries {H : Type} : List (Lit × DataW H) → Nat
  | [] => 0
  | x :: r => uptoBulkEntry x + uptoBulkEntries r
def uptoBulkEntry {H : Type} : Lit × DataW H → Nat
  | (.string bytes, d) => bytes.length + uptoBulk d + 1
  | (_, d) => uptoBulk d + 1
 end
def uptoSmall : (H : Type) → List (DataW H) → Bool := fun _ ds => decide (uptoBulkAll ds ≤ 1048576)
def OpenSpec.upto (s : _root_.Go.ChangeSpec) : _root_.Go.OpenSpec := { _root_.Go.OpenSpec.ofChange s with cond := some uptoSmall }

/-- 'gunwalelaw07.MergeFull', WHERE WHAT IT READS IS OF BULK AT MOST 1048576: true; the input reads as it did. -/
def mergeFullUptoRow : OpenClaim := { program := "ytoffonjlfomnbaa", sum := "a47674a2a806d74f2eda7b3eb3241ca44c970df2f2790b4934b3476f59f4ff21", func := "gunwale/gunwalelaw07.MergeFull", spec := "mergeFull", unfollowed := true, recurses := true, apart := false, narrowed := true }
def MergeFullUptoSaid : Prop := mergeFullUptoRow.holds Try.pinned (OpenSpec.upto mergeFullSpec)

/-- 'gunwalelaw07.MergeTells', WHERE WHAT IT READS IS OF BULK AT MOST 1048576: true; the input reads as it did. -/
def mergeTellsUptoRow : OpenClaim := { program := "ytoffonjlfomnbaa", sum := "a47674a2a806d74f2eda7b3eb3241ca44c970df2f2790b4934b3476f59f4ff21", func := "gunwale/gunwalelaw07.MergeTells", spec := "mergeTells", unfollowed := true, recurses := true, apart := false, narrowed := true }
def MergeTellsUptoSaid : Prop := mergeTellsUptoRow.holds Try.pinned (OpenSpec.upto mergeTellsSpec)

/-- 'gunwalelaw07.MergeOrder', WHERE WHAT IT READS IS OF BULK AT MOST 1048576: true; the input reads as it did. -/
def mergeOrderUptoRow : OpenClaim := { program := "ytoffonjlfomnbaa", sum := "a47674a2a806d74f2eda7b3eb3241ca44c970df2f2790b4934b3476f59f4ff21", func := "gunwale/gunwalelaw07.MergeOrder", spec := "mergeOrder", unfollowed := true, recurses := true, apart := false, narrowed := true }
def MergeOrderUptoSaid : Prop := mergeOrderUptoRow.holds Try.pinned (OpenSpec.upto mergeOrderSpec)

/-- 'gunwalelaw07.MergeParts', WHERE WHAT IT READS IS OF BULK AT MOST 1048576: true; the input reads as it did. -/
def mergePartsUptoRow : OpenClaim := { program := "ytoffonjlfomnbaa", sum := "a47674a2a806d74f2eda7b3eb3241ca44c970df2f2790b4934b3476f59f4ff21", func := "gunwale/gunwalelaw07.MergeParts", spec := "mergeParts", unfollowed := true, recurses := true, apart := false, narrowed := true }
def MergePartsUptoSaid : Prop := mergePartsUptoRow.holds Try.pinned (OpenSpec.upto mergePartsSpec)

/-- 'gunwalelaw07.MergeOps', WHERE WHAT IT READS IS OF BULK AT MOST 1048576: true; the input reads as it did. -/
def mergeOpsUptoRow : OpenClaim := { program := "ytoffonjlfomnbaa", sum := "a47674a2a806d74f2eda7b3eb3241ca44c970df2f2790b4934b3476f59f4ff21", func := "gunwale/gunwalelaw07.MergeOps", spec := "mergeOps", unfollowed := true, recurses := true, apart := false, narrowed := true }
def MergeOpsUptoSaid : Prop := mergeOpsUptoRow.holds Try.pinned (OpenSpec.upto mergeOpsSpec)

/-- 'gunwalelaw06.TreeTells', WHERE WHAT IT READS IS OF BULK AT MOST 1048576: true; the input reads as it did. -/
def treeTellsUptoRow : OpenClaim := { program := "ytoffonjlfomnbaa", sum := "a47674a2a806d74f2eda7b3eb3241ca44c970df2f2790b4934b3476f59f4ff21", func := "gunwale/gunwalelaw06.TreeTells", spec := "treeTells", unfollowed := true, recurses := true, apart := false, narrowed := true }
def TreeTellsUptoSaid : Prop := treeTellsUptoRow.holds Try.pinned (OpenSpec.upto treeTellsSpec)

/-- 'gunwalelaw06.TreeBack', WHERE WHAT IT READS IS OF BULK AT MOST 1048576: true; the input reads as it did. -/
def treeBackUptoRow : OpenClaim := { program := "ytoffonjlfomnbaa", sum := "a47674a2a806d74f2eda7b3eb3241ca44c970df2f2790b4934b3476f59f4ff21", func := "gunwale/gunwalelaw06.TreeBack", spec := "treeBack", unfollowed := true, recurses := true, apart := false, narrowed := true }
def TreeBackUptoSaid : Prop := treeBackUptoRow.holds Try.pinned (OpenSpec.upto treeBackSpec)

/-- 'gunwalelaw06.TreeOnly', WHERE WHAT IT READS IS OF BULK AT MOST 1048576: true; the input reads as it did. -/
def treeOnlyUptoRow : OpenClaim := { program := "ytoffonjlfomnbaa", sum := "a47674a2a806d74f2eda7b3eb3241ca44c970df2f2790b4934b3476f59f4ff21", func := "gunwale/gunwalelaw06.TreeOnly", spec := "treeOnly", unfollowed := true, recurses := true, apart := false, narrowed := true }
def TreeOnlyUptoSaid : Prop := treeOnlyUptoRow.holds Try.pinned (OpenSpec.upto treeOnlySpec)

/-- 'gunwalelaw06.TreeForest', WHERE WHAT IT READS IS OF BULK AT MOST 1048576: true; the input reads as it did. -/
def treeForestUptoRow : OpenClaim := { program := "ytoffonjlfomnbaa", sum := "a47674a2a806d74f2eda7b3eb3241ca44c970df2f2790b4934b3476f59f4ff21", func := "gunwale/gunwalelaw06.TreeForest", spec := "treeForest", unfollowed := true, recurses := true, apart := false, narrowed := true }
def TreeForestUptoSaid : Prop := treeForestUptoRow.holds Try.pinned (OpenSpec.upto treeForestSpec)

/-- 'gunwalelaw06.TreeOrder', WHERE WHAT IT READS IS OF BULK AT MOST 1048576: true; the input reads as it did. -/
def treeOrderUptoRow : OpenClaim := { program := "ytoffonjlfomnbaa", sum := "a47674a2a806d74f2eda7b3eb3241ca44c970df2f2790b4934b3476f59f4ff21", func := "gunwale/gunwalelaw06.TreeOrder", spec := "treeOrder", unfollowed := true, recurses := true, apart := false, narrowed := true }
def TreeOrderUptoSaid : Prop := treeOrderUptoRow.holds Try.pinned (OpenSpec.upto treeOrderSpec)

/-- 'gunwalelaw06.TreeLast', WHERE WHAT IT READS IS OF BULK AT MOST 1048576: true; the input reads as it did. -/
def treeLastUptoRow : OpenClaim := { program := "ytoffonjlfomnbaa", sum := "a47674a2a806d74f2eda7b3eb3241ca44c970df2f2790b4934b3476f59f4ff21", func := "gunwale/gunwalelaw06.TreeLast", spec := "treeLast", unfollowed := true, recurses := true, apart := false, narrowed := true }
def TreeLastUptoSaid : Prop := treeLastUptoRow.holds Try.pinned (OpenSpec.upto treeLastSpec)

/-- 'gunwalelaw06.TreeUp', WHERE WHAT IT READS IS OF BULK AT MOST 1048576: true; the input reads as it did. -/
def treeUpUptoRow : OpenClaim := { program := "ytoffonjlfomnbaa", sum := "a47674a2a806d74f2eda7b3eb3241ca44c970df2f2790b4934b3476f59f4ff21", func := "gunwale/gunwalelaw06.TreeUp", spec := "treeUp", unfollowed := true, recurses := true, apart := false, narrowed := true }
def TreeUpUptoSaid : Prop := treeUpUptoRow.holds Try.pinned (OpenSpec.upto treeUpSpec)

/-- 'gunwalelaw07.MergeFolds', WHERE WHAT IT READS IS OF BULK AT MOST 1048576: true; the input reads as it did. -/
def mergeFoldsUptoRow : OpenClaim := { program := "ytoffonjlfomnbaa", sum := "a47674a2a806d74f2eda7b3eb3241ca44c970df2f2790b4934b3476f59f4ff21", func := "gunwale/gunwalelaw07.MergeFolds", spec := "mergeFolds", unfollowed := true, recurses := true, apart := false, narrowed := true }
def MergeFoldsUptoSaid : Prop := mergeFoldsUptoRow.holds Try.pinned (OpenSpec.upto mergeFoldsSpec)

end Rows
end Go.Proofs.Ytoffonjlfomnbaa

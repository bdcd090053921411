/- What comes in with a row, as abstract values: stamps, operations, nodes, what was changed, numbers, bools. No condition. -/
import Derived.Test.YtoffonjlfomnbaaGwData
import Derived.Test.YtoffonjlfomnbaaAvFacts
import Derived.Test.YtoffonjlfomnbaaAvRow
namespace Go.Proofs.Ytoffonjlfomnbaa
set_option maxRecDepth 20000
open Go Go.Aw Go.Gw Go.ChangeShapes Go.WideShapes Go.ChangeAt Go.RowKit

theorem own : ownKnob Try.prog.godebug = none := by kernel_rfl
theorem laidOut : laidOutB Try.prog = true := by kernel_rfl

theorem aggSt : isAggT Try.prog 26 = true := by kernel_rfl
theorem kindSt : kindB Try.prog 26 = true := by kernel_rfl
theorem aggOp : isAggT Try.prog 28 = true := by kernel_rfl
theorem kindOp : kindB Try.prog 28 = true := by kernel_rfl
theorem aggNd : isAggT Try.prog 52 = true := by kernel_rfl
theorem kindNd : kindB Try.prog 52 = true := by kernel_rfl
theorem aggUn : isAggT Try.prog 54 = true := by kernel_rfl
theorem kindUn : kindB Try.prog 54 = true := by kernel_rfl
theorem aggOps : isAggT Try.prog 24 = false := by kernel_rfl
theorem kindOps : kindB Try.prog 24 = true := by kernel_rfl
theorem aggNds : isAggT Try.prog 31 = false := by kernel_rfl
theorem kindNds : kindB Try.prog 31 = true := by kernel_rfl
theorem aggInt : isAggT Try.prog 3 = false := by kernel_rfl
theorem aggU8 : isAggT Try.prog 5 = false := by kernel_rfl
theorem aggU16 : isAggT Try.prog 22 = false := by kernel_rfl

theorem cells_st {ys : List AV} (h : Sh Try.prog 26 ys) : ∃ p : Stm, ys = [.int .i64 p.c, .int .i64 p.r] := by
  obtain ⟨y, ys', rfl, h1, h2⟩ := shF_cons (sh_struct Try.underlying26 kindSt h)
  obtain ⟨z, zs, rfl, h3, h4⟩ := shF_cons h2
  obtain rfl := shF_nil h4
  obtain ⟨a, rfl, _⟩ := sh_int Try.underlying3 h1
  obtain ⟨b, rfl, _⟩ := sh_int Try.underlying3 h3
  exact ⟨⟨a, b⟩, rfl⟩

theorem cells_op' {ys : List AV} (h : Sh Try.prog 28 ys) : ∃ o : Opn, ys = (opA o).cells := by
  obtain ⟨y1, ys1, rfl, h1, r1⟩ := shF_cons (sh_struct Try.underlying28 kindOp h)
  obtain ⟨y2, ys2, rfl, h2, r2⟩ := shF_cons r1
  obtain ⟨y3, ys3, rfl, h3, r3⟩ := shF_cons r2
  obtain ⟨y4, ys4, rfl, h4, r4⟩ := shF_cons r3
  obtain ⟨y5, ys5, rfl, h5, r5⟩ := shF_cons r4
  obtain ⟨y6, ys6, rfl, h6, r6⟩ := shF_cons r5
  obtain rfl := shF_nil r6
  obtain ⟨p, rfl⟩ := cells_st h1
  obtain ⟨a, rfl, _⟩ := sh_int Try.underlying3 h2
  obtain ⟨b, rfl, _⟩ := sh_int Try.underlying3 h3
  obtain ⟨c, rfl, _⟩ := sh_int Try.underlying3 h4
  obtain ⟨s, rfl, _⟩ := sh_str Try.underlying9 h5
  obtain ⟨u, rfl, _⟩ := sh_str Try.underlying9 h6
  exact ⟨⟨p, a, b, c, s, u⟩, rfl⟩

theorem cells_nd' {ys : List AV} (h : Sh Try.prog 52 ys) : ∃ o : Nd, ys = (ndA o).cells := by
  obtain ⟨y1, ys1, rfl, h1, r1⟩ := shF_cons (sh_struct Try.underlying52 kindNd h)
  obtain ⟨y2, ys2, rfl, h2, r2⟩ := shF_cons r1
  obtain ⟨y3, ys3, rfl, h3, r3⟩ := shF_cons r2
  obtain ⟨y4, ys4, rfl, h4, r4⟩ := shF_cons r3
  obtain ⟨y5, ys5, rfl, h5, r5⟩ := shF_cons r4
  obtain ⟨y6, ys6, rfl, h6, r6⟩ := shF_cons r5
  obtain rfl := shF_nil r6
  obtain ⟨a, rfl, _⟩ := sh_int Try.underlying3 h1
  obtain ⟨b, rfl, _⟩ := sh_int Try.underlying3 h2
  obtain ⟨s, rfl, _⟩ := sh_str Try.underlying9 h3
  obtain ⟨p, rfl⟩ := cells_st h4
  obtain ⟨u, rfl, _⟩ := sh_str Try.underlying9 h5
  obtain ⟨q, rfl⟩ := cells_st h6
  exact ⟨⟨a, b, s, p, u, q⟩, rfl⟩

theorem cells_un' {ys : List AV} (h : Sh Try.prog 54 ys) : ∃ o : Und, ys = (unA o).cells := by
  obtain ⟨y1, ys1, rfl, h1, r1⟩ := shF_cons (sh_struct Try.underlying54 kindUn h)
  obtain ⟨y2, ys2, rfl, h2, r2⟩ := shF_cons r1
  obtain ⟨y3, ys3, rfl, h3, r3⟩ := shF_cons r2
  obtain rfl := shF_nil r3
  obtain ⟨a, rfl⟩ := sh_bool Try.underlying4 h1
  obtain ⟨b, rfl⟩ := sh_bool Try.underlying4 h2
  obtain ⟨n, rfl⟩ := cells_nd' h3
  exact ⟨⟨a, b, n⟩, rfl⟩

theorem in_st {x : AV} (h : ∃ ys, x = mkA Try.prog 26 ys ∧ Sh Try.prog 26 ys ∧ (isAggT Try.prog 26 = true ∨ ys.length = 1)) : ∃ a, x = stA a := by
  obtain ⟨ys, rfl, h, _⟩ := h
  obtain ⟨p, rfl⟩ := cells_st h
  exact ⟨p, by rw [mkA, if_pos aggSt]; rfl⟩
theorem in_op {x : AV} (h : ∃ ys, x = mkA Try.prog 28 ys ∧ Sh Try.prog 28 ys ∧ (isAggT Try.prog 28 = true ∨ ys.length = 1)) : ∃ a, x = opA a := by
  obtain ⟨ys, rfl, h, _⟩ := h
  obtain ⟨p, rfl⟩ := cells_op' h
  exact ⟨p, by rw [mkA, if_pos aggOp]; rfl⟩
theorem in_un {x : AV} (h : ∃ ys, x = mkA Try.prog 54 ys ∧ Sh Try.prog 54 ys ∧ (isAggT Try.prog 54 = true ∨ ys.length = 1)) : ∃ a, x = unA a := by
  obtain ⟨ys, rfl, h, _⟩ := h
  obtain ⟨p, rfl⟩ := cells_un' h
  exact ⟨p, by rw [mkA, if_pos aggUn]; rfl⟩

theorem list_op {zs : List (List AV)} (h : ∀ z ∈ zs, Sh Try.prog 28 z) : ∃ l : List Opn, zs.map (mkA Try.prog 28) = l.map opA ∧ l.length = zs.length := by
  induction zs with
  | nil => exact ⟨[], rfl, rfl⟩
  | cons z zs ih =>
    obtain ⟨p, rfl⟩ := cells_op' (h z (by simp))
    obtain ⟨l, h1, h2⟩ := ih fun z hz => h z (by simp [hz])
    refine ⟨p :: l, ?_, by simp [h2]⟩
    rw [List.map_cons, List.map_cons, h1, mkA, if_pos aggOp]; rfl
theorem list_nd {zs : List (List AV)} (h : ∀ z ∈ zs, Sh Try.prog 52 z) : ∃ l : List Nd, zs.map (mkA Try.prog 52) = l.map ndA ∧ l.length = zs.length := by
  induction zs with
  | nil => exact ⟨[], rfl, rfl⟩
  | cons z zs ih =>
    obtain ⟨p, rfl⟩ := cells_nd' (h z (by simp))
    obtain ⟨l, h1, h2⟩ := ih fun z hz => h z (by simp [hz])
    refine ⟨p :: l, ?_, by simp [h2]⟩
    rw [List.map_cons, List.map_cons, h1, mkA, if_pos aggNd]; rfl

theorem in_ops {x : AV} (h : ∃ ys, x = mkA Try.prog 24 ys ∧ Sh Try.prog 24 ys ∧ (isAggT Try.prog 24 = true ∨ ys.length = 1)) : ∃ l : List Opn, x = .sl false (l.map opA) ∧ l.length ≤ maxLen := by
  obtain ⟨ys, rfl, h, _⟩ := h
  obtain ⟨zs, rfl, hl, hz⟩ := sh_slice Try.underlying24 kindOps h
  obtain ⟨l, h1, h2⟩ := list_op hz
  refine ⟨l, ?_, by rw [h2]; exact hl⟩
  rw [mkA, if_neg (by rw [aggOps]; decide), h1]; rfl
theorem in_nds {x : AV} (h : ∃ ys, x = mkA Try.prog 31 ys ∧ Sh Try.prog 31 ys ∧ (isAggT Try.prog 31 = true ∨ ys.length = 1)) : ∃ l : List Nd, x = .sl false (l.map ndA) ∧ l.length ≤ maxLen := by
  obtain ⟨ys, rfl, h, _⟩ := h
  obtain ⟨zs, rfl, hl, hz⟩ := sh_slice Try.underlying31 kindNds h
  obtain ⟨l, h1, h2⟩ := list_nd hz
  refine ⟨l, ?_, by rw [h2]; exact hl⟩
  rw [mkA, if_neg (by rw [aggNds]; decide), h1]; rfl
theorem in_int {x : AV} (h : ∃ ys, x = mkA Try.prog 3 ys ∧ Sh Try.prog 3 ys ∧ (isAggT Try.prog 3 = true ∨ ys.length = 1)) : ∃ n, x = .int .i64 n := by
  obtain ⟨ys, rfl, h, _⟩ := h
  obtain ⟨n, rfl, hw⟩ := sh_int Try.underlying3 h
  exact ⟨n, by rw [mkA, if_neg (by rw [aggInt]; decide)]; rfl⟩
theorem in_u8 {x : AV} (h : ∃ ys, x = mkA Try.prog 5 ys ∧ Sh Try.prog 5 ys ∧ (isAggT Try.prog 5 = true ∨ ys.length = 1)) : ∃ n, x = .int .u8 n := by
  obtain ⟨ys, rfl, h, _⟩ := h
  obtain ⟨n, rfl, hw⟩ := sh_int Try.underlying5 h
  exact ⟨n, by rw [mkA, if_neg (by rw [aggU8]; decide)]; rfl⟩
theorem in_u16 {x : AV} (h : ∃ ys, x = mkA Try.prog 22 ys ∧ Sh Try.prog 22 ys ∧ (isAggT Try.prog 22 = true ∨ ys.length = 1)) : ∃ n, x = .int .u16 n := by
  obtain ⟨ys, rfl, h, _⟩ := h
  obtain ⟨n, rfl, hw⟩ := sh_int Try.underlying22 h
  exact ⟨n, by rw [mkA, if_neg (by rw [aggU16]; decide)]; rfl⟩
end Go.Proofs.Ytoffonjlfomnbaa

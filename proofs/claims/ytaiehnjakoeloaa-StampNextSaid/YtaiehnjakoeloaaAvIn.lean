/- What comes in with a row, as abstract values: a stamp, a list of stamps, numbers, a bool. No condition. -/
import Derived.Test.YtaiehnjakoeloaaAvLawN
import Derived.Test.YtaiehnjakoeloaaAvRow
namespace Go.Proofs.Ytaiehnjakoeloaa
open Go Go.Aw Go.ChangeShapes Go.WideShapes Go.ChangeAt Go.RowKit

theorem own : ownKnob Try.prog.godebug = none := by kernel_rfl
theorem laidOut : laidOutB Try.prog = true := by kernel_rfl

theorem wf_i64 {n : Int} (h : (Lit.int .i64 n).wf = true) : -9223372036854775808 ≤ n ∧ n ≤ 9223372036854775807 := by
  have h2 : (decide (IntKind.i64.min ≤ n) && decide (n ≤ IntKind.i64.max)) = true := h
  simp only [Bool.and_eq_true, decide_eq_true_eq] at h2
  exact h2
theorem wf_u8 {n : Int} (h : (Lit.int .u8 n).wf = true) : 0 ≤ n ∧ n ≤ 255 := by
  have h2 : (decide (IntKind.u8.min ≤ n) && decide (n ≤ IntKind.u8.max)) = true := h
  simp only [Bool.and_eq_true, decide_eq_true_eq] at h2
  exact h2

theorem aggSt : isAggT Try.prog 23 = true := by kernel_rfl
theorem kindSt : kindB Try.prog 23 = true := by kernel_rfl
theorem aggSts : isAggT Try.prog 24 = false := by kernel_rfl
theorem kindSts : kindB Try.prog 24 = true := by kernel_rfl
theorem aggInt : isAggT Try.prog 3 = false := by kernel_rfl
theorem aggBool : isAggT Try.prog 4 = false := by kernel_rfl
theorem aggU8 : isAggT Try.prog 5 = false := by kernel_rfl

theorem cells_st {ys : List AV} (h : Sh Try.prog 23 ys) : ∃ p : Int × Int, ys = [.int .i64 p.1, .int .i64 p.2] := by
  obtain ⟨y, ys', rfl, h1, h2⟩ := shF_cons (sh_struct Try.underlying23 kindSt h)
  obtain ⟨z, zs, rfl, h3, h4⟩ := shF_cons h2
  obtain rfl := shF_nil h4
  obtain ⟨a, rfl, _⟩ := sh_int Try.underlying3 h1
  obtain ⟨b, rfl, _⟩ := sh_int Try.underlying3 h3
  exact ⟨(a, b), rfl⟩

theorem in_st {x : AV} (h : ∃ ys, x = mkA Try.prog 23 ys ∧ Sh Try.prog 23 ys ∧ (isAggT Try.prog 23 = true ∨ ys.length = 1)) : ∃ a b, x = .agg [.int .i64 a, .int .i64 b] := by
  obtain ⟨ys, rfl, h, _⟩ := h
  obtain ⟨p, rfl⟩ := cells_st h
  exact ⟨p.1, p.2, by rw [mkA, if_pos aggSt]⟩

theorem list_st {zs : List (List AV)} (h : ∀ z ∈ zs, Sh Try.prog 23 z) : ∃ l : List (Int × Int), zs.map (mkA Try.prog 23) = l.map stA ∧ l.length = zs.length := by
  induction zs with
  | nil => exact ⟨[], rfl, rfl⟩
  | cons z zs ih =>
    obtain ⟨p, rfl⟩ := cells_st (h z (by simp))
    obtain ⟨l, h1, h2⟩ := ih fun z hz => h z (by simp [hz])
    refine ⟨p :: l, ?_, by simp [h2]⟩
    rw [List.map_cons, List.map_cons, h1, mkA, if_pos aggSt]; rfl

theorem in_sts {x : AV} (h : ∃ ys, x = mkA Try.prog 24 ys ∧ Sh Try.prog 24 ys ∧ (isAggT Try.prog 24 = true ∨ ys.length = 1)) : ∃ l : List (Int × Int), x = .sl false (l.map stA) ∧ l.length ≤ maxLen := by
  obtain ⟨ys, rfl, h, _⟩ := h
  obtain ⟨zs, rfl, hl, hz⟩ := sh_slice Try.underlying24 kindSts h
  obtain ⟨l, h1, h2⟩ := list_st hz
  refine ⟨l, ?_, by rw [h2]; exact hl⟩
  rw [mkA, if_neg (by rw [aggSts]; decide), h1]; rfl

theorem in_int {x : AV} (h : ∃ ys, x = mkA Try.prog 3 ys ∧ Sh Try.prog 3 ys ∧ (isAggT Try.prog 3 = true ∨ ys.length = 1)) : ∃ n, x = .int .i64 n ∧ -9223372036854775808 ≤ n ∧ n ≤ 9223372036854775807 := by
  obtain ⟨ys, rfl, h, _⟩ := h
  obtain ⟨n, rfl, hw⟩ := sh_int Try.underlying3 h
  exact ⟨n, by rw [mkA, if_neg (by rw [aggInt]; decide)]; rfl, wf_i64 hw⟩
theorem in_u8 {x : AV} (h : ∃ ys, x = mkA Try.prog 5 ys ∧ Sh Try.prog 5 ys ∧ (isAggT Try.prog 5 = true ∨ ys.length = 1)) : ∃ n, x = .int .u8 n ∧ 0 ≤ n ∧ n ≤ 255 := by
  obtain ⟨ys, rfl, h, _⟩ := h
  obtain ⟨n, rfl, hw⟩ := sh_int Try.underlying5 h
  exact ⟨n, by rw [mkA, if_neg (by rw [aggU8]; decide)]; rfl, wf_u8 hw⟩
theorem in_bool {x : AV} (h : ∃ ys, x = mkA Try.prog 4 ys ∧ Sh Try.prog 4 ys ∧ (isAggT Try.prog 4 = true ∨ ys.length = 1)) : ∃ b, x = .bool b := by
  obtain ⟨ys, rfl, h, _⟩ := h
  obtain ⟨b, rfl⟩ := sh_bool Try.underlying4 h
  exact ⟨b, by rw [mkA, if_neg (by rw [aggBool]; decide)]; rfl⟩
end Go.Proofs.Ytaiehnjakoeloaa

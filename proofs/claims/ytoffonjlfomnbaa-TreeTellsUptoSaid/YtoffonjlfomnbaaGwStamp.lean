/- What the functions of the stamps answer. No condition. -/
import Derived.Test.YtoffonjlfomnbaaAvFacts
import Derived.Test.YtoffonjlfomnbaaGwData
namespace Go.Proofs.Ytoffonjlfomnbaa
open Go Go.Aw Go.Gw
set_option linter.unusedSimpArgs false
set_option maxRecDepth 20000

def okI (a b : Int) : Bool := decide (1 ≤ a) && decide (a ≤ 1048576) && decide (0 ≤ b) && decide (b ≤ 63)

theorem okI_t {a b : Int} : okI a b = true ↔ 1 ≤ a ∧ a ≤ 1048576 ∧ 0 ≤ b ∧ b ≤ 63 := by
  simp [okI, and_assoc]

theorem check_c (a b : Int) (H : AHeap) : FnC Try.prog 58 [.agg [.int .i64 a, .int .i64 b]] H (.bool (okI a b)) := by
  refine fnC_of Try.func58 rfl (Nat.le_of_ble_eq_true rfl) ?_
  repeat' first | ((first | refine callP_false (.bool false) ?_ | refine aw_region rfl ?_ | refine aw_region_draw mixedF rfl (by kernel_rfl) ?_ | refine aw_ret ?_ | refine aw_skip ?_ | refine aw_exit ?_ | refine aw_label ?_); simp only [go_sem, ↓reduceIte, Nat.reduceEqDiff, Nat.reduceAdd, Nat.reduceSub, Nat.reduceMul, Nat.reduceLeDiff, Nat.reduceLT, Nat.reduceBEq, Int.reduceNeg, Int.reduceLE, Int.reduceLT, Int.reduceToNat, String.reduceEq]) | refine aw_seq ?_ | refine aw_block ?_ | refine aw_scope ?_ | (refine aw_cond rfl (fun h => ?_) (fun h => ?_) <;> try (exfalso; first | (simp at h; done) | (simp at h; omega))) | ((with_reducible refine And.intro ?_ ?_); focus (first | omega | (intros; simp_all; done) | (simp; omega)))
  exact ⟨_, _, rfl, .cl _ (.bool _), rfl⟩

theorem rcheck_c (a b : Int) (H : AHeap) : FnC Try.prog 80 [.agg [.int .i64 a, .int .i64 b]] H (.bool (okI a b)) := by
  refine fnC_of Try.func80 rfl (Nat.le_of_ble_eq_true rfl) ?_
  repeat' first | ((first | refine callP_false (.bool false) ?_ | refine aw_region rfl ?_ | refine aw_region_draw mixedF rfl (by kernel_rfl) ?_ | refine aw_ret ?_ | refine aw_skip ?_ | refine aw_exit ?_ | refine aw_label ?_); simp only [go_sem, ↓reduceIte, Nat.reduceEqDiff, Nat.reduceAdd, Nat.reduceSub, Nat.reduceMul, Nat.reduceLeDiff, Nat.reduceLT, Nat.reduceBEq, Int.reduceNeg, Int.reduceLE, Int.reduceLT, Int.reduceToNat, String.reduceEq]) | refine aw_seq ?_ | refine aw_block ?_ | refine aw_scope ?_ | (refine aw_cond rfl (fun h => ?_) (fun h => ?_) <;> try (exfalso; first | (simp at h; done) | (simp at h; omega))) | ((with_reducible refine And.intro ?_ ?_); focus (first | omega | (intros; simp_all; done) | (simp; omega)))
  exact ⟨_, _, rfl, .cl _ (.bool _), rfl⟩

def lessI (a b c d : Int) : Bool := decide (a < c) || (decide (a = c) && decide (b < d))

theorem lessI_t {a b c d : Int} : lessI a b c d = true ↔ (a < c ∨ (a = c ∧ b < d)) := by
  simp [lessI]

theorem less_c (a b c d : Int) (H : AHeap) : FnC Try.prog 31 [.agg [.int .i64 a, .int .i64 b], .agg [.int .i64 c, .int .i64 d]] H (.bool (lessI a b c d)) := by
  refine fnC_of Try.func31 rfl (Nat.le_of_ble_eq_true rfl) ?_
  repeat' first | ((first | refine callP_false (.bool false) ?_ | refine aw_region rfl ?_ | refine aw_region_draw mixedF rfl (by kernel_rfl) ?_ | refine aw_ret ?_ | refine aw_skip ?_ | refine aw_exit ?_ | refine aw_label ?_); simp only [go_sem, ↓reduceIte, Nat.reduceEqDiff, Nat.reduceAdd, Nat.reduceSub, Nat.reduceMul, Nat.reduceLeDiff, Nat.reduceLT, Nat.reduceBEq, Int.reduceNeg, Int.reduceLE, Int.reduceLT, Int.reduceToNat, String.reduceEq]) | refine aw_seq ?_ | refine aw_block ?_ | refine aw_scope ?_ | (refine aw_cond rfl (fun h => ?_) (fun h => ?_) <;> try (exfalso; first | (simp at h; done) | (simp at h; omega))) | ((with_reducible refine And.intro ?_ ?_); focus (first | omega | (intros; simp_all; done) | (simp; omega)))
  all_goals refine ⟨_, _, rfl, .cl _ (.bool _), congrArg AV.bool ?_⟩
  all_goals (rw [Bool.eq_iff_iff, lessI_t]; simp at *; omega)

theorem rless_c (a b c d : Int) (H : AHeap) : FnC Try.prog 81 [.agg [.int .i64 a, .int .i64 b], .agg [.int .i64 c, .int .i64 d]] H (.bool (lessI a b c d)) := by
  refine fnC_of Try.func81 rfl (Nat.le_of_ble_eq_true rfl) ?_
  repeat' first | ((first | refine callP_false (.bool false) ?_ | refine aw_region rfl ?_ | refine aw_region_draw mixedF rfl (by kernel_rfl) ?_ | refine aw_ret ?_ | refine aw_skip ?_ | refine aw_exit ?_ | refine aw_label ?_); simp only [go_sem, ↓reduceIte, Nat.reduceEqDiff, Nat.reduceAdd, Nat.reduceSub, Nat.reduceMul, Nat.reduceLeDiff, Nat.reduceLT, Nat.reduceBEq, Int.reduceNeg, Int.reduceLE, Int.reduceLT, Int.reduceToNat, String.reduceEq]) | refine aw_seq ?_ | refine aw_block ?_ | refine aw_scope ?_ | (refine aw_cond rfl (fun h => ?_) (fun h => ?_) <;> try (exfalso; first | (simp at h; done) | (simp at h; omega))) | ((with_reducible refine And.intro ?_ ?_); focus (first | omega | (intros; simp_all; done) | (simp; omega)))
  exact ⟨_, _, rfl, .cl _ (.bool _), rfl⟩

def ofOk (n : Int) : Bool := decide (128 ≤ n) && decide (n < 134217856)
theorem ofOk_t {n : Int} : ofOk n = true ↔ 128 ≤ n ∧ n < 134217856 := by simp [ofOk]
theorem ofOk_f {n : Int} : ofOk n = false ↔ ¬ (128 ≤ n ∧ n < 134217856) := by rw [← ofOk_t, Bool.not_eq_true]
def oA (n : Int) : Int := if ofOk n = true then n / 128 else 0
def oB (n : Int) : Int := if ofOk n = true then n % 128 / 2 else 0
def oC (n : Int) : Bool := ofOk n && decide (n % 2 = 1)

theorem of_c (n : Int) (H : AHeap) : FnC Try.prog 70 [.int .i64 n] H (.tup [.agg [.int .i64 (oA n), .int .i64 (oB n)], .bool (oC n), .bool (ofOk n)]) := by
  refine fnC_ok1 fun hok => ?_
  have hn := (ok_i64 hok).2
  refine fnC_of Try.func70 rfl (Nat.le_of_ble_eq_true rfl) ?_
  repeat' first | ((first | refine callK_fn (check_c _ _ _) callOk58F ?_ | refine callP_fn (check_c _ _ _) callOk58F ?_ | refine callM_fn (fun _ => check_c _ _ _) callOk58F ?_ | refine callP_false (.bool false) ?_ | refine aw_region rfl ?_ | refine aw_region_draw mixedF rfl (by kernel_rfl) ?_ | refine aw_ret ?_ | refine aw_skip ?_ | refine aw_exit ?_ | refine aw_label ?_); simp only [go_sem, ↓reduceIte, Nat.reduceEqDiff, Nat.reduceAdd, Nat.reduceSub, Nat.reduceMul, Nat.reduceLeDiff, Nat.reduceLT, Nat.reduceBEq, Int.reduceNeg, Int.reduceLE, Int.reduceLT, Int.reduceToNat, String.reduceEq]) | refine aw_seq ?_ | refine aw_block ?_ | refine aw_scope ?_ | (refine aw_cond rfl (fun h => ?_) (fun h => ?_) <;> try (exfalso; first | (simp at h; done) | (simp at h; omega))) | ((with_reducible refine And.intro ?_ ?_); focus (first | omega | (intros; simp_all; done) | (simp; omega)))
  all_goals refine done_plain (k := 3) rfl ?_
  · have e : ofOk n = false := ofOk_f.2 (by simp at h; omega)
    simp [oA, oB, oC, e]
  · rename_i h0
    simp at h0
    rw [Int.tdiv_eq_ediv_of_nonneg (by omega), Int.tmod_eq_emod_of_nonneg (by omega), Int.tdiv_eq_ediv_of_nonneg (by omega), wrap_i64 (by omega) (by omega), wrap_i64 (by omega) (by omega)] at h
    have h' : ¬ okI (n / 128) (n % 128 / 2) = true := by simpa using h
    rw [okI_t] at h'
    have e : ofOk n = false := ofOk_f.2 (by omega)
    simp [oA, oB, oC, e]
  · rename_i h0
    simp at h0
    rw [Int.tdiv_eq_ediv_of_nonneg (by omega), Int.tmod_eq_emod_of_nonneg (by omega), Int.tdiv_eq_ediv_of_nonneg (by omega), wrap_i64 (by omega) (by omega), wrap_i64 (by omega) (by omega)] at h ⊢
    rw [Int.tmod_eq_emod_of_nonneg (by omega)]
    have h' : okI (n / 128) (n % 128 / 2) = true := by simpa using h
    rw [okI_t] at h'
    have e : ofOk n = true := ofOk_t.2 (by omega)
    simp [oA, oB, oC, e]

theorem rof_c (n : Int) (H : AHeap) : FnC Try.prog 71 [.int .i64 n] H (.tup [.agg [.int .i64 (oA n), .int .i64 (oB n)], .bool (oC n), .bool (ofOk n)]) := by
  refine fnC_of Try.func71 rfl (Nat.le_of_ble_eq_true rfl) ?_
  repeat' first | ((first | refine callP_false (.bool false) ?_ | refine aw_region rfl ?_ | refine aw_region_draw mixedF rfl (by kernel_rfl) ?_ | refine aw_ret ?_ | refine aw_skip ?_ | refine aw_exit ?_ | refine aw_label ?_); simp only [go_sem, ↓reduceIte, Nat.reduceEqDiff, Nat.reduceAdd, Nat.reduceSub, Nat.reduceMul, Nat.reduceLeDiff, Nat.reduceLT, Nat.reduceBEq, Int.reduceNeg, Int.reduceLE, Int.reduceLT, Int.reduceToNat, String.reduceEq]) | refine aw_seq ?_ | refine aw_block ?_ | refine aw_scope ?_ | (refine aw_cond rfl (fun h => ?_) (fun h => ?_) <;> try (exfalso; first | (simp at h; done) | (simp at h; omega))) | ((with_reducible refine And.intro ?_ ?_); focus (first | omega | (intros; simp_all; done) | (simp; omega)))
  all_goals refine done_plain (k := 3) rfl ?_
  · have e : ofOk n = false := ofOk_f.2 (by simp at h; omega)
    simp [oA, oB, oC, e]
  · simp at h
    rw [Int.tdiv_eq_ediv_of_nonneg (by omega), Int.tmod_eq_emod_of_nonneg (by omega), Int.tdiv_eq_ediv_of_nonneg (by omega), wrap_i64 (by omega) (by omega), wrap_i64 (by omega) (by omega)]
    rw [Int.tmod_eq_emod_of_nonneg (by omega)]
    have e : ofOk n = true := ofOk_t.2 (by omega)
    simp [oA, oB, oC, e]

def dirI (n : Int) : Bool := decide (n = 0) || decide (n = 2) || (ofOk n && !oC n)

theorem dir_c (n : Int) (H : AHeap) : FnC Try.prog 48 [.int .i64 n] H (.bool (dirI n)) := by
  refine fnC_of Try.func48 rfl (Nat.le_of_ble_eq_true rfl) ?_
  repeat' first | ((first | refine callK_fn (of_c _ _) callOk70F ?_ | refine callP_fn (of_c _ _) callOk70F ?_ | refine callM_fn (fun _ => of_c _ _) callOk70F ?_ | refine callP_false (.bool false) ?_ | refine aw_region rfl ?_ | refine aw_region_draw mixedF rfl (by kernel_rfl) ?_ | refine aw_ret ?_ | refine aw_skip ?_ | refine aw_exit ?_ | refine aw_label ?_); simp only [go_sem, ↓reduceIte, Nat.reduceEqDiff, Nat.reduceAdd, Nat.reduceSub, Nat.reduceMul, Nat.reduceLeDiff, Nat.reduceLT, Nat.reduceBEq, Int.reduceNeg, Int.reduceLE, Int.reduceLT, Int.reduceToNat, String.reduceEq]) | refine aw_seq ?_ | refine aw_block ?_ | refine aw_scope ?_ | (refine aw_cond rfl (fun h => ?_) (fun h => ?_) <;> try (exfalso; first | (simp at h; done) | (simp at h; omega))) | ((with_reducible refine And.intro ?_ ?_); focus (first | omega | (intros; simp_all; done) | (simp; omega)))
  · exact done_plain0 (k := 3) rfl (by simp only [dirI, h]; rfl)
  · exact done_plain (k := 3) rfl (by simp only [dirI, h]; rfl)
theorem rdir_c (n : Int) (H : AHeap) : FnC Try.prog 82 [.int .i64 n] H (.bool (dirI n)) := by
  refine fnC_of Try.func82 rfl (Nat.le_of_ble_eq_true rfl) ?_
  repeat' first | ((first | refine callK_fn (rof_c _ _) callOk71F ?_ | refine callP_fn (rof_c _ _) callOk71F ?_ | refine callM_fn (fun _ => rof_c _ _) callOk71F ?_ | refine callP_false (.bool false) ?_ | refine aw_region rfl ?_ | refine aw_region_draw mixedF rfl (by kernel_rfl) ?_ | refine aw_ret ?_ | refine aw_skip ?_ | refine aw_exit ?_ | refine aw_label ?_); simp only [go_sem, ↓reduceIte, Nat.reduceEqDiff, Nat.reduceAdd, Nat.reduceSub, Nat.reduceMul, Nat.reduceLeDiff, Nat.reduceLT, Nat.reduceBEq, Int.reduceNeg, Int.reduceLE, Int.reduceLT, Int.reduceToNat, String.reduceEq]) | refine aw_seq ?_ | refine aw_block ?_ | refine aw_scope ?_ | (refine aw_cond rfl (fun h => ?_) (fun h => ?_) <;> try (exfalso; first | (simp at h; done) | (simp at h; omega))) | ((with_reducible refine And.intro ?_ ?_); focus (first | omega | (intros; simp_all; done) | (simp; omega)))
  exact done_plain (k := 3) rfl rfl

/-! ### Operations -/
def laterI (a b n : Int) : Bool := ofOk n && lessI a b (oA n) (oB n)

theorem later_c (a b n : Int) (H : AHeap) : FnC Try.prog 59 [.agg [.int .i64 a, .int .i64 b], .int .i64 n] H (.bool (laterI a b n)) := by
  refine fnC_of Try.func59 rfl (Nat.le_of_ble_eq_true rfl) ?_
  repeat' first | ((first | refine callK_fn (of_c _ _) callOk70F ?_ | refine callP_fn (of_c _ _) callOk70F ?_ | refine callM_fn (fun _ => of_c _ _) callOk70F ?_ | refine callK_fn (less_c _ _ _ _ _) callOk31F ?_ | refine callP_fn (less_c _ _ _ _ _) callOk31F ?_ | refine callM_fn (fun _ => less_c _ _ _ _ _) callOk31F ?_ | refine callP_false (.bool false) ?_ | refine aw_region rfl ?_ | refine aw_region_draw mixedF rfl (by kernel_rfl) ?_ | refine aw_ret ?_ | refine aw_skip ?_ | refine aw_exit ?_ | refine aw_label ?_); simp only [go_sem, ↓reduceIte, Nat.reduceEqDiff, Nat.reduceAdd, Nat.reduceSub, Nat.reduceMul, Nat.reduceLeDiff, Nat.reduceLT, Nat.reduceBEq, Int.reduceNeg, Int.reduceLE, Int.reduceLT, Int.reduceToNat, String.reduceEq]) | refine aw_seq ?_ | refine aw_block ?_ | refine aw_scope ?_ | (refine aw_cond rfl (fun h => ?_) (fun h => ?_) <;> try (exfalso; first | (simp at h; done) | (simp at h; omega))) | ((with_reducible refine And.intro ?_ ?_); focus (first | omega | (intros; simp_all; done) | (simp; omega)))
  exact done_plain (k := 3) rfl rfl

theorem opless_c (a b : Opn) (H : AHeap) : FnC Try.prog 75 [opA a, opA b] H (.bool (lessI a.at_.c a.at_.r b.at_.c b.at_.r)) := by
  refine fnC_of Try.func75 rfl (Nat.le_of_ble_eq_true rfl) ?_
  simp only [opA]
  repeat' first | ((first | refine callK_fn (less_c _ _ _ _ _) callOk31F ?_ | refine callP_fn (less_c _ _ _ _ _) callOk31F ?_ | refine callM_fn (fun _ => less_c _ _ _ _ _) callOk31F ?_ | refine callP_false (.bool false) ?_ | refine aw_region rfl ?_ | refine aw_region_draw mixedF rfl (by kernel_rfl) ?_ | refine aw_ret ?_ | refine aw_skip ?_ | refine aw_exit ?_ | refine aw_label ?_); simp only [go_sem, ↓reduceIte, Nat.reduceEqDiff, Nat.reduceAdd, Nat.reduceSub, Nat.reduceMul, Nat.reduceLeDiff, Nat.reduceLT, Nat.reduceBEq, Int.reduceNeg, Int.reduceLE, Int.reduceLT, Int.reduceToNat, String.reduceEq]) | refine aw_seq ?_ | refine aw_block ?_ | refine aw_scope ?_ | (refine aw_cond rfl (fun h => ?_) (fun h => ?_) <;> try (exfalso; first | (simp at h; done) | (simp at h; omega))) | ((with_reducible refine And.intro ?_ ?_); focus (first | omega | (intros; simp_all; done) | (simp; omega)))
  exact done_plain (k := 3) rfl rfl

theorem ropless_c (a b : Opn) (H : AHeap) : FnC Try.prog 84 [opA a, opA b] H (.bool (lessI a.at_.c a.at_.r b.at_.c b.at_.r)) := by
  refine fnC_of Try.func84 rfl (Nat.le_of_ble_eq_true rfl) ?_
  simp only [opA]
  repeat' first | ((first | refine callK_fn (rless_c _ _ _ _ _) callOk81F ?_ | refine callP_fn (rless_c _ _ _ _ _) callOk81F ?_ | refine callM_fn (fun _ => rless_c _ _ _ _ _) callOk81F ?_ | refine callP_false (.bool false) ?_ | refine aw_region rfl ?_ | refine aw_region_draw mixedF rfl (by kernel_rfl) ?_ | refine aw_ret ?_ | refine aw_skip ?_ | refine aw_exit ?_ | refine aw_label ?_); simp only [go_sem, ↓reduceIte, Nat.reduceEqDiff, Nat.reduceAdd, Nat.reduceSub, Nat.reduceMul, Nat.reduceLeDiff, Nat.reduceLT, Nat.reduceBEq, Int.reduceNeg, Int.reduceLE, Int.reduceLT, Int.reduceToNat, String.reduceEq]) | refine aw_seq ?_ | refine aw_block ?_ | refine aw_scope ?_ | (refine aw_cond rfl (fun h => ?_) (fun h => ?_) <;> try (exfalso; first | (simp at h; done) | (simp at h; omega))) | ((with_reducible refine And.intro ?_ ?_); focus (first | omega | (intros; simp_all; done) | (simp; omega)))
  exact done_plain (k := 3) rfl rfl

theorem kindOf_c (o : Opn) (H : AHeap) : FnC Try.prog 57 [opA o] H (if o.kind = 1 then .iface 102 (opA o) else if o.kind = 2 then .iface 103 (opA o) else .nilIface) := by
  refine fnC_of Try.func57 rfl (Nat.le_of_ble_eq_true rfl) ?_
  simp only [opA]
  repeat' first | ((first | refine callP_false (.bool false) ?_ | refine aw_region rfl ?_ | refine aw_region_draw mixedF rfl (by kernel_rfl) ?_ | refine aw_ret ?_ | refine aw_skip ?_ | refine aw_exit ?_ | refine aw_label ?_); simp only [go_sem, ↓reduceIte, Nat.reduceEqDiff, Nat.reduceAdd, Nat.reduceSub, Nat.reduceMul, Nat.reduceLeDiff, Nat.reduceLT, Nat.reduceBEq, Int.reduceNeg, Int.reduceLE, Int.reduceLT, Int.reduceToNat, String.reduceEq]) | refine aw_seq ?_ | refine aw_block ?_ | refine aw_scope ?_ | (refine aw_cond rfl (fun h => ?_) (fun h => ?_) <;> try (exfalso; first | (simp at h; done) | (simp at h; omega))) | ((with_reducible refine And.intro ?_ ?_); focus (first | omega | (intros; simp_all; done) | (simp; omega)))
  all_goals (simp only [decide_eq_true_eq, decide_eq_false_iff_not] at *)
  · simp only [h, if_true]; exact done (by simp only [pur_int, pur_bool, pur_str, pur_agg, pur_tup, pur_sl, pur_iface, pur_nilI, List.mem_cons, List.not_mem_nil, false_implies, forall_eq_or_imp, List.mem_map, forall_exists_index, and_imp, forall_apply_eq_imp_iff₂, or_false, forall_eq, implies_true, and_self, and_true, true_and, Go.Gw.stA, Go.Gw.opA, Go.Gw.ndA, Go.Gw.unA, Go.Gw.enA, Go.Gw.inA, Go.Gw.lgF, Go.Gw.lgA]) (.refl _)
  · simp only [*, if_true, if_false]; exact done (by simp only [pur_int, pur_bool, pur_str, pur_agg, pur_tup, pur_sl, pur_iface, pur_nilI, List.mem_cons, List.not_mem_nil, false_implies, forall_eq_or_imp, List.mem_map, forall_exists_index, and_imp, forall_apply_eq_imp_iff₂, or_false, forall_eq, implies_true, and_self, and_true, true_and, Go.Gw.stA, Go.Gw.opA, Go.Gw.ndA, Go.Gw.unA, Go.Gw.enA, Go.Gw.inA, Go.Gw.lgF, Go.Gw.lgA]) (.refl _)
  · simp only [*, if_true, if_false]; exact done (by simp only [pur_int, pur_bool, pur_str, pur_agg, pur_tup, pur_sl, pur_iface, pur_nilI, List.mem_cons, List.not_mem_nil, false_implies, forall_eq_or_imp, List.mem_map, forall_exists_index, and_imp, forall_apply_eq_imp_iff₂, or_false, forall_eq, implies_true, and_self, and_true, true_and, Go.Gw.stA, Go.Gw.opA, Go.Gw.ndA, Go.Gw.unA, Go.Gw.enA, Go.Gw.inA, Go.Gw.lgF, Go.Gw.lgA]) (.refl _)
end Go.Proofs.Ytoffonjlfomnbaa

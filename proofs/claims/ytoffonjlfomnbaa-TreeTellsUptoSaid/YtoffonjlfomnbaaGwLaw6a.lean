/- The law's opening of the nodes: calls whose answers are fixed. No condition. -/
import Derived.Test.YtoffonjlfomnbaaGwFold
import Derived.Test.YtoffonjlfomnbaaGwLaw7a
namespace Go.Gw
open Go Go.Aw Go.Proofs.Ytoffonjlfomnbaa
def awL : List Nd := [⟨128, 0, [120], ⟨1, 0⟩, [], st0⟩, ⟨256, 128, [120], ⟨2, 0⟩, [], st0⟩]
def awW : Opn := ⟨⟨4, 0⟩, 2, 385, 0, [], [100]⟩
def awM : List Nd := awL ++ [⟨385, -1, [], st0, [100], ⟨4, 0⟩⟩]
theorem awF_eq : foldL [mv 2 256 128, mv 1 128 0] = awL := by decide +kernel
theorem awD1_eq : doL awL (mv 3 128 256) = awL := by decide +kernel
theorem awU1_eq : doU awL (mv 3 128 256) = und0 := by decide +kernel
theorem awD2_eq : doL awL awW = awM := by decide +kernel
theorem awU2_eq : doU awL awW = ⟨true, false, nd0⟩ := by decide +kernel
theorem awF1_eq : findI awL 256 = some ⟨256, 128, [120], ⟨2, 0⟩, [], st0⟩ := by decide +kernel
theorem awF2_eq : findI awL 257 = none := by decide +kernel
theorem awF3_eq : findI awM 385 = some ⟨385, -1, [], st0, [100], ⟨4, 0⟩⟩ := by decide +kernel
theorem awA_eq : aboveC awL 256 = [128, 0] := by decide +kernel
theorem awB_eq : backL awM ⟨st0, 0, 385, 0, [], []⟩ ⟨true, false, nd0⟩ = awL := by decide +kernel
theorem awC_eq : chk awL = true := by decide +kernel
theorem awC2_eq : chk [⟨2, 0, [], st0, [], st0⟩] = false := by decide +kernel
end Go.Gw
namespace Go.Proofs.Ytoffonjlfomnbaa
open Go Go.Aw Go.Gw
set_option linter.unusedSimpArgs false
set_option maxRecDepth 20000
set_option maxHeartbeats 4000000

theorem mv6_c (a b c : Int) (H : AHeap) : FnC Try.prog 60 [.int .i64 a, .int .i64 b, .int .i64 c] H (opA (mv a b c)) := by
  refine fnC_of Try.func60 rfl (Nat.le_of_ble_eq_true rfl) ?_
  repeat' first | ((first | refine callP_false (.bool false) ?_ | refine aw_region rfl ?_ | refine aw_region_draw mixedF rfl (by kernel_rfl) ?_ | refine aw_ret ?_ | refine aw_skip ?_ | refine aw_exit ?_ | refine aw_label ?_); simp only [go_sem, ↓reduceIte, Nat.reduceEqDiff, Nat.reduceAdd, Nat.reduceSub, Nat.reduceMul, Nat.reduceLeDiff, Nat.reduceLT, Nat.reduceBEq, Int.reduceNeg, Int.reduceLE, Int.reduceLT, Int.reduceToNat, String.reduceEq]) | refine aw_seq ?_ | refine aw_block ?_ | refine aw_scope ?_ | (refine aw_cond rfl (fun h => ?_) (fun h => ?_) <;> try (exfalso; first | (simp at h; done) | (simp at h; omega))) | ((with_reducible refine And.intro ?_ ?_); focus (first | omega | (intros; simp_all; done) | (simp; omega)))
  exact done (by simp only [pur_int, pur_bool, pur_str, pur_agg, pur_tup, pur_sl, pur_iface, pur_nilI, List.mem_cons, List.not_mem_nil, false_implies, forall_eq_or_imp, List.mem_map, forall_exists_index, and_imp, forall_apply_eq_imp_iff₂, or_false, forall_eq, implies_true, and_self, and_true, true_and, Go.Gw.stA, Go.Gw.opA, Go.Gw.ndA, Go.Gw.unA, Go.Gw.enA, Go.Gw.inA, Go.Gw.lgF, Go.Gw.lgA]) (.refl _)

theorem awake6_c (H : AHeap) : FnC Try.prog 32 [] H (.bool true) := by
  refine fnC_of Try.func32 rfl (Nat.le_of_ble_eq_true rfl) ?_
  have hmv := mv6_c
  have hfold := fold_c true [mv 2 256 128, mv 1 128 0] (fun o ho => by
    simp only [List.mem_cons, List.not_mem_nil, or_false] at ho
    rcases ho with rfl | rfl <;> exact mv_S _ _ _) (by decide)
  have hd1 := do_c false awL (mv 3 128 256) (mv_S _ _ _) (by decide)
  have hd2 := do_c false awL awW ⟨by decide, by decide⟩ (by decide)
  have hf1 := find_c false awL 256
  have hf2 := find_c false awL 257
  have hf3 := find_c false awM 385
  have hab := aboveC_c false awL 256 (by decide)
  have hnm := nums6_c false true [128, 0] [128, 0]
  have hsm := same6_c false false awL awL
  have hbk := back_c false awM ⟨st0, 0, 385, 0, [], []⟩ ⟨true, false, nd0⟩ (by decide)
  have hc1 := chk_c false awL
  have hc2 := chk_c true [⟨2, 0, [], st0, [], st0⟩]
  rw [awF_eq] at hfold
  rw [awD1_eq, awU1_eq] at hd1
  rw [awD2_eq, awU2_eq] at hd2
  rw [awF1_eq] at hf1
  rw [awF2_eq] at hf2
  rw [awF3_eq] at hf3
  rw [awA_eq] at hab
  rw [awB_eq] at hbk
  rw [awC_eq] at hc1
  rw [awC2_eq] at hc2
  rw [decide_eq_true rfl] at hnm hsm
  simp only [opA, mv] at hmv
  simp only [mv, List.map_cons, List.map_nil, opA] at hfold
  simp only [mv, opA, unA, und0, nd0, st0] at hd1
  simp only [awW, opA, unA, nd0, st0] at hd2
  simp only [ndV, ndA, Option.getD_some, Option.getD_none, Option.isSome_some, Option.isSome_none, nd0, st0] at hf1 hf2 hf3
  simp only [List.map_cons, List.map_nil, inA] at hab hnm
  simp only [opA, unA, nd0, st0] at hbk
  simp only [List.map_cons, List.map_nil, ndA, st0] at hc2
  have gl : awL.length = 2 := rfl
  have gm : awM.length = 3 := rfl
  repeat' first | ((first | refine callK_fn (hmv _ _ _ _) callOk60F ?_ | refine callP_fn (hmv _ _ _ _) callOk60F ?_ | refine callM_fn (fun _ => hmv _ _ _ _) callOk60F ?_ | refine callK_fn (hfold _) callOk46F ?_ | refine callP_fn (hfold _) callOk46F ?_ | refine callM_fn (fun _ => hfold _) callOk46F ?_ | refine callK_fn (hd1 _) callOk34F ?_ | refine callP_fn (hd1 _) callOk34F ?_ | refine callM_fn (fun _ => hd1 _) callOk34F ?_ | refine callK_fn (hd2 _) callOk34F ?_ | refine callP_fn (hd2 _) callOk34F ?_ | refine callM_fn (fun _ => hd2 _) callOk34F ?_ | refine callK_fn (hf1 _) callOk36F ?_ | refine callP_fn (hf1 _) callOk36F ?_ | refine callM_fn (fun _ => hf1 _) callOk36F ?_ | refine callK_fn (hf2 _) callOk36F ?_ | refine callP_fn (hf2 _) callOk36F ?_ | refine callM_fn (fun _ => hf2 _) callOk36F ?_ | refine callK_fn (hf3 _) callOk36F ?_ | refine callP_fn (hf3 _) callOk36F ?_ | refine callM_fn (fun _ => hf3 _) callOk36F ?_ | refine callK_fn (hab _) callOk41F ?_ | refine callP_fn (hab _) callOk41F ?_ | refine callM_fn (fun _ => hab _) callOk41F ?_ | refine callK_fn (hnm _) callOk40F ?_ | refine callP_fn (hnm _) callOk40F ?_ | refine callM_fn (fun _ => hnm _) callOk40F ?_ | refine callK_fn (hsm _) callOk43F ?_ | refine callP_fn (hsm _) callOk43F ?_ | refine callM_fn (fun _ => hsm _) callOk43F ?_ | refine callK_fn (hbk _) callOk44F ?_ | refine callP_fn (hbk _) callOk44F ?_ | refine callM_fn (fun _ => hbk _) callOk44F ?_ | refine callK_fn (hc1 _) callOk38F ?_ | refine callP_fn (hc1 _) callOk38F ?_ | refine callM_fn (fun _ => hc1 _) callOk38F ?_ | refine callK_fn (hc2 _) callOk38F ?_ | refine callP_fn (hc2 _) callOk38F ?_ | refine callM_fn (fun _ => hc2 _) callOk38F ?_ | refine callP_false (.bool false) ?_ | refine aw_region rfl ?_ | refine aw_region_draw mixedF rfl (by kernel_rfl) ?_ | refine aw_ret ?_ | refine aw_skip ?_ | refine aw_exit ?_ | refine aw_label ?_); simp only [go_sem, ↓reduceIte, Nat.reduceEqDiff, Nat.reduceAdd, Nat.reduceSub, Nat.reduceMul, Nat.reduceLeDiff, Nat.reduceLT, Nat.reduceBEq, Int.reduceNeg, Int.reduceLE, Int.reduceLT, Int.reduceToNat, String.reduceEq, gl, gm]) | ((with_reducible refine And.intro ?_ ?_); focus (exact callAt_of (hmv _ _ _ _) callOk60F)) | ((with_reducible refine And.intro (And.intro ?_ ?_) ?_); focus (exact callAt_of (hmv _ _ _ _) callOk60F)) | (exact callAt_of (hmv _ _ _ _) callOk60F) | ((with_reducible refine And.intro ?_ ?_); focus (exact callAt_of (hd1 _) callOk34F)) | ((with_reducible refine And.intro (And.intro ?_ ?_) ?_); focus (exact callAt_of (hd1 _) callOk34F)) | (exact callAt_of (hd1 _) callOk34F) | ((with_reducible refine And.intro ?_ ?_); focus (exact callAt_of (hd2 _) callOk34F)) | ((with_reducible refine And.intro (And.intro ?_ ?_) ?_); focus (exact callAt_of (hd2 _) callOk34F)) | (exact callAt_of (hd2 _) callOk34F) | refine aw_seq ?_ | refine aw_block ?_ | refine aw_scope ?_ | (refine aw_cond rfl (fun h => ?_) (fun h => ?_) <;> try (exfalso; first | (simp at h; done) | (simp at h; omega))) | ((with_reducible refine And.intro ?_ ?_); focus (first | omega | (intros; simp_all; done) | (simp; omega)))
  exact done (by simp only [pur_int, pur_bool, pur_str, pur_agg, pur_tup, pur_sl, pur_iface, pur_nilI, List.mem_cons, List.not_mem_nil, false_implies, forall_eq_or_imp, List.mem_map, forall_exists_index, and_imp, forall_apply_eq_imp_iff₂, or_false, forall_eq, implies_true, and_self, and_true, true_and, Go.Gw.stA, Go.Gw.opA, Go.Gw.ndA, Go.Gw.unA, Go.Gw.enA, Go.Gw.inA, Go.Gw.lgF, Go.Gw.lgA]) (.of (congrArg AV.bool (by decide)))
end Go.Proofs.Ytoffonjlfomnbaa

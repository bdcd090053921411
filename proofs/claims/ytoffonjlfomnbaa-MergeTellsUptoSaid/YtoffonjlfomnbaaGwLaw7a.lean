/- The law's opening of the logs: calls whose answers are fixed. No condition. -/
import Derived.Test.YtoffonjlfomnbaaGwMerge4
namespace Go.Gw
open Go Go.Aw Go.Proofs.Ytoffonjlfomnbaa
def mv (c n p : Int) : Opn := ⟨⟨c, 0⟩, 1, n, p, [120], []⟩
def awOps : List Opn := [mv 3 128 256, mv 2 256 128, mv 1 128 0, mv 1 128 0, op0]
def awG : Lg := ⟨[⟨mv 1 128 0, ⟨true, false, nd0⟩⟩, ⟨mv 2 256 128, ⟨true, false, nd0⟩⟩, ⟨mv 3 128 256, und0⟩], [⟨128, 0, [120], ⟨1, 0⟩, [], st0⟩, ⟨256, 128, [120], ⟨2, 0⟩, [], st0⟩]⟩
theorem awG_eq : allG ⟨[], []⟩ awOps = awG := by decide +kernel
theorem awN_eq : allN ⟨[], []⟩ awOps = 1 := by decide +kernel
theorem awAdd_eq : addG awG (mv 2 256 0) = awG := by decide +kernel
theorem awAddE_eq : addE awG (mv 2 256 0) = 0 := by decide +kernel
theorem mv_S (c n p : Int) : OpS (mv c n p) := ⟨(by decide : ([120] : Txt).length ≤ 1073741824), (by decide : ([] : Txt).length ≤ 1073741824)⟩
end Go.Gw
namespace Go.Aw
theorem callAt_of {P : Program} {g : Bool} {f : FuncId} {args : List AV} {H : AHeap} {x : AV} (h : FnC P f args H x) (ok : callOk P f = true) : callAt P g (.func (.func f) [] []) args x H :=
  fun _ => ⟨ok, by simp only [List.nil_append, List.append_nil]; exact h⟩
end Go.Aw
namespace Go.Proofs.Ytoffonjlfomnbaa
open Go Go.Aw Go.Gw
set_option linter.unusedSimpArgs false
set_option maxRecDepth 20000
set_option maxHeartbeats 2000000

theorem mv7_c (a b c : Int) (H : AHeap) : FnC Try.prog 17 [.int .i64 a, .int .i64 b, .int .i64 c] H (opA (mv a b c)) := by
  refine fnC_of Try.func17 rfl (Nat.le_of_ble_eq_true rfl) ?_
  repeat' first | ((first | refine callP_false (.bool false) ?_ | refine aw_region rfl ?_ | refine aw_region_draw mixedF rfl (by kernel_rfl) ?_ | refine aw_ret ?_ | refine aw_skip ?_ | refine aw_exit ?_ | refine aw_label ?_); simp only [go_sem, aopsK, aopsG, aopsPK, aopsPG, aopsMK, aopsMG, aopsN, TypeDesc.isAgg, ↓reduceIte, Nat.reduceEqDiff, Nat.reduceAdd, Nat.reduceSub, Nat.reduceMul, Nat.reduceLeDiff, Nat.reduceLT, Nat.reduceBEq, Int.reduceNeg, Int.reduceLE, Int.reduceLT, Int.reduceToNat, String.reduceEq, Option.isSome_some, Option.isSome_none, Bool.false_eq_true, Bool.true_eq_false, not_true_eq_false, not_false_eq_true, true_and, and_true, and_self, List.getElem?_toArray, List.getElem?_cons_zero, List.getElem?_cons_succ, List.getElem?_nil, List.length_map, List.append_eq, List.range_zero, List.cons_append, List.nil_append, Nat.one_ne_zero, implies_true]) | refine aw_seq ?_ | refine aw_block ?_ | refine aw_scope ?_ | (refine aw_cond rfl (fun h => ?_) (fun h => ?_) <;> try (exfalso; first | (simp at h; done) | (simp at h; omega))) | ((with_reducible refine And.intro ?_ ?_); focus (first | omega | (intros; simp_all; done) | (simp; omega)))
  exact done (by simp only [pur_int, pur_bool, pur_str, pur_agg, pur_tup, pur_sl, pur_iface, pur_nilI, List.mem_cons, List.not_mem_nil, false_implies, forall_eq_or_imp, List.mem_map, forall_exists_index, and_imp, forall_apply_eq_imp_iff₂, or_false, forall_eq, implies_true, and_self, and_true, true_and, Go.Gw.stA, Go.Gw.opA, Go.Gw.ndA, Go.Gw.unA, Go.Gw.enA, Go.Gw.inA, Go.Gw.lgF, Go.Gw.lgA]) (.refl _)

theorem awake7_c (H : AHeap) : FnC Try.prog 16 [] H (.bool true) := by
  refine fnC_of Try.func16 rfl (Nat.le_of_ble_eq_true rfl) ?_
  have hmv := mv7_c
  have hall := mall_c true true true ⟨[], []⟩ awOps (Fit.nil _ (by decide)) (fun o ho => by
    simp only [awOps, List.mem_cons, List.not_mem_nil, or_false] at ho
    rcases ho with rfl | rfl | rfl | rfl | rfl <;> exact ⟨by decide, by decide⟩)
  have hadd := madd_c false false awG (mv 2 256 0) (mv_S _ _ _) (fun e he => by
    simp only [awG, List.mem_cons, List.not_mem_nil, or_false] at he
    rcases he with rfl | rfl | rfl <;> exact ⟨by decide, by decide⟩) (by decide) (by decide)
  have hsame := same7_c false false false false awG awG
  have hhas := fun a => has_c false false awG a
  have hops := mops_c false false awG (by decide)
  rw [awG_eq, awN_eq] at hall
  rw [awAdd_eq, awAddE_eq] at hadd
  have e3 : hasAt awG.entries ⟨3, 0⟩ = true := by decide
  have e4 : hasAt awG.entries ⟨4, 0⟩ = false := by decide
  have hh3 := hhas ⟨3, 0⟩
  have hh4 := hhas ⟨4, 0⟩
  rw [e3] at hh3
  rw [e4] at hh4
  rw [decide_eq_true rfl] at hsame
  simp only [opA, mv] at hmv
  simp only [awOps, mv, op0, st0, List.map_cons, List.map_nil, opA, lgF, lgA, tagV] at hall
  simp only [mv, opA, lgF, lgA, tagV] at hadd
  simp only [lgF] at hsame hops
  simp only [lgF, stA] at hh3 hh4
  have gl : awG.entries.length = 3 := rfl
  have gn : awG.nodes.length = 2 := rfl
  have go : (opsG awG).length = 3 := rfl
  have g1 : (List.map enA awG.entries).getD 1 .top = enA ⟨mv 2 256 128, ⟨true, false, nd0⟩⟩ := rfl
  have g2 : (List.map enA awG.entries).getD 2 .top = enA ⟨mv 3 128 256, und0⟩ := rfl
  have g3 : (List.map ndA awG.nodes).getD 1 .top = ndA ⟨256, 128, [120], ⟨2, 0⟩, [], st0⟩ := rfl
  repeat' first | ((first | refine callK_fn (hmv _ _ _ _) callOk17F ?_ | refine callP_fn (hmv _ _ _ _) callOk17F ?_ | refine callM_fn (fun _ => hmv _ _ _ _) callOk17F ?_ | refine callK_fn (hall _) callOk18F ?_ | refine callP_fn (hall _) callOk18F ?_ | refine callM_fn (fun _ => hall _) callOk18F ?_ | refine callK_fn (hadd _) callOk19F ?_ | refine callP_fn (hadd _) callOk19F ?_ | refine callM_fn (fun _ => hadd _) callOk19F ?_ | refine callK_fn (hsame _) callOk20F ?_ | refine callP_fn (hsame _) callOk20F ?_ | refine callM_fn (fun _ => hsame _) callOk20F ?_ | refine callK_fn (hh3 _) callOk24F ?_ | refine callP_fn (hh3 _) callOk24F ?_ | refine callM_fn (fun _ => hh3 _) callOk24F ?_ | refine callK_fn (hh4 _) callOk24F ?_ | refine callP_fn (hh4 _) callOk24F ?_ | refine callM_fn (fun _ => hh4 _) callOk24F ?_ | refine callK_fn (hops _) callOk27F ?_ | refine callP_fn (hops _) callOk27F ?_ | refine callM_fn (fun _ => hops _) callOk27F ?_ | refine aw_region_mix (id := 2) [.pure 0, .pure 0, .pure 0, .free, .free, .free, .eff [true, true, true], .eff [false, false, false], .free] mixedF rfl (by kernel_rfl) (by kernel_rfl) ?_ | refine callP_false (.bool false) ?_ | refine aw_region rfl ?_ | refine aw_region_draw mixedF rfl (by kernel_rfl) ?_ | refine aw_ret ?_ | refine aw_skip ?_ | refine aw_exit ?_ | refine aw_label ?_); simp only [go_sem, aopsK, aopsG, aopsPK, aopsPG, aopsMK, aopsMG, aopsN, TypeDesc.isAgg, ↓reduceIte, Nat.reduceEqDiff, Nat.reduceAdd, Nat.reduceSub, Nat.reduceMul, Nat.reduceLeDiff, Nat.reduceLT, Nat.reduceBEq, Int.reduceNeg, Int.reduceLE, Int.reduceLT, Int.reduceToNat, String.reduceEq, Option.isSome_some, Option.isSome_none, Bool.false_eq_true, Bool.true_eq_false, not_true_eq_false, not_false_eq_true, true_and, and_true, and_self, List.getElem?_toArray, List.getElem?_cons_zero, List.getElem?_cons_succ, List.getElem?_nil, List.length_map, List.append_eq, List.range_zero, List.cons_append, List.nil_append, Nat.one_ne_zero, implies_true, gl, gn, go, g1, g2, g3, enA, ndA, und0, nd0]) | ((with_reducible refine And.intro ?_ ?_); focus (exact callAt_of (hmv _ _ _ _) callOk17F)) | ((with_reducible refine And.intro (And.intro ?_ ?_) ?_); focus (exact callAt_of (hmv _ _ _ _) callOk17F)) | (exact callAt_of (hmv _ _ _ _) callOk17F) | ((with_reducible refine And.intro ?_ ?_); focus (exact callAt_of (hadd _) callOk19F)) | ((with_reducible refine And.intro (And.intro ?_ ?_) ?_); focus (exact callAt_of (hadd _) callOk19F)) | (exact callAt_of (hadd _) callOk19F) | refine aw_seq ?_ | refine aw_block ?_ | refine aw_scope ?_ | (refine aw_cond rfl (fun h => ?_) (fun h => ?_) <;> try (exfalso; first | (simp at h; done) | (simp at h; omega))) | ((with_reducible refine And.intro ?_ ?_); focus (first | omega | (intros; simp_all; done) | (simp; omega)))
  exact done (by simp only [pur_int, pur_bool, pur_str, pur_agg, pur_tup, pur_sl, pur_iface, pur_nilI, List.mem_cons, List.not_mem_nil, false_implies, forall_eq_or_imp, List.mem_map, forall_exists_index, and_imp, forall_apply_eq_imp_iff₂, or_false, forall_eq, implies_true, and_self, and_true, true_and, Go.Gw.stA, Go.Gw.opA, Go.Gw.ndA, Go.Gw.unA, Go.Gw.enA, Go.Gw.inA, Go.Gw.lgF, Go.Gw.lgA]) (.of (congrArg AV.bool (by decide)))
end Go.Proofs.Ytoffonjlfomnbaa

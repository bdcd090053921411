/- MergeTells, walked. No condition but the length of what comes in. -/
import Derived.Test.YtoffonjlfomnbaaGwRef7a
namespace Go.Proofs.Ytoffonjlfomnbaa
open Go Go.Aw Go.Gw
set_option linter.unusedSimpArgs false
set_option maxRecDepth 20000
set_option maxHeartbeats 8000000

theorem mtells_c (b : Bool) (l : List Opn) (o : Opn) (a : Stm) (hl : l.length ≤ 1048576) (H : AHeap) : FnC Try.prog 4 [.sl b (l.map opA), opA o, stA a] H (.bool true) := by
  refine fnC_of Try.func4 rfl (Nat.le_of_ble_eq_true rfl) ?_
  have hfew := fun H => few5_c false (l ++ [o]) 61 H
  have cT : (∀ e ∈ l.map opA, e.cells.length = 7) = True := eq_true (cells_op l)
  have hfl := flat_op_len l
  have hoc : opA o = .agg (opCells o) := rfl
  have hac : stA a = .agg [.int .i64 a.c, .int .i64 a.r] := rfl
  simp only [opCells] at hoc
  repeat' first | ((first | refine callK_fn (awake7_c _) callOk16F ?_ | refine callP_fn (awake7_c _) callOk16F ?_ | refine callM_fn (fun _ => awake7_c _) callOk16F ?_ | refine aw_region_mix (id := 2) [.free, .free, .eff [], .pure 1, .free, .eff [true], .eff [true], .free] mixedF rfl (by kernel_rfl) (by kernel_rfl) ?_ | refine callP_false (.bool false) ?_ | refine aw_region rfl ?_ | refine aw_region_draw mixedF rfl (by kernel_rfl) ?_ | refine aw_ret ?_ | refine aw_skip ?_ | refine aw_exit ?_ | refine aw_label ?_); simp only [go_sem, aopsK, aopsG, aopsPK, aopsPG, aopsMK, aopsMG, aopsN, TypeDesc.isAgg, ↓reduceIte, Nat.reduceEqDiff, Nat.reduceAdd, Nat.reduceSub, Nat.reduceMul, Nat.reduceLeDiff, Nat.reduceLT, Nat.reduceBEq, Int.reduceNeg, Int.reduceLE, Int.reduceLT, Int.reduceToNat, String.reduceEq, Option.isSome_some, Option.isSome_none, Bool.false_eq_true, Bool.true_eq_false, not_true_eq_false, not_false_eq_true, true_and, and_true, and_self, List.getElem?_toArray, List.getElem?_cons_zero, List.getElem?_cons_succ, List.getElem?_nil, List.length_map, List.append_eq, List.range_zero, List.cons_append, List.nil_append, Nat.one_ne_zero, implies_true, cT, hfl, hoc, hac]) | refine aw_seq ?_ | refine aw_block ?_ | refine aw_scope ?_ | (refine aw_cond rfl (fun h => ?_) (fun h => ?_) <;> try (exfalso; first | (simp at h; done) | (simp at h; omega))) | ((with_reducible refine And.intro ?_ ?_); focus (first | omega | (intros; simp_all; done) | (simp; omega)))
  refine ⟨⟨fun e he => by rw [he]; rfl, by omega⟩, ?_⟩
  refine callE_frz (cs := (l.map opA).flatMap AV.cells ++ opCells o) ((l ++ [o]).map opA) [] hfew callOk21F rfl (by rw [List.length_map, List.length_append]; rfl) (by simp only [go_sem, aopsK, aopsG, aopsPK, aopsPG, aopsMK, aopsMG, aopsN, TypeDesc.isAgg, ↓reduceIte, Nat.reduceEqDiff, Nat.reduceAdd, Nat.reduceSub, Nat.reduceMul, Nat.reduceLeDiff, Nat.reduceLT, Nat.reduceBEq, Int.reduceNeg, Int.reduceLE, Int.reduceLT, Int.reduceToNat, String.reduceEq, Option.isSome_some, Option.isSome_none, Bool.false_eq_true, Bool.true_eq_false, not_true_eq_false, not_false_eq_true, true_and, and_true, and_self, List.getElem?_toArray, List.getElem?_cons_zero, List.getElem?_cons_succ, List.getElem?_nil, List.length_map, List.append_eq, List.range_zero, List.cons_append, List.nil_append, Nat.one_ne_zero, implies_true, opCells]) (by omega) (by rw [List.append_nil, List.map_append, List.flatMap_append]; rfl) (cells_op _) ?_
  simp only [go_sem, aopsK, aopsG, aopsPK, aopsPG, aopsMK, aopsMG, aopsN, TypeDesc.isAgg, ↓reduceIte, Nat.reduceEqDiff, Nat.reduceAdd, Nat.reduceSub, Nat.reduceMul, Nat.reduceLeDiff, Nat.reduceLT, Nat.reduceBEq, Int.reduceNeg, Int.reduceLE, Int.reduceLT, Int.reduceToNat, String.reduceEq, Option.isSome_some, Option.isSome_none, Bool.false_eq_true, Bool.true_eq_false, not_true_eq_false, not_false_eq_true, true_and, and_true, and_self, List.getElem?_toArray, List.getElem?_cons_zero, List.getElem?_cons_succ, List.getElem?_nil, List.length_map, List.append_eq, List.range_zero, List.cons_append, List.nil_append, Nat.one_ne_zero, implies_true]
  repeat' first | ((first | refine aw_region_mix (id := 2) [.free, .free, .eff [], .pure 1, .free, .eff [true], .eff [true], .free] mixedF rfl (by kernel_rfl) (by kernel_rfl) ?_ | refine callP_false (.bool false) ?_ | refine aw_region rfl ?_ | refine aw_region_draw mixedF rfl (by kernel_rfl) ?_ | refine aw_ret ?_ | refine aw_skip ?_ | refine aw_exit ?_ | refine aw_label ?_); simp only [go_sem, aopsK, aopsG, aopsPK, aopsPG, aopsMK, aopsMG, aopsN, TypeDesc.isAgg, ↓reduceIte, Nat.reduceEqDiff, Nat.reduceAdd, Nat.reduceSub, Nat.reduceMul, Nat.reduceLeDiff, Nat.reduceLT, Nat.reduceBEq, Int.reduceNeg, Int.reduceLE, Int.reduceLT, Int.reduceToNat, String.reduceEq, Option.isSome_some, Option.isSome_none, Bool.false_eq_true, Bool.true_eq_false, not_true_eq_false, not_false_eq_true, true_and, and_true, and_self, List.getElem?_toArray, List.getElem?_cons_zero, List.getElem?_cons_succ, List.getElem?_nil, List.length_map, List.append_eq, List.range_zero, List.cons_append, List.nil_append, Nat.one_ne_zero, implies_true]) | refine aw_seq ?_ | refine aw_block ?_ | refine aw_scope ?_ | (refine aw_cond rfl (fun h => ?_) (fun h => ?_) <;> try (exfalso; first | (simp at h; done) | (simp at h; omega))) | ((with_reducible refine And.intro ?_ ?_); focus (first | omega | (intros; simp_all; done) | (simp; omega)))
  · exact done (by simp only [pur_int, pur_bool, pur_str, pur_agg, pur_tup, pur_sl, pur_iface, pur_nilI, List.mem_cons, List.not_mem_nil, false_implies, forall_eq_or_imp, List.mem_map, forall_exists_index, and_imp, forall_apply_eq_imp_iff₂, or_false, forall_eq, implies_true, and_self, and_true, true_and, Go.Gw.stA, Go.Gw.opA, Go.Gw.ndA, Go.Gw.unA, Go.Gw.enA, Go.Gw.inA, Go.Gw.lgF, Go.Gw.lgA]) (.refl _)
  have hfe : fewOpn (l ++ [o]) 61 = true := by simpa using h
  obtain ⟨hS, hl61⟩ := few_S hfe
  rw [List.length_append] at hl61
  simp only [List.length_cons, List.length_nil] at hl61
  have hoS : OpS o := hS o (by simp)
  have hlS : ∀ x ∈ l, OpS x := fun x hx => hS x (by simp [hx])
  have hof := mof_c b l hlS (by omega)
  have hall := mall_c true true b ⟨[], []⟩ l (Fit.nil _ (by omega)) hlS
  have hrall := rall7_c true true b ⟨[], []⟩ l (by simp only [List.length_nil]; omega) (fun e he => by simp at he) hlS
  rw [rAllG_eq good_nil, rAllN_eq good_nil] at hrall
  have fit : Fit (ofG l) 1000 := Fit.all (Fit.nil _ (by omega)) hlS
  have good : Good (ofG l) := good_of l
  have hlen : (ofG l).entries.length ≤ 60 := by
    have h2 := all_len ⟨[], []⟩ l
    simp only [List.length_nil, Nat.zero_add] at h2
    have h3 : (ofG l).entries.length ≤ l.length := h2
    omega
  have hA1 : allG ⟨[], []⟩ l = ofG l := rfl
  rw [hA1] at hall hrall
  clear hfe hfew h
  generalize allN ⟨[], []⟩ l = n at *
  generalize ofG l = g at *
  have hadd := madd_c false false g o hoS fit.ops (by have := fit.nodes; omega) (by have := fit.len; omega)
  have hradd := radd_c false false g o hoS fit.ops (by omega)
  rw [rAddG_eq good] at hradd
  have hops := mops_c false false g (by omega)
  have hrops := rops_c false false g (by omega)
  have hhas := has_c false false g a
  have hrhas := rhas_c false false g a
  have hsame := same7_c false false false false g g
  have hsame2 := same7_c false false false false (addG g o) (addG g o)
  have hsame5 := same5_c false false (opsG g) (opsG g)
  rw [decide_eq_true rfl] at hsame hsame2 hsame5
  have hself : ∀ x : Int, decide (x = x) = true := fun x => decide_eq_true rfl
  have hselfB : ∀ x : Bool, decide (x = x) = true := fun x => decide_eq_true rfl
  generalize addG g o = k at *
  generalize addE g o = e at *
  generalize opsG g = W at *
  simp only [lgF, lgA, tagV, opA, stA, Bool.false_and, List.map_nil] at hof hall hrall hadd hradd hops hrops hhas hrhas hsame hsame2 hsame5
  repeat' first | ((first | refine callK_fn (hof _) callOk29F ?_ | refine callP_fn (hof _) callOk29F ?_ | refine callM_fn (fun _ => hof _) callOk29F ?_ | refine callK_fn (hall _) callOk18F ?_ | refine callP_fn (hall _) callOk18F ?_ | refine callM_fn (fun _ => hall _) callOk18F ?_ | refine callK_fn (hrall _) callOk22F ?_ | refine callP_fn (hrall _) callOk22F ?_ | refine callM_fn (fun _ => hrall _) callOk22F ?_ | refine callK_fn (hadd _) callOk19F ?_ | refine callP_fn (hadd _) callOk19F ?_ | refine callM_fn (fun _ => hadd _) callOk19F ?_ | refine callK_fn (hradd _) callOk23F ?_ | refine callP_fn (hradd _) callOk23F ?_ | refine callM_fn (fun _ => hradd _) callOk23F ?_ | refine callK_fn (hops _) callOk27F ?_ | refine callP_fn (hops _) callOk27F ?_ | refine callM_fn (fun _ => hops _) callOk27F ?_ | refine callK_fn (hrops _) callOk28F ?_ | refine callP_fn (hrops _) callOk28F ?_ | refine callM_fn (fun _ => hrops _) callOk28F ?_ | refine callK_fn (hsame _) callOk20F ?_ | refine callP_fn (hsame _) callOk20F ?_ | refine callM_fn (fun _ => hsame _) callOk20F ?_ | refine callK_fn (hsame2 _) callOk20F ?_ | refine callP_fn (hsame2 _) callOk20F ?_ | refine callM_fn (fun _ => hsame2 _) callOk20F ?_ | refine callK_fn (hsame5 _) callOk26F ?_ | refine callP_fn (hsame5 _) callOk26F ?_ | refine callM_fn (fun _ => hsame5 _) callOk26F ?_ | refine callK_fn (hhas _) callOk24F ?_ | refine callP_fn (hhas _) callOk24F ?_ | refine callM_fn (fun _ => hhas _) callOk24F ?_ | refine callK_fn (hrhas _) callOk25F ?_ | refine callP_fn (hrhas _) callOk25F ?_ | refine callM_fn (fun _ => hrhas _) callOk25F ?_ | refine aw_region_mix (id := 2) [.free, .free, .eff [], .pure 1, .free, .eff [true], .eff [true], .free] mixedF rfl (by kernel_rfl) (by kernel_rfl) ?_ | refine callP_false (.bool false) ?_ | refine aw_region rfl ?_ | refine aw_region_draw mixedF rfl (by kernel_rfl) ?_ | refine aw_ret ?_ | refine aw_skip ?_ | refine aw_exit ?_ | refine aw_label ?_); simp only [go_sem, aopsK, aopsG, aopsPK, aopsPG, aopsMK, aopsMG, aopsN, TypeDesc.isAgg, ↓reduceIte, Nat.reduceEqDiff, Nat.reduceAdd, Nat.reduceSub, Nat.reduceMul, Nat.reduceLeDiff, Nat.reduceLT, Nat.reduceBEq, Int.reduceNeg, Int.reduceLE, Int.reduceLT, Int.reduceToNat, String.reduceEq, Option.isSome_some, Option.isSome_none, Bool.false_eq_true, Bool.true_eq_false, not_true_eq_false, not_false_eq_true, true_and, and_true, and_self, List.getElem?_toArray, List.getElem?_cons_zero, List.getElem?_cons_succ, List.getElem?_nil, List.length_map, List.append_eq, List.range_zero, List.cons_append, List.nil_append, Nat.one_ne_zero, implies_true, hself, hselfB]) | refine aw_seq ?_ | refine aw_block ?_ | refine aw_scope ?_ | (refine aw_cond rfl (fun h => ?_) (fun h => ?_) <;> try (exfalso; first | (simp at h; done) | (simp at h; omega))) | ((with_reducible refine And.intro ?_ ?_); focus (first | omega | (intros; simp_all; done) | (simp; omega)))
  exact done (by simp only [pur_int, pur_bool, pur_str, pur_agg, pur_tup, pur_sl, pur_iface, pur_nilI, List.mem_cons, List.not_mem_nil, false_implies, forall_eq_or_imp, List.mem_map, forall_exists_index, and_imp, forall_apply_eq_imp_iff₂, or_false, forall_eq, implies_true, and_self, and_true, true_and, Go.Gw.stA, Go.Gw.opA, Go.Gw.ndA, Go.Gw.unA, Go.Gw.enA, Go.Gw.inA, Go.Gw.lgF, Go.Gw.lgA]) (.refl _)
end Go.Proofs.Ytoffonjlfomnbaa

/- MergeOps, walked. No condition but the length of what comes in. -/
import Derived.Test.YtoffonjlfomnbaaGwLaw7e
namespace Go.Gw
open Go Go.Aw Go.Proofs.Ytoffonjlfomnbaa

theorem add_step {g : Lg} (hg : Good g) (h : (g.entries.length : Int) < 200) (o : Opn) :
    (opOk o = false ∧ addG g o = g ∧ addE g o = 50) ∨ (opOk o = true ∧ hasAt g.entries o.at_ = true ∧ addG g o = g ∧ addE g o = 0) ∨
    (opOk o = true ∧ hasAt g.entries o.at_ = false ∧ addE g o = 0 ∧ opsG (addG g o) = preO o (opsG g) ++ o :: sufO o (opsG g) ∧ ∀ x ∈ opsG g, x.at_ ≠ o.at_) := by
  cases h1 : opOk o with
  | false => exact .inl ⟨rfl, by rw [addG, if_pos h1], by rw [addE, if_pos h1]⟩
  | true =>
    cases h2 : hasAt g.entries o.at_ with
    | true => exact .inr (.inl ⟨rfl, rfl, by rw [addG, if_neg (by rw [h1]; decide), if_pos h2], by rw [addE, if_neg (by rw [h1]; decide), if_pos h2]⟩)
    | false =>
      have hno : ∀ x ∈ opsG g, x.at_ ≠ o.at_ := by
        intro x hx e
        have : hasAt g.entries o.at_ = true := by
          rw [hg.log, hasAt_log]
          exact List.any_eq_true.2 ⟨x, hx, by simpa using e⟩
        rw [h2] at this; cases this
      have e := add_log hg.srt o h1 (by rw [← hg.log]; exact h2) (by rw [opsG, List.length_map]; exact h)
      rw [← hg.log] at e
      refine .inr (.inr ⟨rfl, rfl, ?_, by rw [e, opsG_logOf]; rfl, hno⟩)
      rw [addE, if_neg (by rw [h1]; decide), if_neg (by rw [h2]; decide), if_neg (by omega)]

theorem pre_less {o : Opn} {l : List Opn} (hs : Srt l) (hn : ∀ x ∈ l, x.at_ ≠ o.at_) : (∀ x ∈ preO o l, lessS x.at_ o.at_ = true) ∧ ∀ x ∈ sufO o l, lessS x.at_ o.at_ = false := by
  refine ⟨fun x hx => ?_, fun x hx => ?_⟩
  · have hx1 := preO_f o l x hx
    rcases lessS_tri o.at_ x.at_ with q | q | q
    · rw [q] at hx1; cases hx1
    · exact absurd q.symm (hn x (by rw [← pre_suf o l]; simp [hx]))
    · exact q
  · have := lessS_t.1 (sufO_t hs x hx)
    rw [lessS_f]; omega
end Go.Gw
namespace Go.Proofs.Ytoffonjlfomnbaa
open Go Go.Aw Go.Gw
set_option linter.unusedSimpArgs false
set_option maxRecDepth 20000
set_option maxHeartbeats 2000000

theorem ops_c (b : Bool) (l : List Opn) (o : Opn) (hl : l.length ≤ 1048576) (H : AHeap) : FnC Try.prog 7 [.sl b (l.map opA), opA o] H (.bool true) := by
  refine fnC_of Try.func7 rfl (Nat.le_of_ble_eq_true rfl) ?_
  have hfew := fun H => few5_c false (l ++ [o]) 61 H
  have cT : (∀ e ∈ l.map opA, e.cells.length = 7) = True := eq_true (cells_op l)
  have hfl := flat_op_len l
  have hoc : opA o = .agg (opCells o) := rfl
  simp only [opCells] at hoc
  repeat' first | ((first | refine callK_fn (awake7_c _) callOk16F ?_ | refine callP_fn (awake7_c _) callOk16F ?_ | refine callM_fn (fun _ => awake7_c _) callOk16F ?_ | refine aw_region_mix (id := 2) [.free, .free, .eff [], .pure 1, .free, .eff [true], .eff [true], .free] mixedF rfl (by kernel_rfl) (by kernel_rfl) ?_ | refine callP_false (.bool false) ?_ | refine aw_region rfl ?_ | refine aw_region_draw mixedF rfl (by kernel_rfl) ?_ | refine aw_ret ?_ | refine aw_skip ?_ | refine aw_exit ?_ | refine aw_label ?_); simp only [go_sem, aopsK, aopsG, aopsPK, aopsPG, aopsMK, aopsMG, aopsN, TypeDesc.isAgg, ↓reduceIte, Nat.reduceEqDiff, Nat.reduceAdd, Nat.reduceSub, Nat.reduceMul, Nat.reduceLeDiff, Nat.reduceLT, Nat.reduceBEq, Int.reduceNeg, Int.reduceLE, Int.reduceLT, Int.reduceToNat, String.reduceEq, Option.isSome_some, Option.isSome_none, Bool.false_eq_true, Bool.true_eq_false, not_true_eq_false, not_false_eq_true, true_and, and_true, and_self, List.getElem?_toArray, List.getElem?_cons_zero, List.getElem?_cons_succ, List.getElem?_nil, List.length_map, List.append_eq, List.range_zero, List.cons_append, List.nil_append, Nat.one_ne_zero, implies_true, cT, hfl, hoc]) | refine aw_seq ?_ | refine aw_block ?_ | refine aw_scope ?_ | (refine aw_cond rfl (fun h => ?_) (fun h => ?_) <;> try (exfalso; first | (simp at h; done) | (simp at h; omega))) | ((with_reducible refine And.intro ?_ ?_); focus (first | omega | (intros; simp_all; done) | (simp; omega)))
  refine ⟨⟨fun e he => by rw [he]; rfl, by omega⟩, ?_⟩
  refine callE_frz (cs := (l.map opA).flatMap AV.cells ++ opCells o) ((l ++ [o]).map opA) [] hfew callOk21F rfl (by rw [List.length_map, List.length_append]; rfl) (by simp only [go_sem, aopsK, aopsG, aopsPK, aopsPG, aopsMK, aopsMG, aopsN, TypeDesc.isAgg, ↓reduceIte, Nat.reduceEqDiff, Nat.reduceAdd, Nat.reduceSub, Nat.reduceMul, Nat.reduceLeDiff, Nat.reduceLT, Nat.reduceBEq, Int.reduceNeg, Int.reduceLE, Int.reduceLT, Int.reduceToNat, String.reduceEq, Option.isSome_some, Option.isSome_none, Bool.false_eq_true, Bool.true_eq_false, not_true_eq_false, not_false_eq_true, true_and, and_true, and_self, List.getElem?_toArray, List.getElem?_cons_zero, List.getElem?_cons_succ, List.getElem?_nil, List.length_map, List.append_eq, List.range_zero, List.cons_append, List.nil_append, Nat.one_ne_zero, implies_true, opCells]) (by omega) (by rw [List.append_nil, List.map_append, List.flatMap_append]; rfl) (cells_op _) ?_
  simp only [go_sem, aopsK, aopsG, aopsPK, aopsPG, aopsMK, aopsMG, aopsN, TypeDesc.isAgg, ↓reduceIte, Nat.reduceEqDiff, Nat.reduceAdd, Nat.reduceSub, Nat.reduceMul, Nat.reduceLeDiff, Nat.reduceLT, Nat.reduceBEq, Int.reduceNeg, Int.reduceLE, Int.reduceLT, Int.reduceToNat, String.reduceEq, Option.isSome_some, Option.isSome_none, Bool.false_eq_true, Bool.true_eq_false, not_true_eq_false, not_false_eq_true, true_and, and_true, and_self, List.getElem?_toArray, List.getElem?_cons_zero, List.getElem?_cons_succ, List.getElem?_nil, List.length_map, List.append_eq, List.range_zero, List.cons_append, List.nil_append, Nat.one_ne_zero, implies_true]
  repeat' first | ((first | refine aw_region_mix (id := 2) [.free, .free, .eff [], .pure 1, .free, .eff [true], .eff [true], .free] mixedF rfl (by kernel_rfl) (by kernel_rfl) ?_ | refine callP_false (.bool false) ?_ | refine aw_region rfl ?_ | refine aw_region_draw mixedF rfl (by kernel_rfl) ?_ | refine aw_ret ?_ | refine aw_skip ?_ | refine aw_exit ?_ | refine aw_label ?_); simp only [go_sem, aopsK, aopsG, aopsPK, aopsPG, aopsMK, aopsMG, aopsN, TypeDesc.isAgg, ↓reduceIte, Nat.reduceEqDiff, Nat.reduceAdd, Nat.reduceSub, Nat.reduceMul, Nat.reduceLeDiff, Nat.reduceLT, Nat.reduceBEq, Int.reduceNeg, Int.reduceLE, Int.reduceLT, Int.reduceToNat, String.reduceEq, Option.isSome_some, Option.isSome_none, Bool.false_eq_true, Bool.true_eq_false, not_true_eq_false, not_false_eq_true, true_and, and_true, and_self, List.getElem?_toArray, List.getElem?_cons_zero, List.getElem?_cons_succ, List.getElem?_nil, List.length_map, List.append_eq, List.range_zero, List.cons_append, List.nil_append, Nat.one_ne_zero, implies_true]) | refine aw_seq ?_ | refine aw_block ?_ | refine aw_scope ?_ | (refine aw_cond rfl (fun h => ?_) (fun h => ?_) <;> try (exfalso; first | (simp at h; done) | (simp at h; omega))) | ((with_reducible refine And.intro ?_ ?_); focus (first | omega | (intros; simp_all; done) | (simp; omega)))
  · exact done (by simp only [pur_int, pur_bool, pur_str, pur_agg, pur_tup, pur_sl, pur_iface, pur_nilI, List.mem_cons, List.not_mem_nil, false_implies, forall_eq_or_imp, List.mem_map, forall_exists_index, and_imp, forall_apply_eq_imp_iff₂, or_false, forall_eq, implies_true, and_self, and_true, true_and, Go.Gw.stA, Go.Gw.opA, Go.Gw.ndA, Go.Gw.unA, Go.Gw.enA, Go.Gw.inA, Go.Gw.lgF, Go.Gw.lgA]) (.refl _)
  have hfe : fewOpn (l ++ [o]) 61 = true := by simpa using h
  obtain ⟨hS, hl61⟩ := few_S hfe
  rw [List.length_append] at hl61
  simp only [List.length_cons, List.length_nil] at hl61
  have hoS : OpS o := hS o (by simp)
  have hlS : ∀ x ∈ l, OpS x := fun x hx => hS x (by simp [hx])
  have hof := mof_c b l hlS (by omega)
  have fit : Fit (ofG l) 1000 := Fit.all (Fit.nil _ (by omega)) hlS
  have good : Good (ofG l) := good_of l
  have hlen : (ofG l).entries.length ≤ 60 := by
    have h2 := all_len ⟨[], []⟩ l
    simp only [List.length_nil, Nat.zero_add] at h2
    have h3 : (ofG l).entries.length ≤ l.length := h2
    omega
  have fit1 : Fit (addG (ofG l) o) 999 := Fit.add fit hoS
  have hst := add_step good (by omega) o
  have hsrt := good.srt
  clear good hfe hfew h
  generalize ofG l = g at *
  have hadd := madd_c false false g o hoS fit.ops (by have := fit.nodes; omega) (by have := fit.len; omega)
  have hops := mops_c false false g (by omega)
  have hhas := has_c false false g o.at_
  have hchk := opOk_c o hoS
  have hops2 := mops_c false false (addG g o) (by have := fit1.len; omega)
  have hsame := same7_c false false false false g g
  rw [decide_eq_true rfl] at hsame
  have hself : ∀ x : Int, decide (x = x) = true := fun x => decide_eq_true rfl
  rcases hst with ⟨q1, q2, q3⟩ | ⟨q1, q2, q3, q4⟩ | ⟨q1, q2, q3, q4, q5⟩
  · rw [q2, q3] at hadd
    simp only [lgF, lgA, tagV, opA, stA] at hof hadd hops hhas hchk hsame
    rw [q1] at hchk
    repeat' first | ((first | refine callK_fn (hof _) callOk29F ?_ | refine callP_fn (hof _) callOk29F ?_ | refine callM_fn (fun _ => hof _) callOk29F ?_ | refine callK_fn (hadd _) callOk19F ?_ | refine callP_fn (hadd _) callOk19F ?_ | refine callM_fn (fun _ => hadd _) callOk19F ?_ | refine callK_fn (hops _) callOk27F ?_ | refine callP_fn (hops _) callOk27F ?_ | refine callM_fn (fun _ => hops _) callOk27F ?_ | refine callK_fn (hsame _) callOk20F ?_ | refine callP_fn (hsame _) callOk20F ?_ | refine callM_fn (fun _ => hsame _) callOk20F ?_ | refine callK_fn (hchk _) callOk30F ?_ | refine callP_fn (hchk _) callOk30F ?_ | refine callM_fn (fun _ => hchk _) callOk30F ?_ | refine callK_fn (hhas _) callOk24F ?_ | refine callP_fn (hhas _) callOk24F ?_ | refine callM_fn (fun _ => hhas _) callOk24F ?_ | refine aw_region_mix (id := 2) [.free, .free, .eff [], .pure 1, .free, .eff [true], .eff [true], .free] mixedF rfl (by kernel_rfl) (by kernel_rfl) ?_ | refine callP_false (.bool false) ?_ | refine aw_region rfl ?_ | refine aw_region_draw mixedF rfl (by kernel_rfl) ?_ | refine aw_ret ?_ | refine aw_skip ?_ | refine aw_exit ?_ | refine aw_label ?_); simp only [go_sem, aopsK, aopsG, aopsPK, aopsPG, aopsMK, aopsMG, aopsN, TypeDesc.isAgg, ↓reduceIte, Nat.reduceEqDiff, Nat.reduceAdd, Nat.reduceSub, Nat.reduceMul, Nat.reduceLeDiff, Nat.reduceLT, Nat.reduceBEq, Int.reduceNeg, Int.reduceLE, Int.reduceLT, Int.reduceToNat, String.reduceEq, Option.isSome_some, Option.isSome_none, Bool.false_eq_true, Bool.true_eq_false, not_true_eq_false, not_false_eq_true, true_and, and_true, and_self, List.getElem?_toArray, List.getElem?_cons_zero, List.getElem?_cons_succ, List.getElem?_nil, List.length_map, List.append_eq, List.range_zero, List.cons_append, List.nil_append, Nat.one_ne_zero, implies_true, hself]) | refine aw_seq ?_ | refine aw_block ?_ | refine aw_scope ?_ | (refine aw_cond rfl (fun h => ?_) (fun h => ?_) <;> try (exfalso; first | (simp at h; done) | (simp at h; omega))) | ((with_reducible refine And.intro ?_ ?_); focus (first | omega | (intros; simp_all; done) | (simp; omega)))
    exact done (by simp only [pur_int, pur_bool, pur_str, pur_agg, pur_tup, pur_sl, pur_iface, pur_nilI, List.mem_cons, List.not_mem_nil, false_implies, forall_eq_or_imp, List.mem_map, forall_exists_index, and_imp, forall_apply_eq_imp_iff₂, or_false, forall_eq, implies_true, and_self, and_true, true_and, Go.Gw.stA, Go.Gw.opA, Go.Gw.ndA, Go.Gw.unA, Go.Gw.enA, Go.Gw.inA, Go.Gw.lgF, Go.Gw.lgA]) (.refl _)
  · rw [q3, q4] at hadd
    simp only [lgF, lgA, tagV, opA, stA] at hof hadd hops hhas hchk hsame
    rw [q2] at hhas
    repeat' first | ((first | refine callK_fn (hof _) callOk29F ?_ | refine callP_fn (hof _) callOk29F ?_ | refine callM_fn (fun _ => hof _) callOk29F ?_ | refine callK_fn (hadd _) callOk19F ?_ | refine callP_fn (hadd _) callOk19F ?_ | refine callM_fn (fun _ => hadd _) callOk19F ?_ | refine callK_fn (hops _) callOk27F ?_ | refine callP_fn (hops _) callOk27F ?_ | refine callM_fn (fun _ => hops _) callOk27F ?_ | refine callK_fn (hsame _) callOk20F ?_ | refine callP_fn (hsame _) callOk20F ?_ | refine callM_fn (fun _ => hsame _) callOk20F ?_ | refine callK_fn (hchk _) callOk30F ?_ | refine callP_fn (hchk _) callOk30F ?_ | refine callM_fn (fun _ => hchk _) callOk30F ?_ | refine callK_fn (hhas _) callOk24F ?_ | refine callP_fn (hhas _) callOk24F ?_ | refine callM_fn (fun _ => hhas _) callOk24F ?_ | refine aw_region_mix (id := 2) [.free, .free, .eff [], .pure 1, .free, .eff [true], .eff [true], .free] mixedF rfl (by kernel_rfl) (by kernel_rfl) ?_ | refine callP_false (.bool false) ?_ | refine aw_region rfl ?_ | refine aw_region_draw mixedF rfl (by kernel_rfl) ?_ | refine aw_ret ?_ | refine aw_skip ?_ | refine aw_exit ?_ | refine aw_label ?_); simp only [go_sem, aopsK, aopsG, aopsPK, aopsPG, aopsMK, aopsMG, aopsN, TypeDesc.isAgg, ↓reduceIte, Nat.reduceEqDiff, Nat.reduceAdd, Nat.reduceSub, Nat.reduceMul, Nat.reduceLeDiff, Nat.reduceLT, Nat.reduceBEq, Int.reduceNeg, Int.reduceLE, Int.reduceLT, Int.reduceToNat, String.reduceEq, Option.isSome_some, Option.isSome_none, Bool.false_eq_true, Bool.true_eq_false, not_true_eq_false, not_false_eq_true, true_and, and_true, and_self, List.getElem?_toArray, List.getElem?_cons_zero, List.getElem?_cons_succ, List.getElem?_nil, List.length_map, List.append_eq, List.range_zero, List.cons_append, List.nil_append, Nat.one_ne_zero, implies_true, hself]) | refine aw_seq ?_ | refine aw_block ?_ | refine aw_scope ?_ | (refine aw_cond rfl (fun h => ?_) (fun h => ?_) <;> try (exfalso; first | (simp at h; done) | (simp at h; omega))) | ((with_reducible refine And.intro ?_ ?_); focus (first | omega | (intros; simp_all; done) | (simp; omega)))
    exact done (by simp only [pur_int, pur_bool, pur_str, pur_agg, pur_tup, pur_sl, pur_iface, pur_nilI, List.mem_cons, List.not_mem_nil, false_implies, forall_eq_or_imp, List.mem_map, forall_exists_index, and_imp, forall_apply_eq_imp_iff₂, or_false, forall_eq, implies_true, and_self, and_true, true_and, Go.Gw.stA, Go.Gw.opA, Go.Gw.ndA, Go.Gw.unA, Go.Gw.enA, Go.Gw.inA, Go.Gw.lgF, Go.Gw.lgA]) (.refl _)
  · rw [q3] at hadd
    rw [q2] at hhas
    obtain ⟨p1, p2⟩ := pre_less hsrt q5
    have hWA := pre_suf o (opsG g)
    have hWl : (opsG g).length = (preO o (opsG g)).length + (sufO o (opsG g)).length := by
      have := congrArg List.length hWA; rw [List.length_append] at this; exact this.symm
    have hgl : (opsG g).length = g.entries.length := List.length_map ..
    rw [q4] at hops2
    generalize preO o (opsG g) = A at *
    generalize sufO o (opsG g) = B at *
    generalize addG g o = k at *
    generalize opsG g = W at *
    subst hWA
    simp only [lgF, lgA, tagV, opA, stA] at hof hadd hops hhas hchk hsame hops2
    repeat' first | ((first | refine callK_fn (hof _) callOk29F ?_ | refine callP_fn (hof _) callOk29F ?_ | refine callM_fn (fun _ => hof _) callOk29F ?_ | refine callK_fn (hadd _) callOk19F ?_ | refine callP_fn (hadd _) callOk19F ?_ | refine callM_fn (fun _ => hadd _) callOk19F ?_ | refine callK_fn (hops _) callOk27F ?_ | refine callP_fn (hops _) callOk27F ?_ | refine callM_fn (fun _ => hops _) callOk27F ?_ | refine callK_fn (hops2 _) callOk27F ?_ | refine callP_fn (hops2 _) callOk27F ?_ | refine callM_fn (fun _ => hops2 _) callOk27F ?_ | refine callK_fn (hsame _) callOk20F ?_ | refine callP_fn (hsame _) callOk20F ?_ | refine callM_fn (fun _ => hsame _) callOk20F ?_ | refine callK_fn (hchk _) callOk30F ?_ | refine callP_fn (hchk _) callOk30F ?_ | refine callM_fn (fun _ => hchk _) callOk30F ?_ | refine callK_fn (hhas _) callOk24F ?_ | refine callP_fn (hhas _) callOk24F ?_ | refine callM_fn (fun _ => hhas _) callOk24F ?_ | refine aw_region_mix (id := 2) [.free, .free, .eff [], .pure 1, .free, .eff [true], .eff [true], .free] mixedF rfl (by kernel_rfl) (by kernel_rfl) ?_ | refine callP_false (.bool false) ?_ | refine aw_region rfl ?_ | refine aw_region_draw mixedF rfl (by kernel_rfl) ?_ | refine aw_ret ?_ | refine aw_skip ?_ | refine aw_exit ?_ | refine aw_label ?_); simp only [go_sem, aopsK, aopsG, aopsPK, aopsPG, aopsMK, aopsMG, aopsN, TypeDesc.isAgg, ↓reduceIte, Nat.reduceEqDiff, Nat.reduceAdd, Nat.reduceSub, Nat.reduceMul, Nat.reduceLeDiff, Nat.reduceLT, Nat.reduceBEq, Int.reduceNeg, Int.reduceLE, Int.reduceLT, Int.reduceToNat, String.reduceEq, Option.isSome_some, Option.isSome_none, Bool.false_eq_true, Bool.true_eq_false, not_true_eq_false, not_false_eq_true, true_and, and_true, and_self, List.getElem?_toArray, List.getElem?_cons_zero, List.getElem?_cons_succ, List.getElem?_nil, List.length_map, List.append_eq, List.range_zero, List.cons_append, List.nil_append, Nat.one_ne_zero, implies_true, hself]) | refine aw_seq ?_ | refine aw_block ?_ | refine aw_scope ?_ | (refine aw_cond rfl (fun h => ?_) (fun h => ?_) <;> try (exfalso; first | (simp at h; done) | (simp at h; omega))) | ((with_reducible refine And.intro ?_ ?_); focus (first | omega | (intros; simp_all; done) | (simp; omega)))
    refine aw_cutB (ι := Unit) (fun _ => [(3, .ref H.length 0 0), (5, .bool true), (9, .sl false ((A ++ B).map opA)), (10, .sl false ((A ++ o :: B).map opA)), (11, .int .i64 A.length)]) (fun _ => H ++ [.cells 0 [.int .i64 o.at_.c, .int .i64 o.at_.r, .int .i64 o.kind, .int .i64 o.node, .int .i64 o.parent, .str o.name, .str o.data], .gone, .cells 0 [.sl false (g.entries.map enA), .sl false (g.nodes.map ndA)], .cells 0 [.sl false (k.entries.map enA), .sl false (k.nodes.map ndA)]]) (fun _ => True) ?_ ?_
    · refine aw_loopS (ι := Nat) (fun j => [(3, .ref H.length 0 0), (5, .bool true), (9, .sl false ((A ++ B).map opA)), (10, .sl false ((A ++ o :: B).map opA)), (11, .int .i64 j)]) (fun _ => H ++ [.cells 0 [.int .i64 o.at_.c, .int .i64 o.at_.r, .int .i64 o.kind, .int .i64 o.node, .int .i64 o.parent, .str o.name, .str o.data], .gone, .cells 0 [.sl false (g.entries.map enA), .sl false (g.nodes.map ndA)], .cells 0 [.sl false (k.entries.map enA), .sl false (k.nodes.map ndA)]])
        (fun j => j ≤ A.length) (fun j => A.length - j) 0 (Nat.zero_le _) ?_ rfl ?_
      · simp [go_sem]
      · intro j hj
        by_cases hlt : j < (A ++ B).length
        · have hp := getD_map opA hlt
          have hli : decide ((j : Int) < ((A.length + B.length : Nat) : Int)) = true := decide_eq_true (by omega)
          by_cases hja : j < A.length
          · have hle : lessI (A ++ B)[j].at_.c (A ++ B)[j].at_.r o.at_.c o.at_.r = true := by
              have e : (A ++ B)[j] = A[j] := List.getElem_append_left hja
              rw [e]; exact p1 _ (List.getElem_mem _)
            have hless := less_c (A ++ B)[j].at_.c (A ++ B)[j].at_.r o.at_.c o.at_.r
            rw [hle] at hless
            repeat' first | ((first | refine callK_fn (hless _) callOk31F ?_ | refine callP_fn (hless _) callOk31F ?_ | refine callM_fn (fun _ => hless _) callOk31F ?_ | refine aw_region_mix (id := 2) [.free, .free, .eff [], .pure 1, .free, .eff [true], .eff [true], .free] mixedF rfl (by kernel_rfl) (by kernel_rfl) ?_ | refine callP_false (.bool false) ?_ | refine aw_region rfl ?_ | refine aw_region_draw mixedF rfl (by kernel_rfl) ?_ | refine aw_ret ?_ | refine aw_skip ?_ | refine aw_exit ?_ | refine aw_label ?_); simp only [go_sem, aopsK, aopsG, aopsPK, aopsPG, aopsMK, aopsMG, aopsN, TypeDesc.isAgg, ↓reduceIte, Nat.reduceEqDiff, Nat.reduceAdd, Nat.reduceSub, Nat.reduceMul, Nat.reduceLeDiff, Nat.reduceLT, Nat.reduceBEq, Int.reduceNeg, Int.reduceLE, Int.reduceLT, Int.reduceToNat, String.reduceEq, Option.isSome_some, Option.isSome_none, Bool.false_eq_true, Bool.true_eq_false, not_true_eq_false, not_false_eq_true, true_and, and_true, and_self, List.getElem?_toArray, List.getElem?_cons_zero, List.getElem?_cons_succ, List.getElem?_nil, List.length_map, List.append_eq, List.range_zero, List.cons_append, List.nil_append, Nat.one_ne_zero, implies_true, hp, hli, opA]) | refine aw_seq ?_ | refine aw_block ?_ | refine aw_scope ?_ | (refine aw_cond rfl (fun h => ?_) (fun h => ?_) <;> try (exfalso; first | (simp at h; done) | (simp at h; omega))) | ((with_reducible refine And.intro ?_ ?_); focus (first | omega | (intros; simp_all; done) | (simp; omega)))
            exact ⟨j + 1, hja, by omega, congrArg _ (wrap_succ hja (by omega))⟩
          · have hje : j = A.length := by omega
            have hle : lessI (A ++ B)[j].at_.c (A ++ B)[j].at_.r o.at_.c o.at_.r = false := by
              have e : (A ++ B)[j] = B[j - A.length]'(by omega) := List.getElem_append_right (by omega)
              rw [e]; exact p2 _ (List.getElem_mem _)
            have hless := less_c (A ++ B)[j].at_.c (A ++ B)[j].at_.r o.at_.c o.at_.r
            rw [hle] at hless
            repeat' first | ((first | refine callK_fn (hless _) callOk31F ?_ | refine callP_fn (hless _) callOk31F ?_ | refine callM_fn (fun _ => hless _) callOk31F ?_ | refine aw_region_mix (id := 2) [.free, .free, .eff [], .pure 1, .free, .eff [true], .eff [true], .free] mixedF rfl (by kernel_rfl) (by kernel_rfl) ?_ | refine callP_false (.bool false) ?_ | refine aw_region rfl ?_ | refine aw_region_draw mixedF rfl (by kernel_rfl) ?_ | refine aw_ret ?_ | refine aw_skip ?_ | refine aw_exit ?_ | refine aw_label ?_); simp only [go_sem, aopsK, aopsG, aopsPK, aopsPG, aopsMK, aopsMG, aopsN, TypeDesc.isAgg, ↓reduceIte, Nat.reduceEqDiff, Nat.reduceAdd, Nat.reduceSub, Nat.reduceMul, Nat.reduceLeDiff, Nat.reduceLT, Nat.reduceBEq, Int.reduceNeg, Int.reduceLE, Int.reduceLT, Int.reduceToNat, String.reduceEq, Option.isSome_some, Option.isSome_none, Bool.false_eq_true, Bool.true_eq_false, not_true_eq_false, not_false_eq_true, true_and, and_true, and_self, List.getElem?_toArray, List.getElem?_cons_zero, List.getElem?_cons_succ, List.getElem?_nil, List.length_map, List.append_eq, List.range_zero, List.cons_append, List.nil_append, Nat.one_ne_zero, implies_true, hp, hli, opA]) | refine aw_seq ?_ | refine aw_block ?_ | refine aw_scope ?_ | (refine aw_cond rfl (fun h => ?_) (fun h => ?_) <;> try (exfalso; first | (simp at h; done) | (simp at h; omega))) | ((with_reducible refine And.intro ?_ ?_); focus (first | omega | (intros; simp_all; done) | (simp; omega)))
            subst hje
            exact ⟨(), rfl⟩
        · have hje : j = A.length := by omega
          have hli : decide ((j : Int) < ((A.length + B.length : Nat) : Int)) = false := decide_eq_false (by omega)
          repeat' first | ((first | refine aw_region_mix (id := 2) [.free, .free, .eff [], .pure 1, .free, .eff [true], .eff [true], .free] mixedF rfl (by kernel_rfl) (by kernel_rfl) ?_ | refine callP_false (.bool false) ?_ | refine aw_region rfl ?_ | refine aw_region_draw mixedF rfl (by kernel_rfl) ?_ | refine aw_ret ?_ | refine aw_skip ?_ | refine aw_exit ?_ | refine aw_label ?_); simp only [go_sem, aopsK, aopsG, aopsPK, aopsPG, aopsMK, aopsMG, aopsN, TypeDesc.isAgg, ↓reduceIte, Nat.reduceEqDiff, Nat.reduceAdd, Nat.reduceSub, Nat.reduceMul, Nat.reduceLeDiff, Nat.reduceLT, Nat.reduceBEq, Int.reduceNeg, Int.reduceLE, Int.reduceLT, Int.reduceToNat, String.reduceEq, Option.isSome_some, Option.isSome_none, Bool.false_eq_true, Bool.true_eq_false, not_true_eq_false, not_false_eq_true, true_and, and_true, and_self, List.getElem?_toArray, List.getElem?_cons_zero, List.getElem?_cons_succ, List.getElem?_nil, List.length_map, List.append_eq, List.range_zero, List.cons_append, List.nil_append, Nat.one_ne_zero, implies_true, hli]) | refine aw_seq ?_ | refine aw_block ?_ | refine aw_scope ?_ | (refine aw_cond rfl (fun h => ?_) (fun h => ?_) <;> try (exfalso; first | (simp at h; done) | (simp at h; omega))) | ((with_reducible refine And.intro ?_ ?_); focus (first | omega | (intros; simp_all; done) | (simp; omega)))

          subst hje
          exact ⟨(), rfl⟩
    · intro _ _
      have hIl : (A ++ o :: B).length = A.length + (B.length + 1) := by simp
      have w1 : IntKind.i64.wrap (((A.length + B.length : Nat) : Int) + 1) = (A.length + (B.length + 1) : Nat) := by rw [wrap_i64 (by omega) (by omega)]; rfl
      have w2 : IntKind.i64.wrap (((A.length + (B.length + 1) : Nat) : Int) - 1) = (A.length + B.length : Nat) := by rw [wrap_i64 (by omega) (by omega)]; omega
      have w3 : IntKind.i64.wrap ((A.length : Int) + 1) = (A.length + 1 : Nat) := by rw [wrap_i64 (by omega) (by omega)]; rfl
      have m1 : min (A.length : Int) ((A.length + B.length : Nat) : Int) = (A.length : Int) := by omega
      have m2 : min (A.length : Int) ((A.length + (B.length + 1) : Nat) : Int) = (A.length : Int) := by omega
      have m3 : min ((A.length + 1 : Nat) : Int) ((A.length + (B.length + 1) : Nat) : Int) = ((A.length + 1 : Nat) : Int) := by omega
      have hpo : ((A ++ o :: B).map opA).getD A.length .top = opA o := by rw [getD_map opA (by omega)]; congr 1; simp
      have s1 : List.take A.length ((A ++ o :: B).map opA) = A.map opA := by rw [← List.map_take, List.take_left' rfl]
      have s2 : List.take A.length ((A ++ B).map opA) = A.map opA := by rw [← List.map_take, List.take_left' rfl]
      have s3 : List.drop (A.length + 1) ((A ++ o :: B).map opA) = B.map opA := by rw [← List.map_drop]; congr 1; simp
      have s4 : List.drop A.length ((A ++ B).map opA) = B.map opA := by rw [← List.map_drop, List.drop_left' rfl]
      have sA := fun b1 b2 => same5_c b1 b2 A A
      have sB := fun b1 b2 => same5_c b1 b2 B B
      have eA : ∀ X : List Opn, decide (X = X) = true := fun X => decide_eq_true rfl
      have sA : ∀ b1 b2 H, FnC Try.prog 26 [.sl b1 (A.map opA), .sl b2 (A.map opA)] H (.bool true) := fun b1 b2 H => by have h := same5_c b1 b2 A A H; rw [eA] at h; exact h
      have sB : ∀ b1 b2 H, FnC Try.prog 26 [.sl b1 (B.map opA), .sl b2 (B.map opA)] H (.bool true) := fun b1 b2 H => by have h := same5_c b1 b2 B B H; rw [eA] at h; exact h
      have hselfT : ∀ x : Txt, decide (x = x) = true := fun x => decide_eq_true rfl
      repeat' first | ((first | refine callK_fn (sA _ _ _) callOk26F ?_ | refine callP_fn (sA _ _ _) callOk26F ?_ | refine callM_fn (fun _ => sA _ _ _) callOk26F ?_ | refine callK_fn (sB _ _ _) callOk26F ?_ | refine callP_fn (sB _ _ _) callOk26F ?_ | refine callM_fn (fun _ => sB _ _ _) callOk26F ?_ | refine aw_region_mix (id := 2) [.free, .free, .eff [], .pure 1, .free, .eff [true], .eff [true], .free] mixedF rfl (by kernel_rfl) (by kernel_rfl) ?_ | refine callP_false (.bool false) ?_ | refine aw_region rfl ?_ | refine aw_region_draw mixedF rfl (by kernel_rfl) ?_ | refine aw_ret ?_ | refine aw_skip ?_ | refine aw_exit ?_ | refine aw_label ?_); simp only [go_sem, aopsK, aopsG, aopsPK, aopsPG, aopsMK, aopsMG, aopsN, TypeDesc.isAgg, ↓reduceIte, Nat.reduceEqDiff, Nat.reduceAdd, Nat.reduceSub, Nat.reduceMul, Nat.reduceLeDiff, Nat.reduceLT, Nat.reduceBEq, Int.reduceNeg, Int.reduceLE, Int.reduceLT, Int.reduceToNat, String.reduceEq, Option.isSome_some, Option.isSome_none, Bool.false_eq_true, Bool.true_eq_false, not_true_eq_false, not_false_eq_true, true_and, and_true, and_self, List.getElem?_toArray, List.getElem?_cons_zero, List.getElem?_cons_succ, List.getElem?_nil, List.length_map, List.append_eq, List.range_zero, List.cons_append, List.nil_append, Nat.one_ne_zero, implies_true, hself, hselfT, hIl, hWl, w1, w2, w3, m1, m2, m3, hpo, s1, s2, s3, s4, opA]) | refine aw_seq ?_ | refine aw_block ?_ | refine aw_scope ?_ | (refine aw_cond rfl (fun h => ?_) (fun h => ?_) <;> try (exfalso; first | (simp at h; done) | (simp at h; omega))) | ((with_reducible refine And.intro ?_ ?_); focus (first | omega | (intros; simp_all; done) | (simp; omega)))
      refine ⟨⟨by omega, by omega, cells_op _⟩, ⟨by omega, by omega, cells_op _⟩, ?_⟩
      repeat' first | ((first | refine callK_fn (sA _ _ _) callOk26F ?_ | refine callP_fn (sA _ _ _) callOk26F ?_ | refine callM_fn (fun _ => sA _ _ _) callOk26F ?_ | refine callK_fn (sB _ _ _) callOk26F ?_ | refine callP_fn (sB _ _ _) callOk26F ?_ | refine callM_fn (fun _ => sB _ _ _) callOk26F ?_ | refine aw_region_mix (id := 2) [.free, .free, .eff [], .pure 1, .free, .eff [true], .eff [true], .free] mixedF rfl (by kernel_rfl) (by kernel_rfl) ?_ | refine callP_false (.bool false) ?_ | refine aw_region rfl ?_ | refine aw_region_draw mixedF rfl (by kernel_rfl) ?_ | refine aw_ret ?_ | refine aw_skip ?_ | refine aw_exit ?_ | refine aw_label ?_); simp only [go_sem, aopsK, aopsG, aopsPK, aopsPG, aopsMK, aopsMG, aopsN, TypeDesc.isAgg, ↓reduceIte, Nat.reduceEqDiff, Nat.reduceAdd, Nat.reduceSub, Nat.reduceMul, Nat.reduceLeDiff, Nat.reduceLT, Nat.reduceBEq, Int.reduceNeg, Int.reduceLE, Int.reduceLT, Int.reduceToNat, String.reduceEq, Option.isSome_some, Option.isSome_none, Bool.false_eq_true, Bool.true_eq_false, not_true_eq_false, not_false_eq_true, true_and, and_true, and_self, List.getElem?_toArray, List.getElem?_cons_zero, List.getElem?_cons_succ, List.getElem?_nil, List.length_map, List.append_eq, List.range_zero, List.cons_append, List.nil_append, Nat.one_ne_zero, implies_true, hself, hselfT, hIl, hWl, w1, w2, w3, m1, m2, m3, hpo, s1, s2, s3, s4, opA]) | refine aw_seq ?_ | refine aw_block ?_ | refine aw_scope ?_ | (refine aw_cond rfl (fun h => ?_) (fun h => ?_) <;> try (exfalso; first | (simp at h; done) | (simp at h; omega))) | ((with_reducible refine And.intro ?_ ?_); focus (first | omega | (intros; simp_all; done) | (simp; omega)))
      exact done (by simp only [pur_int, pur_bool, pur_str, pur_agg, pur_tup, pur_sl, pur_iface, pur_nilI, List.mem_cons, List.not_mem_nil, false_implies, forall_eq_or_imp, List.mem_map, forall_exists_index, and_imp, forall_apply_eq_imp_iff₂, or_false, forall_eq, implies_true, and_self, and_true, true_and, Go.Gw.stA, Go.Gw.opA, Go.Gw.ndA, Go.Gw.unA, Go.Gw.enA, Go.Gw.inA, Go.Gw.lgF, Go.Gw.lgA]) (.refl _)
end Go.Proofs.Ytoffonjlfomnbaa

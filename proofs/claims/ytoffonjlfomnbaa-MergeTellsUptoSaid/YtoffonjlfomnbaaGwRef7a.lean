/- What the document's Ops answers. No condition. -/
import Derived.Test.YtoffonjlfomnbaaGwRef6d
import Derived.Test.YtoffonjlfomnbaaGwRef1a
namespace Go.Proofs.Ytoffonjlfomnbaa
open Go Go.Aw Go.Gw
set_option linter.unusedSimpArgs false
set_option maxRecDepth 20000
set_option maxHeartbeats 2000000

theorem rops_c (b1 b2 : Bool) (g : Lg) (hl : g.entries.length ≤ 1000000000) (H : AHeap) : FnC Try.prog 28 [lgF b1 b2 g] H (.sl false ((opsG g).map opA)) := by
  refine fnC_of Try.func28 rfl (Nat.le_of_ble_eq_true rfl) ?_
  simp only [lgF]
  repeat' first | ((first | refine callP_false (.bool false) ?_ | refine aw_region rfl ?_ | refine aw_region_draw mixedF rfl (by kernel_rfl) ?_ | refine aw_ret ?_ | refine aw_skip ?_ | refine aw_exit ?_ | refine aw_label ?_); simp only [go_sem, aopsK, aopsG, aopsPK, aopsPG, aopsMK, aopsMG, aopsN, TypeDesc.isAgg, ↓reduceIte, Nat.reduceEqDiff, Nat.reduceAdd, Nat.reduceSub, Nat.reduceMul, Nat.reduceLeDiff, Nat.reduceLT, Nat.reduceBEq, Int.reduceNeg, Int.reduceLE, Int.reduceLT, Int.reduceToNat, String.reduceEq, Option.isSome_some, Option.isSome_none, Bool.false_eq_true, Bool.true_eq_false, not_true_eq_false, not_false_eq_true, true_and, and_true, and_self, List.getElem?_toArray, List.getElem?_cons_zero, List.getElem?_cons_succ, List.getElem?_nil, List.length_map, List.append_eq, List.range_zero, List.cons_append, List.nil_append, Nat.one_ne_zero, implies_true]) | refine aw_seq ?_ | refine aw_block ?_ | refine aw_scope ?_ | (refine aw_cond rfl (fun h => ?_) (fun h => ?_) <;> try (exfalso; first | (simp at h; done) | (simp at h; omega))) | ((with_reducible refine And.intro ?_ ?_); focus (first | omega | (intros; simp_all; done) | (simp; omega)))
  refine aw_void 3 7 rfl ?_
  refine aw_loopS (ι := Nat) (fun i => [(1, .ref H.length 0 0), (3, .osl 7 (H.length + 1) (i + 1) 0 i i), (4, .int .i64 i)]) (fun i => H ++ [.cells 0 [.sl b1 (g.entries.map enA), .sl b2 (g.nodes.map ndA)], .cells (i + 1) ((((opsG g).take i).map opA).flatMap AV.cells)])
    (fun i => i ≤ g.entries.length) (fun i => g.entries.length - i) 0 (Nat.zero_le _) ?_ (by simp [List.append_assoc]) ?_
  · simp [go_sem]
  · intro i hi
    have hlo : (opsG g).length = g.entries.length := List.length_map ..
    have hfl := flat_op_len ((opsG g).take i)
    rw [List.length_take, hlo, Nat.min_eq_left hi] at hfl
    by_cases hlt : i < g.entries.length
    · have hp := getD_map enA hlt
      have hli : decide ((i : Int) < (g.entries.length : Int)) = true := decide_eq_true (by omega)
      have htk : (opsG g).take (i + 1) = (opsG g).take i ++ [g.entries[i].op] := by
        rw [List.take_succ_eq_append_getElem (by omega)]; congr 2; exact List.getElem_map _
      have ec : (((opsG g).take (i + 1)).map opA).flatMap AV.cells = (((opsG g).take i).map opA).flatMap AV.cells ++ (opA g.entries[i].op).cells := by
        rw [htk, List.map_append, List.flatMap_append]; simp
      repeat' first | ((first | refine callP_false (.bool false) ?_ | refine aw_region rfl ?_ | refine aw_region_draw mixedF rfl (by kernel_rfl) ?_ | refine aw_ret ?_ | refine aw_skip ?_ | refine aw_exit ?_ | refine aw_label ?_); simp only [go_sem, aopsK, aopsG, aopsPK, aopsPG, aopsMK, aopsMG, aopsN, TypeDesc.isAgg, ↓reduceIte, Nat.reduceEqDiff, Nat.reduceAdd, Nat.reduceSub, Nat.reduceMul, Nat.reduceLeDiff, Nat.reduceLT, Nat.reduceBEq, Int.reduceNeg, Int.reduceLE, Int.reduceLT, Int.reduceToNat, String.reduceEq, Option.isSome_some, Option.isSome_none, Bool.false_eq_true, Bool.true_eq_false, not_true_eq_false, not_false_eq_true, true_and, and_true, and_self, List.getElem?_toArray, List.getElem?_cons_zero, List.getElem?_cons_succ, List.getElem?_nil, List.length_map, List.append_eq, List.range_zero, List.cons_append, List.nil_append, Nat.one_ne_zero, implies_true, hp, enA, hli, hfl]) | refine aw_seq ?_ | refine aw_block ?_ | refine aw_scope ?_ | (refine aw_cond rfl (fun h => ?_) (fun h => ?_) <;> try (exfalso; first | (simp at h; done) | (simp at h; omega))) | ((with_reducible refine And.intro ?_ ?_); focus (first | omega | (intros; simp_all; done) | (simp; omega)))
      refine ⟨⟨fun e he => by rw [he]; rfl, by omega⟩, ?_⟩
      repeat' first | ((first | refine callP_false (.bool false) ?_ | refine aw_region rfl ?_ | refine aw_region_draw mixedF rfl (by kernel_rfl) ?_ | refine aw_ret ?_ | refine aw_skip ?_ | refine aw_exit ?_ | refine aw_label ?_); simp only [go_sem, aopsK, aopsG, aopsPK, aopsPG, aopsMK, aopsMG, aopsN, TypeDesc.isAgg, ↓reduceIte, Nat.reduceEqDiff, Nat.reduceAdd, Nat.reduceSub, Nat.reduceMul, Nat.reduceLeDiff, Nat.reduceLT, Nat.reduceBEq, Int.reduceNeg, Int.reduceLE, Int.reduceLT, Int.reduceToNat, String.reduceEq, Option.isSome_some, Option.isSome_none, Bool.false_eq_true, Bool.true_eq_false, not_true_eq_false, not_false_eq_true, true_and, and_true, and_self, List.getElem?_toArray, List.getElem?_cons_zero, List.getElem?_cons_succ, List.getElem?_nil, List.length_map, List.append_eq, List.range_zero, List.cons_append, List.nil_append, Nat.one_ne_zero, implies_true]) | refine aw_seq ?_ | refine aw_block ?_ | refine aw_scope ?_ | (refine aw_cond rfl (fun h => ?_) (fun h => ?_) <;> try (exfalso; first | (simp at h; done) | (simp at h; omega))) | ((with_reducible refine And.intro ?_ ?_); focus (first | omega | (intros; simp_all; done) | (simp; omega)))
      exact ⟨i + 1, hlt, by omega, ⟨rfl, congrArg _ (wrap_succ hlt (by omega))⟩, by rw [ec]; rfl⟩
    · have hie : i = g.entries.length := by omega
      subst hie
      have hli : decide ((g.entries.length : Int) < (g.entries.length : Int)) = false := by simp
      rw [List.take_of_length_le (by omega)] at hfl ⊢
      repeat' first | ((first | refine callP_false (.bool false) ?_ | refine aw_region rfl ?_ | refine aw_region_draw mixedF rfl (by kernel_rfl) ?_ | refine aw_ret ?_ | refine aw_skip ?_ | refine aw_exit ?_ | refine aw_label ?_); simp only [go_sem, aopsK, aopsG, aopsPK, aopsPG, aopsMK, aopsMG, aopsN, TypeDesc.isAgg, ↓reduceIte, Nat.reduceEqDiff, Nat.reduceAdd, Nat.reduceSub, Nat.reduceMul, Nat.reduceLeDiff, Nat.reduceLT, Nat.reduceBEq, Int.reduceNeg, Int.reduceLE, Int.reduceLT, Int.reduceToNat, String.reduceEq, Option.isSome_some, Option.isSome_none, Bool.false_eq_true, Bool.true_eq_false, not_true_eq_false, not_false_eq_true, true_and, and_true, and_self, List.getElem?_toArray, List.getElem?_cons_zero, List.getElem?_cons_succ, List.getElem?_nil, List.length_map, List.append_eq, List.range_zero, List.cons_append, List.nil_append, Nat.one_ne_zero, implies_true, hli]) | refine aw_seq ?_ | refine aw_block ?_ | refine aw_scope ?_ | (refine aw_cond rfl (fun h => ?_) (fun h => ?_) <;> try (exfalso; first | (simp at h; done) | (simp at h; omega))) | ((with_reducible refine And.intro ?_ ?_); focus (first | omega | (intros; simp_all; done) | (simp; omega)))
      exact doneOsl (es := (opsG g).map opA) (rest := []) (by omega) (by simp only [go_sem, aopsK, aopsG, aopsPK, aopsPG, aopsMK, aopsMG, aopsN, TypeDesc.isAgg, ↓reduceIte, Nat.reduceEqDiff, Nat.reduceAdd, Nat.reduceSub, Nat.reduceMul, Nat.reduceLeDiff, Nat.reduceLT, Nat.reduceBEq, Int.reduceNeg, Int.reduceLE, Int.reduceLT, Int.reduceToNat, String.reduceEq, Option.isSome_some, Option.isSome_none, Bool.false_eq_true, Bool.true_eq_false, not_true_eq_false, not_false_eq_true, true_and, and_true, and_self, List.getElem?_toArray, List.getElem?_cons_zero, List.getElem?_cons_succ, List.getElem?_nil, List.length_map, List.append_eq, List.range_zero, List.cons_append, List.nil_append, Nat.one_ne_zero, implies_true]) (List.append_nil _).symm (by rw [List.length_map]; exact hlo) (cells_op _) (pur_op _) rfl
end Go.Proofs.Ytoffonjlfomnbaa
/- What the document's logs answer: done, Add, All. No condition but the length of what comes in. -/
namespace Go.Proofs.Ytoffonjlfomnbaa
open Go Go.Aw Go.Gw
set_option linter.unusedSimpArgs false
set_option maxRecDepth 20000
set_option maxHeartbeats 4000000

/-- Ops, its slice as it lies in memory of its own. -/
theorem rops_own (b1 b2 : Bool) (g : Lg) (hl : g.entries.length ≤ 1000000000) (H : AHeap) : ACalls Try.prog 28 [lgF b1 b2 g] H
    (fun x H' => x = .osl 7 (H.length + 1) (g.entries.length + 1) 0 g.entries.length g.entries.length ∧ H' = H ++ [.cells 0 [.sl b1 (g.entries.map enA), .sl b2 (g.nodes.map ndA)], .cells (g.entries.length + 1) (((opsG g).map opA).flatMap AV.cells)]) := by
  refine acalls_of_aw Try.func28 rfl (Nat.le_of_ble_eq_true rfl) ?_
  simp only [lgF]
  repeat' first | ((first | refine callP_false (.bool false) ?_ | refine aw_region rfl ?_ | refine aw_region_draw mixedF rfl (by kernel_rfl) ?_ | refine aw_ret ?_ | refine aw_skip ?_ | refine aw_exit ?_ | refine aw_label ?_); simp only [go_sem, aopsK, aopsG, aopsPK, aopsPG, aopsMK, aopsMG, aopsN, TypeDesc.isAgg, ↓reduceIte, Nat.reduceEqDiff, Nat.reduceAdd, Nat.reduceSub, Nat.reduceMul, Nat.reduceLeDiff, Nat.reduceLT, Nat.reduceBEq, Int.reduceNeg, Int.reduceLE, Int.reduceLT, Int.reduceToNat, String.reduceEq, Option.isSome_some, Option.isSome_none, Bool.false_eq_true, Bool.true_eq_false, not_true_eq_false, not_false_eq_true, true_and, and_true, and_self, List.getElem?_toArray, List.getElem?_cons_zero, List.getElem?_cons_succ, List.getElem?_nil, List.length_map, List.append_eq, List.range_zero, List.cons_append, List.nil_append, Nat.one_ne_zero, implies_true]) | refine aw_seq ?_ | refine aw_block ?_ | refine aw_scope ?_ | (refine aw_cond rfl (fun h => ?_) (fun h => ?_) <;> try (exfalso; first | (simp at h; done) | (simp at h; omega))) | ((with_reducible refine And.intro ?_ ?_); focus (first | omega | (intros; simp_all; done) | (simp; omega)))
  refine aw_void 3 7 rfl ?_
  refine aw_loopS (ι := Nat) (fun i => [(1, .ref H.length 0 0), (3, .osl 7 (H.length + 1) (i + 1) 0 i i), (4, .int .i64 i)]) (fun i => H ++ [.cells 0 [.sl b1 (g.entries.map enA), .sl b2 (g.nodes.map ndA)], .cells (i + 1) ((((opsG g).take i).map opA).flatMap AV.cells)])
    (fun i => i ≤ g.entries.length) (fun i => g.entries.length - i) 0 (Nat.zero_le _) ?_ (by simp [List.append_assoc]) ?_
  · simp [go_sem]
  · intro i hi
    have hlo : (opsG g).length = g.entries.length := List.length_map ..
    have hfl := flat_op_len ((opsG g).take i)
    rw [List.length_take, hlo, Nat.min_eq_left hi] at hfl
    by_cases hlt : i < g.entries.length
    · have hp := getD_map enA hlt
      have hli : decide ((i : Int) < (g.entries.length : Int)) = true := decide_eq_true (by omega)
      have htk : (opsG g).take (i + 1) = (opsG g).take i ++ [g.entries[i].op] := by
        rw [List.take_succ_eq_append_getElem (by omega)]; congr 2; exact List.getElem_map _
      have ec : (((opsG g).take (i + 1)).map opA).flatMap AV.cells = (((opsG g).take i).map opA).flatMap AV.cells ++ (opA g.entries[i].op).cells := by
        rw [htk, List.map_append, List.flatMap_append]; simp
      repeat' first | ((first | refine callP_false (.bool false) ?_ | refine aw_region rfl ?_ | refine aw_region_draw mixedF rfl (by kernel_rfl) ?_ | refine aw_ret ?_ | refine aw_skip ?_ | refine aw_exit ?_ | refine aw_label ?_); simp only [go_sem, aopsK, aopsG, aopsPK, aopsPG, aopsMK, aopsMG, aopsN, TypeDesc.isAgg, ↓reduceIte, Nat.reduceEqDiff, Nat.reduceAdd, Nat.reduceSub, Nat.reduceMul, Nat.reduceLeDiff, Nat.reduceLT, Nat.reduceBEq, Int.reduceNeg, Int.reduceLE, Int.reduceLT, Int.reduceToNat, String.reduceEq, Option.isSome_some, Option.isSome_none, Bool.false_eq_true, Bool.true_eq_false, not_true_eq_false, not_false_eq_true, true_and, and_true, and_self, List.getElem?_toArray, List.getElem?_cons_zero, List.getElem?_cons_succ, List.getElem?_nil, List.length_map, List.append_eq, List.range_zero, List.cons_append, List.nil_append, Nat.one_ne_zero, implies_true, hp, enA, hli, hfl]) | refine aw_seq ?_ | refine aw_block ?_ | refine aw_scope ?_ | (refine aw_cond rfl (fun h => ?_) (fun h => ?_) <;> try (exfalso; first | (simp at h; done) | (simp at h; omega))) | ((with_reducible refine And.intro ?_ ?_); focus (first | omega | (intros; simp_all; done) | (simp; omega)))
      refine ⟨⟨fun e he => by rw [he]; rfl, by omega⟩, ?_⟩
      repeat' first | ((first | refine callP_false (.bool false) ?_ | refine aw_region rfl ?_ | refine aw_region_draw mixedF rfl (by kernel_rfl) ?_ | refine aw_ret ?_ | refine aw_skip ?_ | refine aw_exit ?_ | refine aw_label ?_); simp only [go_sem, aopsK, aopsG, aopsPK, aopsPG, aopsMK, aopsMG, aopsN, TypeDesc.isAgg, ↓reduceIte, Nat.reduceEqDiff, Nat.reduceAdd, Nat.reduceSub, Nat.reduceMul, Nat.reduceLeDiff, Nat.reduceLT, Nat.reduceBEq, Int.reduceNeg, Int.reduceLE, Int.reduceLT, Int.reduceToNat, String.reduceEq, Option.isSome_some, Option.isSome_none, Bool.false_eq_true, Bool.true_eq_false, not_true_eq_false, not_false_eq_true, true_and, and_true, and_self, List.getElem?_toArray, List.getElem?_cons_zero, List.getElem?_cons_succ, List.getElem?_nil, List.length_map, List.append_eq, List.range_zero, List.cons_append, List.nil_append, Nat.one_ne_zero, implies_true]) | refine aw_seq ?_ | refine aw_block ?_ | refine aw_scope ?_ | (refine aw_cond rfl (fun h => ?_) (fun h => ?_) <;> try (exfalso; first | (simp at h; done) | (simp at h; omega))) | ((with_reducible refine And.intro ?_ ?_); focus (first | omega | (intros; simp_all; done) | (simp; omega)))
      exact ⟨i + 1, hlt, by omega, ⟨rfl, congrArg _ (wrap_succ hlt (by omega))⟩, by rw [ec]; rfl⟩
    · have hie : i = g.entries.length := by omega
      subst hie
      have hli : decide ((g.entries.length : Int) < (g.entries.length : Int)) = false := by simp
      rw [List.take_of_length_le (by omega)]
      repeat' first | ((first | refine callP_false (.bool false) ?_ | refine aw_region rfl ?_ | refine aw_region_draw mixedF rfl (by kernel_rfl) ?_ | refine aw_ret ?_ | refine aw_skip ?_ | refine aw_exit ?_ | refine aw_label ?_); simp only [go_sem, aopsK, aopsG, aopsPK, aopsPG, aopsMK, aopsMG, aopsN, TypeDesc.isAgg, ↓reduceIte, Nat.reduceEqDiff, Nat.reduceAdd, Nat.reduceSub, Nat.reduceMul, Nat.reduceLeDiff, Nat.reduceLT, Nat.reduceBEq, Int.reduceNeg, Int.reduceLE, Int.reduceLT, Int.reduceToNat, String.reduceEq, Option.isSome_some, Option.isSome_none, Bool.false_eq_true, Bool.true_eq_false, not_true_eq_false, not_false_eq_true, true_and, and_true, and_self, List.getElem?_toArray, List.getElem?_cons_zero, List.getElem?_cons_succ, List.getElem?_nil, List.length_map, List.append_eq, List.range_zero, List.cons_append, List.nil_append, Nat.one_ne_zero, implies_true, hli]) | refine aw_seq ?_ | refine aw_block ?_ | refine aw_scope ?_ | (refine aw_cond rfl (fun h => ?_) (fun h => ?_) <;> try (exfalso; first | (simp at h; done) | (simp at h; omega))) | ((with_reducible refine And.intro ?_ ?_); focus (first | omega | (intros; simp_all; done) | (simp; omega)))

theorem rdone_c (b : Bool) (l : List Opn) (hS : ∀ o ∈ l, OpS o) (hl : l.length ≤ 1000000) (H : AHeap) : FnC Try.prog 53 [.sl b (l.map opA)] H (lgA (logOf l)) := by
  refine fnC_of Try.func53 rfl (Nat.le_of_ble_eq_true rfl) ?_
  repeat' first | ((first | refine callP_false (.bool false) ?_ | refine aw_region rfl ?_ | refine aw_region_draw mixedF rfl (by kernel_rfl) ?_ | refine aw_ret ?_ | refine aw_skip ?_ | refine aw_exit ?_ | refine aw_label ?_); simp only [go_sem, aopsK, aopsG, aopsPK, aopsPG, aopsMK, aopsMG, aopsN, TypeDesc.isAgg, ↓reduceIte, Nat.reduceEqDiff, Nat.reduceAdd, Nat.reduceSub, Nat.reduceMul, Nat.reduceLeDiff, Nat.reduceLT, Nat.reduceBEq, Int.reduceNeg, Int.reduceLE, Int.reduceLT, Int.reduceToNat, String.reduceEq, Option.isSome_some, Option.isSome_none, Bool.false_eq_true, Bool.true_eq_false, not_true_eq_false, not_false_eq_true, true_and, and_true, and_self, List.getElem?_toArray, List.getElem?_cons_zero, List.getElem?_cons_succ, List.getElem?_nil, List.length_map, List.append_eq, List.range_zero, List.cons_append, List.nil_append, Nat.one_ne_zero, implies_true]) | refine aw_seq ?_ | refine aw_block ?_ | refine aw_scope ?_ | (refine aw_cond rfl (fun h => ?_) (fun h => ?_) <;> try (exfalso; first | (simp at h; done) | (simp at h; omega))) | ((with_reducible refine And.intro ?_ ?_); focus (first | omega | (intros; simp_all; done) | (simp; omega)))
  have hstep : ∀ i (hi : i < l.length), (redo (l.take (i + 1)) [] []) = ((redo (l.take i) [] []).1 ++ [⟨l[i], doU (redo (l.take i) [] []).2 l[i]⟩], doL (redo (l.take i) [] []).2 l[i]) := fun i hi => by
    rw [List.take_succ_eq_append_getElem hi, redo_snoc]
  have hlen : ∀ i, i ≤ l.length → (redo (l.take i) [] []).1.length = i ∧ (redo (l.take i) [] []).2.length ≤ i := fun i hi => by
    have := redo_len (l.take i) [] []
    simp only [List.length_nil, List.length_take, Nat.zero_add] at this
    omega
  refine aw_loopS (ι := Nat × AHeap × Nat × Bool) (fun x => [(0, .sl b (l.map opA)), (2, .ref H.length 0 0), (3, .ref (H.length + 1) 0 0), (4, .int .i64 x.1)]) (fun x => x.2.1)
    (fun x => x.1 ≤ l.length ∧ hget x.2.1 H.length = .cells 0 [.sl true [], .sl true []] ∧ (∃ M, x.2.1 = H ++ M) ∧
      ((x.1 = 0 ∧ hget x.2.1 (H.length + 1) = .cells 0 [.sl true [], .sl x.2.2.2 ((redo (l.take x.1) [] []).2.map ndA)]) ∨
       (0 < x.1 ∧ H.length + 1 < x.2.2.1 ∧ hget x.2.1 (H.length + 1) = .cells 0 [.osl 17 x.2.2.1 x.1 0 x.1 x.1, .sl x.2.2.2 ((redo (l.take x.1) [] []).2.map ndA)] ∧ hget x.2.1 x.2.2.1 = .cells x.1 (((redo (l.take x.1) [] []).1.map enA).flatMap AV.cells))))
    (fun x => l.length - x.1) (0, _, 0, true) ⟨Nat.zero_le _, by simp only [go_sem, aopsK, aopsG, aopsPK, aopsPG, aopsMK, aopsMG, aopsN, TypeDesc.isAgg, ↓reduceIte, Nat.reduceEqDiff, Nat.reduceAdd, Nat.reduceSub, Nat.reduceMul, Nat.reduceLeDiff, Nat.reduceLT, Nat.reduceBEq, Int.reduceNeg, Int.reduceLE, Int.reduceLT, Int.reduceToNat, String.reduceEq, Option.isSome_some, Option.isSome_none, Bool.false_eq_true, Bool.true_eq_false, not_true_eq_false, not_false_eq_true, true_and, and_true, and_self, List.getElem?_toArray, List.getElem?_cons_zero, List.getElem?_cons_succ, List.getElem?_nil, List.length_map, List.append_eq, List.range_zero, List.cons_append, List.nil_append, Nat.one_ne_zero, implies_true], ⟨_, rfl⟩, .inl ⟨rfl, by simp only [go_sem, aopsK, aopsG, aopsPK, aopsPG, aopsMK, aopsMG, aopsN, TypeDesc.isAgg, ↓reduceIte, Nat.reduceEqDiff, Nat.reduceAdd, Nat.reduceSub, Nat.reduceMul, Nat.reduceLeDiff, Nat.reduceLT, Nat.reduceBEq, Int.reduceNeg, Int.reduceLE, Int.reduceLT, Int.reduceToNat, String.reduceEq, Option.isSome_some, Option.isSome_none, Bool.false_eq_true, Bool.true_eq_false, not_true_eq_false, not_false_eq_true, true_and, and_true, and_self, List.getElem?_toArray, List.getElem?_cons_zero, List.getElem?_cons_succ, List.getElem?_nil, List.length_map, List.append_eq, List.range_zero, List.cons_append, List.nil_append, Nat.one_ne_zero, implies_true]; rfl⟩⟩ ?_ rfl ?_
  · simp [go_sem]
  · rintro ⟨i, X, k, f⟩ ⟨hi, r1, rP, hcase⟩
    simp only at hi r1 rP hcase ⊢
    obtain ⟨hl1, hl2⟩ := hlen i hi
    by_cases hlt : i < l.length
    · have hp := getD_map opA hlt
      have hli : decide ((i : Int) < (l.length : Int)) = true := decide_eq_true (by omega)
      have hst := hstep i hlt
      have hSo := hS _ (List.getElem_mem hlt)
      have hdo := rdo_c f (redo (l.take i) [] []).2 l[i] (by omega) (fun H => ropOk_c _ hSo H)
      generalize l[i] = o at *
      generalize (redo (l.take i) [] []).1 = es at *
      generalize (redo (l.take i) [] []).2 = nn at *
      simp only [opA, unA] at hdo
      rcases hcase with ⟨rfl, r2⟩ | ⟨h0, hk, r2, r3⟩
      · have hX2 : H.length + 1 < X.length := hget_lt r2 trivial
        have r2' := fun M => hget_appL r2 trivial M
        have qs := fun M b => hset_appL hX2 M b
        have hlp : ((0 : Nat) : Int) < (l.length : Int) := by omega
        have g1 : ∀ cs M, hget (hset X (H.length + 1) (.cells 0 cs) ++ M) (H.length + 1) = .cells 0 cs := fun cs M => hget_appL (b := .cells 0 cs) (hget_set_eq hX2 _) trivial M
        have g2 : ∀ b b' M, hset (hset X (H.length + 1) b ++ M) (H.length + 1) b' = hset X (H.length + 1) b' ++ M := fun b b' M => by rw [hset_appL (by rw [hset_len]; exact hX2), hset_set]
        repeat' first | ((first | refine callK_fn (hdo _) callOk35F ?_ | refine callP_fn (hdo _) callOk35F ?_ | refine callM_fn (fun _ => hdo _) callOk35F ?_ | refine aw_region_mix (id := 5) [.pure 0, .pure 0, .free, .free, .pure 0, .pure 0, .pure 0, .free, .free, .free, .eff [true, true, true, true, true], .free, .eff [false, false, false, false, false]] mixedF rfl (by kernel_rfl) (by kernel_rfl) ?_ | refine aw_region_mix (id := 6) [.pure 0, .pure 0, .free, .free, .pure 0, .pure 0, .pure 0, .free, .free, .eff [true, true, true, false, true], .pure 0, .eff [false, false, false, false, false]] mixedF rfl (by kernel_rfl) (by kernel_rfl) ?_ | refine callP_false (.bool false) ?_ | refine aw_region rfl ?_ | refine aw_region_draw mixedF rfl (by kernel_rfl) ?_ | refine aw_ret ?_ | refine aw_skip ?_ | refine aw_exit ?_ | refine aw_label ?_); simp only [go_sem, aopsK, aopsG, aopsPK, aopsPG, aopsMK, aopsMG, aopsN, TypeDesc.isAgg, ↓reduceIte, Nat.reduceEqDiff, Nat.reduceAdd, Nat.reduceSub, Nat.reduceMul, Nat.reduceLeDiff, Nat.reduceLT, Nat.reduceBEq, Int.reduceNeg, Int.reduceLE, Int.reduceLT, Int.reduceToNat, String.reduceEq, Option.isSome_some, Option.isSome_none, Bool.false_eq_true, Bool.true_eq_false, not_true_eq_false, not_false_eq_true, true_and, and_true, and_self, List.getElem?_toArray, List.getElem?_cons_zero, List.getElem?_cons_succ, List.getElem?_nil, List.length_map, List.append_eq, List.range_zero, List.cons_append, List.nil_append, Nat.one_ne_zero, implies_true, hp, opA, hli, r2, r2', qs]) | ((with_reducible refine And.intro ?_ ?_); focus (exact callAt_of (hdo _) callOk35F)) | ((with_reducible refine And.intro (And.intro ?_ ?_) ?_); focus (exact callAt_of (hdo _) callOk35F)) | (exact callAt_of (hdo _) callOk35F) | refine aw_seq ?_ | refine aw_block ?_ | refine aw_scope ?_ | (refine aw_cond rfl (fun h => ?_) (fun h => ?_) <;> try (exfalso; first | (simp at h; done) | (simp at h; omega))) | ((with_reducible refine And.intro ?_ ?_); focus (first | omega | (intros; simp_all; done) | (simp; omega)))
        all_goals ((repeat' (with_reducible refine And.intro ?_ ?_)) <;> try (first | omega | exact .inl trivial | exact (fun e he => by rw [he]; rfl)))
        repeat' first | ((first | refine aw_region_mix (id := 5) [.pure 0, .pure 0, .free, .free, .pure 0, .pure 0, .pure 0, .free, .free, .free, .eff [true, true, true, true, true], .free, .eff [false, false, false, false, false]] mixedF rfl (by kernel_rfl) (by kernel_rfl) ?_ | refine aw_region_mix (id := 6) [.pure 0, .pure 0, .free, .free, .pure 0, .pure 0, .pure 0, .free, .free, .eff [true, true, true, false, true], .pure 0, .eff [false, false, false, false, false]] mixedF rfl (by kernel_rfl) (by kernel_rfl) ?_ | refine callP_false (.bool false) ?_ | refine aw_region rfl ?_ | refine aw_region_draw mixedF rfl (by kernel_rfl) ?_ | refine aw_ret ?_ | refine aw_skip ?_ | refine aw_exit ?_ | refine aw_label ?_); simp only [go_sem, aopsK, aopsG, aopsPK, aopsPG, aopsMK, aopsMG, aopsN, TypeDesc.isAgg, ↓reduceIte, Nat.reduceEqDiff, Nat.reduceAdd, Nat.reduceSub, Nat.reduceMul, Nat.reduceLeDiff, Nat.reduceLT, Nat.reduceBEq, Int.reduceNeg, Int.reduceLE, Int.reduceLT, Int.reduceToNat, String.reduceEq, Option.isSome_some, Option.isSome_none, Bool.false_eq_true, Bool.true_eq_false, not_true_eq_false, not_false_eq_true, true_and, and_true, and_self, List.getElem?_toArray, List.getElem?_cons_zero, List.getElem?_cons_succ, List.getElem?_nil, List.length_map, List.append_eq, List.range_zero, List.cons_append, List.nil_append, Nat.one_ne_zero, implies_true, r2, r2', qs, g1, g2]) | refine aw_seq ?_ | refine aw_block ?_ | refine aw_scope ?_ | (refine aw_cond rfl (fun h => ?_) (fun h => ?_) <;> try (exfalso; first | (simp at h; done) | (simp at h; omega))) | ((with_reducible refine And.intro ?_ ?_); focus (first | omega | (intros; simp_all; done) | (simp; omega)))
        have he0 : es = [] := List.eq_nil_of_length_eq_zero (by omega)
        subst he0
        refine ⟨(0 + 1, _, X.length + 1, f && refused nn o), ⟨?_, ?_, ?_, .inr ⟨?_, ?_, ?_, ?_⟩⟩, ?_, ?_, rfl⟩
        · exact hlt
        · exact hget_appL ((hget_set_ne (by omega) _).trans r1) trivial _
        · exact pre_app (pre_set rP (by omega) _) _
        · exact Nat.zero_lt_one
        · exact Nat.lt_succ_of_lt hX2
        · simp only [hst]; exact g1 _ _
        · simp only [hst]; exact (hget_at (k := 1) (hset_len X _ _)).trans rfl
        · simp only; omega
        · exact congrArg _ (wrap_succ hlt (by omega))
      · have hX2 : H.length + 1 < X.length := hget_lt r2 trivial
        have r2' := fun M => hget_appL r2 trivial M
        have r3' := fun M => hget_appL r3 trivial M
        have qs := fun M b => hset_appL hX2 M b
        have hk' : k < X.length := hget_lt r3 trivial
        have f1 := fun M b => hset_appL hk' M b
        have f2 := fun M b => hget_appL ((hget_set_ne (show k ≠ H.length + 1 by omega) b).trans r2) trivial M
        have f3 : ∀ M b b', hset (hset X k b ++ M) (H.length + 1) b' = hset (hset X k b) (H.length + 1) b' ++ M := fun M b b' => hset_appL (by rw [hset_len]; exact hX2) M b'
        have f4 : ∀ b c, hget (hset X k b ++ [c]) X.length = c := fun b c => (hget_at0 (hset_len X k b)).trans rfl
        have hfl : (List.flatMap AV.cells (es.map enA)).length = i * 17 := (flat_len (s := 17) (fun e he => by obtain ⟨x, _, rfl⟩ := List.mem_map.1 he; rfl)).trans (by rw [List.length_map, hl1])
        have hlp : ((i : Nat) : Int) < (l.length : Int) := by omega
        have hX3 : ∀ b, H.length + 1 < (hset X k b).length := fun b => by rw [hset_len]; exact hX2
        have g1 : ∀ b cs M, hget (hset (hset X k b) (H.length + 1) (.cells 0 cs) ++ M) (H.length + 1) = .cells 0 cs := fun b cs M => hget_appL (b := .cells 0 cs) (hget_set_eq (hX3 b) _) trivial M
        have g2 : ∀ b0 b b' M, hset (hset (hset X k b0) (H.length + 1) b ++ M) (H.length + 1) b' = hset (hset X k b0) (H.length + 1) b' ++ M := fun b0 b b' M => by rw [hset_appL (by rw [hset_len]; exact hX3 b0), hset_set]
        repeat' first | ((first | refine callK_fn (hdo _) callOk35F ?_ | refine callP_fn (hdo _) callOk35F ?_ | refine callM_fn (fun _ => hdo _) callOk35F ?_ | refine aw_region_mix (id := 5) [.pure 0, .pure 0, .free, .free, .pure 0, .pure 0, .pure 0, .free, .free, .free, .eff [true, true, true, true, true], .free, .eff [false, false, false, false, false]] mixedF rfl (by kernel_rfl) (by kernel_rfl) ?_ | refine aw_region_mix (id := 6) [.pure 0, .pure 0, .free, .free, .pure 0, .pure 0, .pure 0, .free, .free, .eff [true, true, true, false, true], .pure 0, .eff [false, false, false, false, false]] mixedF rfl (by kernel_rfl) (by kernel_rfl) ?_ | refine callP_false (.bool false) ?_ | refine aw_region rfl ?_ | refine aw_region_draw mixedF rfl (by kernel_rfl) ?_ | refine aw_ret ?_ | refine aw_skip ?_ | refine aw_exit ?_ | refine aw_label ?_); simp only [go_sem, aopsK, aopsG, aopsPK, aopsPG, aopsMK, aopsMG, aopsN, TypeDesc.isAgg, ↓reduceIte, Nat.reduceEqDiff, Nat.reduceAdd, Nat.reduceSub, Nat.reduceMul, Nat.reduceLeDiff, Nat.reduceLT, Nat.reduceBEq, Int.reduceNeg, Int.reduceLE, Int.reduceLT, Int.reduceToNat, String.reduceEq, Option.isSome_some, Option.isSome_none, Bool.false_eq_true, Bool.true_eq_false, not_true_eq_false, not_false_eq_true, true_and, and_true, and_self, List.getElem?_toArray, List.getElem?_cons_zero, List.getElem?_cons_succ, List.getElem?_nil, List.length_map, List.append_eq, List.range_zero, List.cons_append, List.nil_append, Nat.one_ne_zero, implies_true, hp, opA, hli, r2, r2', r3, r3', qs, f1, f2, f3, f4, hfl]) | ((with_reducible refine And.intro ?_ ?_); focus (exact callAt_of (hdo _) callOk35F)) | ((with_reducible refine And.intro (And.intro ?_ ?_) ?_); focus (exact callAt_of (hdo _) callOk35F)) | (exact callAt_of (hdo _) callOk35F) | refine aw_seq ?_ | refine aw_block ?_ | refine aw_scope ?_ | (refine aw_cond rfl (fun h => ?_) (fun h => ?_) <;> try (exfalso; first | (simp at h; done) | (simp at h; omega))) | ((with_reducible refine And.intro ?_ ?_); focus (first | omega | (intros; simp_all; done) | (simp; omega)))
        all_goals ((repeat' (with_reducible refine And.intro ?_ ?_)) <;> try (first | omega | exact .inl trivial | exact (fun e he => by rw [he]; rfl)))
        repeat' first | ((first | refine aw_region_mix (id := 5) [.pure 0, .pure 0, .free, .free, .pure 0, .pure 0, .pure 0, .free, .free, .free, .eff [true, true, true, true, true], .free, .eff [false, false, false, false, false]] mixedF rfl (by kernel_rfl) (by kernel_rfl) ?_ | refine aw_region_mix (id := 6) [.pure 0, .pure 0, .free, .free, .pure 0, .pure 0, .pure 0, .free, .free, .eff [true, true, true, false, true], .pure 0, .eff [false, false, false, false, false]] mixedF rfl (by kernel_rfl) (by kernel_rfl) ?_ | refine callP_false (.bool false) ?_ | refine aw_region rfl ?_ | refine aw_region_draw mixedF rfl (by kernel_rfl) ?_ | refine aw_ret ?_ | refine aw_skip ?_ | refine aw_exit ?_ | refine aw_label ?_); simp only [go_sem, aopsK, aopsG, aopsPK, aopsPG, aopsMK, aopsMG, aopsN, TypeDesc.isAgg, ↓reduceIte, Nat.reduceEqDiff, Nat.reduceAdd, Nat.reduceSub, Nat.reduceMul, Nat.reduceLeDiff, Nat.reduceLT, Nat.reduceBEq, Int.reduceNeg, Int.reduceLE, Int.reduceLT, Int.reduceToNat, String.reduceEq, Option.isSome_some, Option.isSome_none, Bool.false_eq_true, Bool.true_eq_false, not_true_eq_false, not_false_eq_true, true_and, and_true, and_self, List.getElem?_toArray, List.getElem?_cons_zero, List.getElem?_cons_succ, List.getElem?_nil, List.length_map, List.append_eq, List.range_zero, List.cons_append, List.nil_append, Nat.one_ne_zero, implies_true, r2, r2', qs, f1, f2, f3, f4, g1, g2]) | refine aw_seq ?_ | refine aw_block ?_ | refine aw_scope ?_ | (refine aw_cond rfl (fun h => ?_) (fun h => ?_) <;> try (exfalso; first | (simp at h; done) | (simp at h; omega))) | ((with_reducible refine And.intro ?_ ?_); focus (first | omega | (intros; simp_all; done) | (simp; omega)))
        refine ⟨(i + 1, _, k, f && refused nn o), ⟨?_, ?_, ?_, .inr ⟨?_, hk, ?_, ?_⟩⟩, ?_, ?_, rfl⟩
        · exact hlt
        · exact hget_appL ((hget_set_ne (by omega) _).trans ((hget_set_ne (by omega) _).trans r1)) trivial _
        · exact pre_app (pre_set (pre_set rP (by omega) _) (by omega) _) _
        · exact Nat.succ_pos i
        · simp only [hst]; exact g1 _ _ _
        · have ec : ((es ++ [(⟨o, doU nn o⟩ : Ent)]).map enA).flatMap AV.cells = (es.map enA).flatMap AV.cells ++ (enA ⟨o, doU nn o⟩).cells := by simp
          simp only [hst, ec]; exact hget_appL (b := .cells (i + 1) _) ((hget_set_ne (by omega) _).trans (hget_set_eq hk' _)) trivial _
        · simp only; omega
        · exact congrArg _ (wrap_succ hlt (by omega))
    · have hie : i = l.length := by omega
      have hli : decide ((i : Int) < (l.length : Int)) = false := decide_eq_false (by omega)
      have hX0 : H.length < X.length := hget_lt r1 trivial
      have s1 : ∀ b, hget (hset X H.length b) H.length = b := fun b => hget_set_eq hX0 b
      have hlog : logOf l = ⟨(redo (l.take i) [] []).1, (redo (l.take i) [] []).2⟩ := by rw [hie, List.take_length]; rfl
      have hpe : ∀ es : List Ent, ∀ e ∈ es.map enA, Pur e := fun es e he => by obtain ⟨x, _, rfl⟩ := List.mem_map.1 he; exact (by simp only [pur_int, pur_bool, pur_str, pur_agg, pur_tup, pur_sl, pur_iface, pur_nilI, List.mem_cons, List.not_mem_nil, false_implies, forall_eq_or_imp, List.mem_map, forall_exists_index, and_imp, forall_apply_eq_imp_iff₂, or_false, forall_eq, implies_true, and_self, and_true, true_and, Go.Gw.stA, Go.Gw.opA, Go.Gw.ndA, Go.Gw.unA, Go.Gw.enA, Go.Gw.inA, Go.Gw.lgF, Go.Gw.lgA])
      have hpn2 : ∀ (f : Bool) (es : List Nd), Pur (.sl f (es.map ndA)) := fun f es => (by simp only [pur_int, pur_bool, pur_str, pur_agg, pur_tup, pur_sl, pur_iface, pur_nilI, List.mem_cons, List.not_mem_nil, false_implies, forall_eq_or_imp, List.mem_map, forall_exists_index, and_imp, forall_apply_eq_imp_iff₂, or_false, forall_eq, implies_true, and_self, and_true, true_and, Go.Gw.stA, Go.Gw.opA, Go.Gw.ndA, Go.Gw.unA, Go.Gw.enA, Go.Gw.inA, Go.Gw.lgF, Go.Gw.lgA])
      have hpn : ∀ es : List Nd, Pur (.sl true (es.map ndA)) ∧ Pur (.sl false (es.map ndA)) := fun es => ⟨(by simp only [pur_int, pur_bool, pur_str, pur_agg, pur_tup, pur_sl, pur_iface, pur_nilI, List.mem_cons, List.not_mem_nil, false_implies, forall_eq_or_imp, List.mem_map, forall_exists_index, and_imp, forall_apply_eq_imp_iff₂, or_false, forall_eq, implies_true, and_self, and_true, true_and, Go.Gw.stA, Go.Gw.opA, Go.Gw.ndA, Go.Gw.unA, Go.Gw.enA, Go.Gw.inA, Go.Gw.lgF, Go.Gw.lgA]), (by simp only [pur_int, pur_bool, pur_str, pur_agg, pur_tup, pur_sl, pur_iface, pur_nilI, List.mem_cons, List.not_mem_nil, false_implies, forall_eq_or_imp, List.mem_map, forall_exists_index, and_imp, forall_apply_eq_imp_iff₂, or_false, forall_eq, implies_true, and_self, and_true, true_and, Go.Gw.stA, Go.Gw.opA, Go.Gw.ndA, Go.Gw.unA, Go.Gw.enA, Go.Gw.inA, Go.Gw.lgF, Go.Gw.lgA])⟩
      rw [hlog]
      generalize (redo (l.take i) [] []).1 = es at *
      generalize (redo (l.take i) [] []).2 = nn at *
      simp only [lgA, lgF]
      rcases hcase with ⟨h0, r2⟩ | ⟨h0, hk, r2, r3⟩
      · repeat' first | ((first | refine aw_region_mix (id := 5) [.pure 0, .pure 0, .free, .free, .pure 0, .pure 0, .pure 0, .free, .free, .free, .eff [true, true, true, true, true], .free, .eff [false, false, false, false, false]] mixedF rfl (by kernel_rfl) (by kernel_rfl) ?_ | refine aw_region_mix (id := 6) [.pure 0, .pure 0, .free, .free, .pure 0, .pure 0, .pure 0, .free, .free, .eff [true, true, true, false, true], .pure 0, .eff [false, false, false, false, false]] mixedF rfl (by kernel_rfl) (by kernel_rfl) ?_ | refine callP_false (.bool false) ?_ | refine aw_region rfl ?_ | refine aw_region_draw mixedF rfl (by kernel_rfl) ?_ | refine aw_ret ?_ | refine aw_skip ?_ | refine aw_exit ?_ | refine aw_label ?_); simp only [go_sem, aopsK, aopsG, aopsPK, aopsPG, aopsMK, aopsMG, aopsN, TypeDesc.isAgg, ↓reduceIte, Nat.reduceEqDiff, Nat.reduceAdd, Nat.reduceSub, Nat.reduceMul, Nat.reduceLeDiff, Nat.reduceLT, Nat.reduceBEq, Int.reduceNeg, Int.reduceLE, Int.reduceLT, Int.reduceToNat, String.reduceEq, Option.isSome_some, Option.isSome_none, Bool.false_eq_true, Bool.true_eq_false, not_true_eq_false, not_false_eq_true, true_and, and_true, and_self, List.getElem?_toArray, List.getElem?_cons_zero, List.getElem?_cons_succ, List.getElem?_nil, List.length_map, List.append_eq, List.range_zero, List.cons_append, List.nil_append, Nat.one_ne_zero, implies_true, hli, r1, r2, s1]) | refine aw_seq ?_ | refine aw_block ?_ | refine aw_scope ?_ | (refine aw_cond rfl (fun h => ?_) (fun h => ?_) <;> try (exfalso; first | (simp at h; done) | (simp at h; omega))) | ((with_reducible refine And.intro ?_ ?_); focus (first | omega | (intros; simp_all; done) | (simp; omega)))
        have he0 : es = [] := List.eq_nil_of_length_eq_zero (by omega)
        subst he0
        obtain ⟨M, hM⟩ := pre_set rP (Nat.le_refl _) (.cells 0 [.sl true [], .sl f (nn.map ndA)])
        refine ⟨M, .agg [.sl false [], .sl false (nn.map ndA)], hM, .agg _ _ rfl (frzs_cons (Sim.frz (.sl true []) (hpn []).1) (frzs_cons (Sim.frz (.sl f _) (hpn2 f nn)) frzs_nil)), rfl⟩
      · repeat' first | ((first | refine aw_region_mix (id := 5) [.pure 0, .pure 0, .free, .free, .pure 0, .pure 0, .pure 0, .free, .free, .free, .eff [true, true, true, true, true], .free, .eff [false, false, false, false, false]] mixedF rfl (by kernel_rfl) (by kernel_rfl) ?_ | refine aw_region_mix (id := 6) [.pure 0, .pure 0, .free, .free, .pure 0, .pure 0, .pure 0, .free, .free, .eff [true, true, true, false, true], .pure 0, .eff [false, false, false, false, false]] mixedF rfl (by kernel_rfl) (by kernel_rfl) ?_ | refine callP_false (.bool false) ?_ | refine aw_region rfl ?_ | refine aw_region_draw mixedF rfl (by kernel_rfl) ?_ | refine aw_ret ?_ | refine aw_skip ?_ | refine aw_exit ?_ | refine aw_label ?_); simp only [go_sem, aopsK, aopsG, aopsPK, aopsPG, aopsMK, aopsMG, aopsN, TypeDesc.isAgg, ↓reduceIte, Nat.reduceEqDiff, Nat.reduceAdd, Nat.reduceSub, Nat.reduceMul, Nat.reduceLeDiff, Nat.reduceLT, Nat.reduceBEq, Int.reduceNeg, Int.reduceLE, Int.reduceLT, Int.reduceToNat, String.reduceEq, Option.isSome_some, Option.isSome_none, Bool.false_eq_true, Bool.true_eq_false, not_true_eq_false, not_false_eq_true, true_and, and_true, and_self, List.getElem?_toArray, List.getElem?_cons_zero, List.getElem?_cons_succ, List.getElem?_nil, List.length_map, List.append_eq, List.range_zero, List.cons_append, List.nil_append, Nat.one_ne_zero, implies_true, hli, r1, r2, s1]) | refine aw_seq ?_ | refine aw_block ?_ | refine aw_scope ?_ | (refine aw_cond rfl (fun h => ?_) (fun h => ?_) <;> try (exfalso; first | (simp at h; done) | (simp at h; omega))) | ((with_reducible refine And.intro ?_ ?_); focus (first | omega | (intros; simp_all; done) | (simp; omega)))
        obtain ⟨M, hM⟩ := pre_set rP (Nat.le_refl _) (.cells 0 [.osl 17 k i 0 i i, .sl f (nn.map ndA)])
        have hel : es.length = i := by omega
        refine ⟨M, .agg [.sl false (es.map enA), .sl false (nn.map ndA)], hM, .agg _ _ rfl (frzs_cons (frz_osl (s := 17) (es := es.map enA) (rest := []) (by omega) ((hget_set_ne (by omega) _).trans r3) (List.append_nil _).symm (by rw [List.length_map]; exact hel) (fun e he => by obtain ⟨x, _, rfl⟩ := List.mem_map.1 he; rfl) (hpe es)) (frzs_cons (Sim.frz (.sl f _) (hpn2 f nn)) frzs_nil)), rfl⟩
end Go.Proofs.Ytoffonjlfomnbaa
/- What the document's logs answer: Add, All. No condition but the length of what comes in. -/
namespace Go.Gw
open Go Go.Aw Go.Proofs.Ytoffonjlfomnbaa
def rAddS (g : Lg) (o : Opn) : Bool := !opOk o || (hasAt g.entries o.at_ || decide ((200 : Int) ≤ (g.entries.length : Int)))
theorem rIns_sub (out : List Opn) (o : Opn) : (∀ x ∈ rIns out o, x = o ∨ x ∈ out) ∧ (rIns out o).length ≤ out.length + 1 := by
  unfold rIns
  split
  · exact ⟨fun x hx => .inr hx, by omega⟩
  · refine ⟨fun x hx => ?_, by rw [List.length_append, List.length_cons, List.length_take, List.length_drop]; omega⟩
    rw [List.mem_append, List.mem_cons] at hx
    rcases hx with h | h | h
    · exact .inr (List.mem_of_mem_take h)
    · exact .inl h
    · exact .inr (List.mem_of_mem_drop h)
theorem rSort_sub (l : List Opn) : (∀ x ∈ rSort l, x ∈ l) ∧ (rSort l).length ≤ l.length := by
  suffices h : ∀ (l acc : List Opn), (∀ x ∈ l.foldl rIns acc, x ∈ l ∨ x ∈ acc) ∧ (l.foldl rIns acc).length ≤ acc.length + l.length by
    have := h l []
    exact ⟨fun x hx => by simpa using this.1 x hx, by simpa [rSort] using this.2⟩
  intro l
  induction l with
  | nil => intro acc; exact ⟨fun x hx => .inr hx, Nat.le_refl _⟩
  | cons o l ih =>
    intro acc
    have h1 := ih (rIns acc o)
    have h2 := rIns_sub acc o
    refine ⟨fun x hx => ?_, by rw [List.foldl_cons, List.length_cons]; omega⟩
    rcases h1.1 x hx with q | q
    · exact .inl (by simp [q])
    · rcases h2.1 x q with q | q
      · exact .inl (by simp [q])
      · exact .inr q
end Go.Gw
namespace Go.Aw
open Go
theorem callE_is {P : Program} {f : FuncId} {args : List AV} {H H1 : AHeap} {v : AV} {K : AV → AHeap → Prop} (h : ACalls P f args H (fun x H' => x = v ∧ H' = H1)) (ok : callOk P f = true) (hk : K v H1) : callE P true (.func (.func f) [] []) args H K :=
  ⟨v, H1, fun _ => ⟨ok, by simp only [List.nil_append, List.append_nil]; exact h⟩, fun h => (by cases h), hk⟩
end Go.Aw
namespace Go.Proofs.Ytoffonjlfomnbaa
open Go Go.Aw Go.Gw
set_option linter.unusedSimpArgs false
set_option maxRecDepth 20000
set_option maxHeartbeats 4000000

theorem radd_c (b1 b2 : Bool) (g : Lg) (o : Opn) (hs : OpS o) (hes : EntS g.entries) (h1 : g.entries.length ≤ 1000) (H : AHeap) : FnC Try.prog 23 [lgF b1 b2 g, opA o] H (.tup [lgF (b1 && rAddS g o) (b2 && rAddS g o) (rAddG g o), .int .i64 (addE g o)]) := by
  have hok := ropOk_c o hs
  have hha := rhas_c b1 b2 g o.at_
  refine fnC_of Try.func23 rfl (Nat.le_of_ble_eq_true rfl) ?_
  simp only [opA, lgA, lgF, stA, tagV] at hok hha ⊢
  cases ho : opOk o with
  | false =>
    rw [rAddG, if_pos ho, addE, if_pos ho, rAddS, ho, Bool.not_false, Bool.true_or, Bool.and_true, Bool.and_true]
    repeat' first | ((first | refine callK_fn (hok _) callOk52F ?_ | refine callP_fn (hok _) callOk52F ?_ | refine callM_fn (fun _ => hok _) callOk52F ?_ | refine aw_region_mix (id := 9) [.pure 0, .eff [false], .pure 1, .free, .eff [true], .eff [true], .pure 0, .eff [false, false], .free] mixedF rfl (by kernel_rfl) (by kernel_rfl) ?_ | refine callP_false (.bool false) ?_ | refine aw_region rfl ?_ | refine aw_region_draw mixedF rfl (by kernel_rfl) ?_ | refine aw_ret ?_ | refine aw_skip ?_ | refine aw_exit ?_ | refine aw_label ?_); simp only [go_sem, aopsK, aopsG, aopsPK, aopsPG, aopsMK, aopsMG, aopsN, TypeDesc.isAgg, ↓reduceIte, Nat.reduceEqDiff, Nat.reduceAdd, Nat.reduceSub, Nat.reduceMul, Nat.reduceLeDiff, Nat.reduceLT, Nat.reduceBEq, Int.reduceNeg, Int.reduceLE, Int.reduceLT, Int.reduceToNat, String.reduceEq, Option.isSome_some, Option.isSome_none, Bool.false_eq_true, Bool.true_eq_false, not_true_eq_false, not_false_eq_true, true_and, and_true, and_self, List.getElem?_toArray, List.getElem?_cons_zero, List.getElem?_cons_succ, List.getElem?_nil, List.length_map, List.append_eq, List.range_zero, List.cons_append, List.nil_append, Nat.one_ne_zero, implies_true, ho]) | refine aw_seq ?_ | refine aw_block ?_ | refine aw_scope ?_ | (refine aw_cond rfl (fun h => ?_) (fun h => ?_) <;> try (exfalso; first | (simp at h; done) | (simp at h; omega))) | ((with_reducible refine And.intro ?_ ?_); focus (first | omega | (intros; simp_all; done) | (simp; omega)))
    exact done (by simp only [pur_int, pur_bool, pur_str, pur_agg, pur_tup, pur_sl, pur_iface, pur_nilI, List.mem_cons, List.not_mem_nil, false_implies, forall_eq_or_imp, List.mem_map, forall_exists_index, and_imp, forall_apply_eq_imp_iff₂, or_false, forall_eq, implies_true, and_self, and_true, true_and, Go.Gw.stA, Go.Gw.opA, Go.Gw.ndA, Go.Gw.unA, Go.Gw.enA, Go.Gw.inA, Go.Gw.lgF, Go.Gw.lgA]) (.refl _)
  | true =>
    cases hh : hasAt g.entries o.at_ with
    | true =>
      rw [rAddG, if_neg (by rw [ho]; decide), if_pos hh, addE, if_neg (by rw [ho]; decide), if_pos hh, rAddS, hh, Bool.true_or, Bool.or_true, Bool.and_true, Bool.and_true]
      repeat' first | ((first | refine callK_fn (hok _) callOk52F ?_ | refine callP_fn (hok _) callOk52F ?_ | refine callM_fn (fun _ => hok _) callOk52F ?_ | refine callK_fn (hha _) callOk25F ?_ | refine callP_fn (hha _) callOk25F ?_ | refine callM_fn (fun _ => hha _) callOk25F ?_ | refine aw_region_mix (id := 9) [.pure 0, .eff [false], .pure 1, .free, .eff [true], .eff [true], .pure 0, .eff [false, false], .free] mixedF rfl (by kernel_rfl) (by kernel_rfl) ?_ | refine callP_false (.bool false) ?_ | refine aw_region rfl ?_ | refine aw_region_draw mixedF rfl (by kernel_rfl) ?_ | refine aw_ret ?_ | refine aw_skip ?_ | refine aw_exit ?_ | refine aw_label ?_); simp only [go_sem, aopsK, aopsG, aopsPK, aopsPG, aopsMK, aopsMG, aopsN, TypeDesc.isAgg, ↓reduceIte, Nat.reduceEqDiff, Nat.reduceAdd, Nat.reduceSub, Nat.reduceMul, Nat.reduceLeDiff, Nat.reduceLT, Nat.reduceBEq, Int.reduceNeg, Int.reduceLE, Int.reduceLT, Int.reduceToNat, String.reduceEq, Option.isSome_some, Option.isSome_none, Bool.false_eq_true, Bool.true_eq_false, not_true_eq_false, not_false_eq_true, true_and, and_true, and_self, List.getElem?_toArray, List.getElem?_cons_zero, List.getElem?_cons_succ, List.getElem?_nil, List.length_map, List.append_eq, List.range_zero, List.cons_append, List.nil_append, Nat.one_ne_zero, implies_true, ho, hh]) | refine aw_seq ?_ | refine aw_block ?_ | refine aw_scope ?_ | (refine aw_cond rfl (fun h => ?_) (fun h => ?_) <;> try (exfalso; first | (simp at h; done) | (simp at h; omega))) | ((with_reducible refine And.intro ?_ ?_); focus (first | omega | (intros; simp_all; done) | (simp; omega)))
      exact done (by simp only [pur_int, pur_bool, pur_str, pur_agg, pur_tup, pur_sl, pur_iface, pur_nilI, List.mem_cons, List.not_mem_nil, false_implies, forall_eq_or_imp, List.mem_map, forall_exists_index, and_imp, forall_apply_eq_imp_iff₂, or_false, forall_eq, implies_true, and_self, and_true, true_and, Go.Gw.stA, Go.Gw.opA, Go.Gw.ndA, Go.Gw.unA, Go.Gw.enA, Go.Gw.inA, Go.Gw.lgF, Go.Gw.lgA]) (.refl _)
    | false =>
      by_cases hm : (200 : Int) ≤ (g.entries.length : Int)
      · rw [rAddG, if_neg (by rw [ho]; decide), if_neg (by rw [hh]; decide), if_pos hm, addE, if_neg (by rw [ho]; decide), if_neg (by rw [hh]; decide), if_pos hm, rAddS, decide_eq_true hm, Bool.or_true, Bool.or_true, Bool.and_true, Bool.and_true]
        repeat' first | ((first | refine callK_fn (hok _) callOk52F ?_ | refine callP_fn (hok _) callOk52F ?_ | refine callM_fn (fun _ => hok _) callOk52F ?_ | refine callK_fn (hha _) callOk25F ?_ | refine callP_fn (hha _) callOk25F ?_ | refine callM_fn (fun _ => hha _) callOk25F ?_ | refine aw_region_mix (id := 9) [.pure 0, .eff [false], .pure 1, .free, .eff [true], .eff [true], .pure 0, .eff [false, false], .free] mixedF rfl (by kernel_rfl) (by kernel_rfl) ?_ | refine callP_false (.bool false) ?_ | refine aw_region rfl ?_ | refine aw_region_draw mixedF rfl (by kernel_rfl) ?_ | refine aw_ret ?_ | refine aw_skip ?_ | refine aw_exit ?_ | refine aw_label ?_); simp only [go_sem, aopsK, aopsG, aopsPK, aopsPG, aopsMK, aopsMG, aopsN, TypeDesc.isAgg, ↓reduceIte, Nat.reduceEqDiff, Nat.reduceAdd, Nat.reduceSub, Nat.reduceMul, Nat.reduceLeDiff, Nat.reduceLT, Nat.reduceBEq, Int.reduceNeg, Int.reduceLE, Int.reduceLT, Int.reduceToNat, String.reduceEq, Option.isSome_some, Option.isSome_none, Bool.false_eq_true, Bool.true_eq_false, not_true_eq_false, not_false_eq_true, true_and, and_true, and_self, List.getElem?_toArray, List.getElem?_cons_zero, List.getElem?_cons_succ, List.getElem?_nil, List.length_map, List.append_eq, List.range_zero, List.cons_append, List.nil_append, Nat.one_ne_zero, implies_true, ho, hh, hm]) | refine aw_seq ?_ | refine aw_block ?_ | refine aw_scope ?_ | (refine aw_cond rfl (fun h => ?_) (fun h => ?_) <;> try (exfalso; first | (simp at h; done) | (simp at h; omega))) | ((with_reducible refine And.intro ?_ ?_); focus (first | omega | (intros; simp_all; done) | (simp; omega)))
        exact done (by simp only [pur_int, pur_bool, pur_str, pur_agg, pur_tup, pur_sl, pur_iface, pur_nilI, List.mem_cons, List.not_mem_nil, false_implies, forall_eq_or_imp, List.mem_map, forall_exists_index, and_imp, forall_apply_eq_imp_iff₂, or_false, forall_eq, implies_true, and_self, and_true, true_and, Go.Gw.stA, Go.Gw.opA, Go.Gw.ndA, Go.Gw.unA, Go.Gw.enA, Go.Gw.inA, Go.Gw.lgF, Go.Gw.lgA]) (.refl _)
      · rw [rAddG, if_neg (by rw [ho]; decide), if_neg (by rw [hh]; decide), if_neg hm, addE, if_neg (by rw [ho]; decide), if_neg (by rw [hh]; decide), if_neg hm, rAddS, ho, hh, decide_eq_false hm, Bool.not_true, Bool.or_false, Bool.or_false, Bool.and_false, Bool.and_false]
        have hgl : (opsG g).length = g.entries.length := List.length_map ..
        have hS2 : ∀ x ∈ opsG g ++ [o], OpS x := fun x hx => by
          rw [List.mem_append, List.mem_singleton] at hx
          rcases hx with q | rfl
          · obtain ⟨e, he, rfl⟩ := List.mem_map.1 q; exact hes e he
          · exact hs
        have hso := fun H => rsorted_c false (opsG g ++ [o]) (by rw [List.length_append, List.length_singleton]; omega) (fun x hx H => ropOk_c x (hS2 x hx) H) H
        have hsub := rSort_sub (opsG g ++ [o])
        have hdn := rdone_c false (rSort (opsG g ++ [o])) (fun x hx => hS2 x (hsub.1 x hx)) (by have := hsub.2; rw [List.length_append, List.length_singleton] at this; omega)
        have hop := rops_own b1 b2 g (by omega)
        have hfl := flat_op_len (opsG g)
        rw [hgl] at hfl
        generalize rSort (opsG g ++ [o]) = R at *
        simp only [lgF, lgA] at hop hdn ⊢
        have hoc : opA o = .agg (opCells o) := rfl
        simp only [opCells, opA] at hoc
        repeat' first | ((first | refine callK_fn (hok _) callOk52F ?_ | refine callP_fn (hok _) callOk52F ?_ | refine callM_fn (fun _ => hok _) callOk52F ?_ | refine callK_fn (hha _) callOk25F ?_ | refine callP_fn (hha _) callOk25F ?_ | refine callM_fn (fun _ => hha _) callOk25F ?_ | refine callK_fn (hdn _) callOk53F ?_ | refine callP_fn (hdn _) callOk53F ?_ | refine callM_fn (fun _ => hdn _) callOk53F ?_ | refine aw_region_mix (id := 9) [.pure 0, .eff [false], .pure 1, .free, .eff [true], .eff [true], .pure 0, .eff [false, false], .free] mixedF rfl (by kernel_rfl) (by kernel_rfl) ?_ | refine callP_false (.bool false) ?_ | refine aw_region rfl ?_ | refine aw_region_draw mixedF rfl (by kernel_rfl) ?_ | refine aw_ret ?_ | refine aw_skip ?_ | refine aw_exit ?_ | refine aw_label ?_); simp only [go_sem, aopsK, aopsG, aopsPK, aopsPG, aopsMK, aopsMG, aopsN, TypeDesc.isAgg, ↓reduceIte, Nat.reduceEqDiff, Nat.reduceAdd, Nat.reduceSub, Nat.reduceMul, Nat.reduceLeDiff, Nat.reduceLT, Nat.reduceBEq, Int.reduceNeg, Int.reduceLE, Int.reduceLT, Int.reduceToNat, String.reduceEq, Option.isSome_some, Option.isSome_none, Bool.false_eq_true, Bool.true_eq_false, not_true_eq_false, not_false_eq_true, true_and, and_true, and_self, List.getElem?_toArray, List.getElem?_cons_zero, List.getElem?_cons_succ, List.getElem?_nil, List.length_map, List.append_eq, List.range_zero, List.cons_append, List.nil_append, Nat.one_ne_zero, implies_true, ho, hh, hm, hfl]) | refine aw_seq ?_ | refine aw_block ?_ | refine aw_scope ?_ | (refine aw_cond rfl (fun h => ?_) (fun h => ?_) <;> try (exfalso; first | (simp at h; done) | (simp at h; omega))) | ((with_reducible refine And.intro ?_ ?_); focus (first | omega | (intros; simp_all; done) | (simp; omega)))
        refine callE_is (hop _) callOk28F ?_
        simp only [go_sem, aopsK, aopsG, aopsPK, aopsPG, aopsMK, aopsMG, aopsN, TypeDesc.isAgg, ↓reduceIte, Nat.reduceEqDiff, Nat.reduceAdd, Nat.reduceSub, Nat.reduceMul, Nat.reduceLeDiff, Nat.reduceLT, Nat.reduceBEq, Int.reduceNeg, Int.reduceLE, Int.reduceLT, Int.reduceToNat, String.reduceEq, Option.isSome_some, Option.isSome_none, Bool.false_eq_true, Bool.true_eq_false, not_true_eq_false, not_false_eq_true, true_and, and_true, and_self, List.getElem?_toArray, List.getElem?_cons_zero, List.getElem?_cons_succ, List.getElem?_nil, List.length_map, List.append_eq, List.range_zero, List.cons_append, List.nil_append, Nat.one_ne_zero, implies_true]
        repeat' first | ((first | refine callK_fn (hdn _) callOk53F ?_ | refine callP_fn (hdn _) callOk53F ?_ | refine callM_fn (fun _ => hdn _) callOk53F ?_ | refine aw_region_mix (id := 9) [.pure 0, .eff [false], .pure 1, .free, .eff [true], .eff [true], .pure 0, .eff [false, false], .free] mixedF rfl (by kernel_rfl) (by kernel_rfl) ?_ | refine callP_false (.bool false) ?_ | refine aw_region rfl ?_ | refine aw_region_draw mixedF rfl (by kernel_rfl) ?_ | refine aw_ret ?_ | refine aw_skip ?_ | refine aw_exit ?_ | refine aw_label ?_); simp only [go_sem, aopsK, aopsG, aopsPK, aopsPG, aopsMK, aopsMG, aopsN, TypeDesc.isAgg, ↓reduceIte, Nat.reduceEqDiff, Nat.reduceAdd, Nat.reduceSub, Nat.reduceMul, Nat.reduceLeDiff, Nat.reduceLT, Nat.reduceBEq, Int.reduceNeg, Int.reduceLE, Int.reduceLT, Int.reduceToNat, String.reduceEq, Option.isSome_some, Option.isSome_none, Bool.false_eq_true, Bool.true_eq_false, not_true_eq_false, not_false_eq_true, true_and, and_true, and_self, List.getElem?_toArray, List.getElem?_cons_zero, List.getElem?_cons_succ, List.getElem?_nil, List.length_map, List.append_eq, List.range_zero, List.cons_append, List.nil_append, Nat.one_ne_zero, implies_true, hfl, hoc]) | refine aw_seq ?_ | refine aw_block ?_ | refine aw_scope ?_ | (refine aw_cond rfl (fun h => ?_) (fun h => ?_) <;> try (exfalso; first | (simp at h; done) | (simp at h; omega))) | ((with_reducible refine And.intro ?_ ?_); focus (first | omega | (intros; simp_all; done) | (simp; omega)))
        refine ⟨⟨hfl.symm, fun e he => by rw [he]; rfl, by omega⟩, ?_⟩
        refine callE_frz (cs := ((opsG g).map opA).flatMap AV.cells ++ opCells o) ((opsG g ++ [o]).map opA) [] hso callOk54F rfl (by rw [List.length_map, List.length_append, hgl]; rfl) (by simp only [go_sem, aopsK, aopsG, aopsPK, aopsPG, aopsMK, aopsMG, aopsN, TypeDesc.isAgg, ↓reduceIte, Nat.reduceEqDiff, Nat.reduceAdd, Nat.reduceSub, Nat.reduceMul, Nat.reduceLeDiff, Nat.reduceLT, Nat.reduceBEq, Int.reduceNeg, Int.reduceLE, Int.reduceLT, Int.reduceToNat, String.reduceEq, Option.isSome_some, Option.isSome_none, Bool.false_eq_true, Bool.true_eq_false, not_true_eq_false, not_false_eq_true, true_and, and_true, and_self, List.getElem?_toArray, List.getElem?_cons_zero, List.getElem?_cons_succ, List.getElem?_nil, List.length_map, List.append_eq, List.range_zero, List.cons_append, List.nil_append, Nat.one_ne_zero, implies_true, opCells]) (by omega) (by rw [List.append_nil, List.map_append, List.flatMap_append]; rfl) (cells_op _) ?_
        simp only [go_sem, aopsK, aopsG, aopsPK, aopsPG, aopsMK, aopsMG, aopsN, TypeDesc.isAgg, ↓reduceIte, Nat.reduceEqDiff, Nat.reduceAdd, Nat.reduceSub, Nat.reduceMul, Nat.reduceLeDiff, Nat.reduceLT, Nat.reduceBEq, Int.reduceNeg, Int.reduceLE, Int.reduceLT, Int.reduceToNat, String.reduceEq, Option.isSome_some, Option.isSome_none, Bool.false_eq_true, Bool.true_eq_false, not_true_eq_false, not_false_eq_true, true_and, and_true, and_self, List.getElem?_toArray, List.getElem?_cons_zero, List.getElem?_cons_succ, List.getElem?_nil, List.length_map, List.append_eq, List.range_zero, List.cons_append, List.nil_append, Nat.one_ne_zero, implies_true]
        repeat' first | ((first | refine callK_fn (hdn _) callOk53F ?_ | refine callP_fn (hdn _) callOk53F ?_ | refine callM_fn (fun _ => hdn _) callOk53F ?_ | refine aw_region_mix (id := 9) [.pure 0, .eff [false], .pure 1, .free, .eff [true], .eff [true], .pure 0, .eff [false, false], .free] mixedF rfl (by kernel_rfl) (by kernel_rfl) ?_ | refine callP_false (.bool false) ?_ | refine aw_region rfl ?_ | refine aw_region_draw mixedF rfl (by kernel_rfl) ?_ | refine aw_ret ?_ | refine aw_skip ?_ | refine aw_exit ?_ | refine aw_label ?_); simp only [go_sem, aopsK, aopsG, aopsPK, aopsPG, aopsMK, aopsMG, aopsN, TypeDesc.isAgg, ↓reduceIte, Nat.reduceEqDiff, Nat.reduceAdd, Nat.reduceSub, Nat.reduceMul, Nat.reduceLeDiff, Nat.reduceLT, Nat.reduceBEq, Int.reduceNeg, Int.reduceLE, Int.reduceLT, Int.reduceToNat, String.reduceEq, Option.isSome_some, Option.isSome_none, Bool.false_eq_true, Bool.true_eq_false, not_true_eq_false, not_false_eq_true, true_and, and_true, and_self, List.getElem?_toArray, List.getElem?_cons_zero, List.getElem?_cons_succ, List.getElem?_nil, List.length_map, List.append_eq, List.range_zero, List.cons_append, List.nil_append, Nat.one_ne_zero, implies_true]) | refine aw_seq ?_ | refine aw_block ?_ | refine aw_scope ?_ | (refine aw_cond rfl (fun h => ?_) (fun h => ?_) <;> try (exfalso; first | (simp at h; done) | (simp at h; omega))) | ((with_reducible refine And.intro ?_ ?_); focus (first | omega | (intros; simp_all; done) | (simp; omega)))
        exact done (by simp only [pur_int, pur_bool, pur_str, pur_agg, pur_tup, pur_sl, pur_iface, pur_nilI, List.mem_cons, List.not_mem_nil, false_implies, forall_eq_or_imp, List.mem_map, forall_exists_index, and_imp, forall_apply_eq_imp_iff₂, or_false, forall_eq, implies_true, and_self, and_true, true_and, Go.Gw.stA, Go.Gw.opA, Go.Gw.ndA, Go.Gw.unA, Go.Gw.enA, Go.Gw.inA, Go.Gw.lgF, Go.Gw.lgA]) (.refl _)

theorem rAddG_fit {g : Lg} {o : Opn} (hs : OpS o) (hes : EntS g.entries) : EntS (rAddG g o).entries ∧ (rAddG g o).entries.length ≤ g.entries.length + 1 := by
  rw [rAddG]
  split
  · exact ⟨hes, by omega⟩
  · split
    · exact ⟨hes, by omega⟩
    · split
      · exact ⟨hes, by omega⟩
      · have hsub := rSort_sub (opsG g ++ [o])
        have hlo : opsG (logOf (rSort (opsG g ++ [o]))) = rSort (opsG g ++ [o]) := opsG_logOf _
        refine ⟨fun e he => ?_, ?_⟩
        · have h1 : e.op ∈ opsG (logOf (rSort (opsG g ++ [o]))) := List.mem_map.2 ⟨e, he, rfl⟩
          rw [hlo] at h1
          have h2 := hsub.1 _ h1
          rw [List.mem_append, List.mem_singleton] at h2
          rcases h2 with q | q
          · obtain ⟨x, hx, hq⟩ := List.mem_map.1 q; rw [← hq]; exact hes x hx
          · rw [q]; exact hs
        · have h3 : (logOf (rSort (opsG g ++ [o]))).entries.length = (opsG (logOf (rSort (opsG g ++ [o])))).length := (List.length_map ..).symm
          have h4 := hsub.2
          rw [List.length_append, List.length_singleton, opsG, List.length_map] at h4
          rw [h3, hlo]; exact h4
theorem rAllG_snoc (g : Lg) (l : List Opn) (o : Opn) : rAllG g (l ++ [o]) = rAddG (rAllG g l) o := by
  induction l generalizing g with
  | nil => rfl
  | cons x l ih => exact ih (rAddG g x)
theorem rAllG_fit (g : Lg) (l : List Opn) (hes : EntS g.entries) (hl : ∀ o ∈ l, OpS o) : EntS (rAllG g l).entries ∧ (rAllG g l).entries.length ≤ g.entries.length + l.length := by
  induction l generalizing g with
  | nil => exact ⟨hes, Nat.le_refl _⟩
  | cons o l ih =>
    have h1 := rAddG_fit (hl o (by simp)) hes
    have h2 := ih (rAddG g o) h1.1 (fun x hx => hl x (by simp [hx]))
    exact ⟨h2.1, by rw [List.length_cons]; have := h2.2; have := h1.2; rw [rAllG]; omega⟩
/-- How many the document's Add refuses with a word. -/
def rAllN : Lg → List Opn → Int
  | _, [] => 0
  | g, o :: l => (if addE g o = 0 then 0 else 1) + rAllN (rAddG g o) l
theorem rAllN_snoc (g : Lg) (l : List Opn) (o : Opn) : rAllN g (l ++ [o]) = rAllN g l + (if addE (rAllG g l) o = 0 then 0 else 1) := by
  induction l generalizing g with
  | nil => simp only [List.nil_append, rAllN, rAllG]; omega
  | cons x l ih => rw [List.cons_append, rAllN, ih, rAllN, rAllG]; omega
theorem rAllN_le (g : Lg) (l : List Opn) : 0 ≤ rAllN g l ∧ rAllN g l ≤ l.length := by
  induction l generalizing g with
  | nil => simp [rAllN]
  | cons x l ih => have := ih (rAddG g x); rw [rAllN, List.length_cons]; split <;> omega
theorem rAllN_eq {g : Lg} (h : Good g) (l : List Opn) : rAllN g l = allN g l := by
  induction l generalizing g with
  | nil => rfl
  | cons x l ih => rw [rAllN, allN, rAddG_eq h, ih (good_add h x).1]

theorem rall7_c (b1 b2 b3 : Bool) (g : Lg) (l : List Opn) (hf : g.entries.length + l.length ≤ 1000) (he : EntS g.entries) (hl : ∀ o ∈ l, OpS o) (H : AHeap) : FnC Try.prog 22 [lgF b1 b2 g, .sl b3 (l.map opA)] H (tagV (rAllG g l) (rAllN g l)) := by
  refine fnC_of Try.func22 rfl (Nat.le_of_ble_eq_true rfl) ?_
  simp only [lgF, lgA, tagV]
  repeat' first | ((first | refine aw_region_mix (id := 5) [.pure 0, .free, .free, .pure 0, .pure 0, .pure 0, .free, .free, .free, .eff [true, true, true, true], .eff [false, false, false, false], .free] mixedF rfl (by kernel_rfl) (by kernel_rfl) ?_ | refine callP_false (.bool false) ?_ | refine aw_region rfl ?_ | refine aw_region_draw mixedF rfl (by kernel_rfl) ?_ | refine aw_ret ?_ | refine aw_skip ?_ | refine aw_exit ?_ | refine aw_label ?_); simp only [go_sem, aopsK, aopsG, aopsPK, aopsPG, aopsMK, aopsMG, aopsN, TypeDesc.isAgg, ↓reduceIte, Nat.reduceEqDiff, Nat.reduceAdd, Nat.reduceSub, Nat.reduceMul, Nat.reduceLeDiff, Nat.reduceLT, Nat.reduceBEq, Int.reduceNeg, Int.reduceLE, Int.reduceLT, Int.reduceToNat, String.reduceEq, Option.isSome_some, Option.isSome_none, Bool.false_eq_true, Bool.true_eq_false, not_true_eq_false, not_false_eq_true, true_and, and_true, and_self, List.getElem?_toArray, List.getElem?_cons_zero, List.getElem?_cons_succ, List.getElem?_nil, List.length_map, List.append_eq, List.range_zero, List.cons_append, List.nil_append, Nat.one_ne_zero, implies_true]) | refine aw_seq ?_ | refine aw_block ?_ | refine aw_scope ?_ | (refine aw_cond rfl (fun h => ?_) (fun h => ?_) <;> try (exfalso; first | (simp at h; done) | (simp at h; omega))) | ((with_reducible refine And.intro ?_ ?_); focus (first | omega | (intros; simp_all; done) | (simp; omega)))
  refine aw_loopS (ι := Nat × AHeap × Bool × Bool) (fun x => [(1, .sl b3 (l.map opA)), (2, .ref H.length 0 0), (4, .ref (H.length + 1) 0 0), (6, .int .i64 (rAllN g (l.take x.1))), (7, .int .i64 x.1)])
    (fun x => x.2.1) (fun x => x.1 ≤ l.length ∧ hget x.2.1 (H.length + 1) = .cells 0 [.sl true [], .sl true []] ∧ hget x.2.1 H.length = .cells 0 [.sl x.2.2.1 ((rAllG g (l.take x.1)).entries.map enA), .sl x.2.2.2 ((rAllG g (l.take x.1)).nodes.map ndA)] ∧ ∃ M, x.2.1 = H ++ M)
    (fun x => l.length - x.1) (0, _, b1, b2) ⟨Nat.zero_le _, by simp only [go_sem, aopsK, aopsG, aopsPK, aopsPG, aopsMK, aopsMG, aopsN, TypeDesc.isAgg, ↓reduceIte, Nat.reduceEqDiff, Nat.reduceAdd, Nat.reduceSub, Nat.reduceMul, Nat.reduceLeDiff, Nat.reduceLT, Nat.reduceBEq, Int.reduceNeg, Int.reduceLE, Int.reduceLT, Int.reduceToNat, String.reduceEq, Option.isSome_some, Option.isSome_none, Bool.false_eq_true, Bool.true_eq_false, not_true_eq_false, not_false_eq_true, true_and, and_true, and_self, List.getElem?_toArray, List.getElem?_cons_zero, List.getElem?_cons_succ, List.getElem?_nil, List.length_map, List.append_eq, List.range_zero, List.cons_append, List.nil_append, Nat.one_ne_zero, implies_true], by simp only [go_sem, aopsK, aopsG, aopsPK, aopsPG, aopsMK, aopsMG, aopsN, TypeDesc.isAgg, ↓reduceIte, Nat.reduceEqDiff, Nat.reduceAdd, Nat.reduceSub, Nat.reduceMul, Nat.reduceLeDiff, Nat.reduceLT, Nat.reduceBEq, Int.reduceNeg, Int.reduceLE, Int.reduceLT, Int.reduceToNat, String.reduceEq, Option.isSome_some, Option.isSome_none, Bool.false_eq_true, Bool.true_eq_false, not_true_eq_false, not_false_eq_true, true_and, and_true, and_self, List.getElem?_toArray, List.getElem?_cons_zero, List.getElem?_cons_succ, List.getElem?_nil, List.length_map, List.append_eq, List.range_zero, List.cons_append, List.nil_append, Nat.one_ne_zero, implies_true]; rfl, ⟨_, rfl⟩⟩ ?_ rfl ?_
  · simp [go_sem, rAllN]
  · rintro ⟨i, X, f1, f2⟩ ⟨hi, r1, r2, rP⟩
    simp only at hi r1 r2 rP ⊢
    have hX1 : H.length + 1 < X.length := hget_lt r1 trivial
    have hX2 : H.length < X.length := hget_lt r2 trivial
    have r2' := fun M => hget_appL r2 trivial M
    have qs := fun M b => hset_appL hX2 M b
    by_cases hlt : i < l.length
    · have hp := getD_map opA hlt
      have hli : decide ((i : Int) < (l.length : Int)) = true := decide_eq_true (by omega)
      have htk : l.take (i + 1) = l.take i ++ [l[i]] := List.take_succ_eq_append_getElem hlt
      have hops : ∀ o ∈ l.take i, OpS o := fun o ho => hl o (List.mem_of_mem_take ho)
      have hfi := rAllG_fit g (l.take i) he hops
      rw [List.length_take] at hfi
      have hadd := radd_c f1 f2 (rAllG g (l.take i)) l[i] (hl _ (List.getElem_mem hlt)) hfi.1 (by have := hfi.2; omega)
      have hG : rAllG g (l.take (i + 1)) = rAddG (rAllG g (l.take i)) l[i] := by rw [htk, rAllG_snoc]
      have hN : rAllN g (l.take (i + 1)) = rAllN g (l.take i) + (if addE (rAllG g (l.take i)) l[i] = 0 then 0 else 1) := by rw [htk, rAllN_snoc]
      have hnle := rAllN_le g (l.take i)
      rw [List.length_take] at hnle
      have hlp : ((i : Nat) : Int) < (l.length : Int) := by omega
      have hw : IntKind.i64.wrap (rAllN g (l.take i) + 1) = rAllN g (l.take i) + 1 := wrap_i64 (by omega) (by omega)
      generalize l[i] = o at *
      generalize rAllN g (l.take i) = nn at *
      generalize rAllG g (l.take i) = k at *
      simp only [lgF, lgA, opA, tagV] at hadd
      repeat' first | ((first | refine callK_fn (hadd _) callOk23F ?_ | refine callP_fn (hadd _) callOk23F ?_ | refine callM_fn (fun _ => hadd _) callOk23F ?_ | refine aw_region_mix (id := 5) [.pure 0, .free, .free, .pure 0, .pure 0, .pure 0, .free, .free, .free, .eff [true, true, true, true], .eff [false, false, false, false], .free] mixedF rfl (by kernel_rfl) (by kernel_rfl) ?_ | refine callP_false (.bool false) ?_ | refine aw_region rfl ?_ | refine aw_region_draw mixedF rfl (by kernel_rfl) ?_ | refine aw_ret ?_ | refine aw_skip ?_ | refine aw_exit ?_ | refine aw_label ?_); simp only [go_sem, aopsK, aopsG, aopsPK, aopsPG, aopsMK, aopsMG, aopsN, TypeDesc.isAgg, ↓reduceIte, Nat.reduceEqDiff, Nat.reduceAdd, Nat.reduceSub, Nat.reduceMul, Nat.reduceLeDiff, Nat.reduceLT, Nat.reduceBEq, Int.reduceNeg, Int.reduceLE, Int.reduceLT, Int.reduceToNat, String.reduceEq, Option.isSome_some, Option.isSome_none, Bool.false_eq_true, Bool.true_eq_false, not_true_eq_false, not_false_eq_true, true_and, and_true, and_self, List.getElem?_toArray, List.getElem?_cons_zero, List.getElem?_cons_succ, List.getElem?_nil, List.length_map, List.append_eq, List.range_zero, List.cons_append, List.nil_append, Nat.one_ne_zero, implies_true, hp, opA, hli, r2, r2', qs, hw]) | ((with_reducible refine And.intro ?_ ?_); focus (exact callAt_of (hadd _) callOk23F)) | ((with_reducible refine And.intro (And.intro ?_ ?_) ?_); focus (exact callAt_of (hadd _) callOk23F)) | (exact callAt_of (hadd _) callOk23F) | refine aw_seq ?_ | refine aw_block ?_ | refine aw_scope ?_ | (refine aw_cond rfl (fun h => ?_) (fun h => ?_) <;> try (exfalso; first | (simp at h; done) | (simp at h; omega))) | ((with_reducible refine And.intro ?_ ?_); focus (first | omega | (intros; simp_all; done) | (simp; omega)))
      · exact hlp
      · have hne : ¬ addE k o = 0 := by simpa using h
        rw [if_neg hne] at hN
        refine ⟨(i + 1, _, f1 && rAddS k o, f2 && rAddS k o), ⟨hlt, ?_, ?_, ?_⟩, ?_, ⟨congrArg _ hN.symm, congrArg _ (wrap_succ hlt (by omega))⟩, rfl⟩
        · exact hget_appL ((hget_set_ne (by omega) _).trans r1) trivial _
        · simp only [hG]; exact hget_appL (b := .cells 0 _) (hget_set_eq hX2 _) trivial _
        · exact pre_app (pre_set rP (by omega) _) _
        · simp only; omega
      · have hne : addE k o = 0 := by simpa using h
        rw [if_pos hne, Int.add_zero] at hN
        refine ⟨(i + 1, _, f1 && rAddS k o, f2 && rAddS k o), ⟨hlt, ?_, ?_, ?_⟩, ?_, ⟨congrArg _ hN.symm, congrArg _ (wrap_succ hlt (by omega))⟩, rfl⟩
        · exact hget_appL ((hget_set_ne (by omega) _).trans r1) trivial _
        · simp only [hG]; exact hget_appL (b := .cells 0 _) (hget_set_eq hX2 _) trivial _
        · exact pre_app (pre_set rP (by omega) _) _
        · simp only; omega
    · have hie : i = l.length := by omega
      subst hie
      have hli : decide ((l.length : Int) < (l.length : Int)) = false := by simp
      have sS : ∀ b, hget (hset X (H.length + 1) b) (H.length + 1) = b := fun b => hget_set_eq hX1 b
      rw [List.take_length] at r2 ⊢
      repeat' first | ((first | refine aw_region_mix (id := 5) [.pure 0, .free, .free, .pure 0, .pure 0, .pure 0, .free, .free, .free, .eff [true, true, true, true], .eff [false, false, false, false], .free] mixedF rfl (by kernel_rfl) (by kernel_rfl) ?_ | refine callP_false (.bool false) ?_ | refine aw_region rfl ?_ | refine aw_region_draw mixedF rfl (by kernel_rfl) ?_ | refine aw_ret ?_ | refine aw_skip ?_ | refine aw_exit ?_ | refine aw_label ?_); simp only [go_sem, aopsK, aopsG, aopsPK, aopsPG, aopsMK, aopsMG, aopsN, TypeDesc.isAgg, ↓reduceIte, Nat.reduceEqDiff, Nat.reduceAdd, Nat.reduceSub, Nat.reduceMul, Nat.reduceLeDiff, Nat.reduceLT, Nat.reduceBEq, Int.reduceNeg, Int.reduceLE, Int.reduceLT, Int.reduceToNat, String.reduceEq, Option.isSome_some, Option.isSome_none, Bool.false_eq_true, Bool.true_eq_false, not_true_eq_false, not_false_eq_true, true_and, and_true, and_self, List.getElem?_toArray, List.getElem?_cons_zero, List.getElem?_cons_succ, List.getElem?_nil, List.length_map, List.append_eq, List.range_zero, List.cons_append, List.nil_append, Nat.one_ne_zero, implies_true, r1, r2, hli, sS]) | refine aw_seq ?_ | refine aw_block ?_ | refine aw_scope ?_ | (refine aw_cond rfl (fun h => ?_) (fun h => ?_) <;> try (exfalso; first | (simp at h; done) | (simp at h; omega))) | ((with_reducible refine And.intro ?_ ?_); focus (first | omega | (intros; simp_all; done) | (simp; omega)))
      obtain ⟨M2, hM2⟩ := pre_set rP (i := H.length + 1) (by omega) (.cells 0 [.sl f1 ((rAllG g l).entries.map enA), .sl f2 ((rAllG g l).nodes.map ndA)])
      have hpe : Pur (.sl f1 ((rAllG g l).entries.map enA)) := (by simp only [pur_int, pur_bool, pur_str, pur_agg, pur_tup, pur_sl, pur_iface, pur_nilI, List.mem_cons, List.not_mem_nil, false_implies, forall_eq_or_imp, List.mem_map, forall_exists_index, and_imp, forall_apply_eq_imp_iff₂, or_false, forall_eq, implies_true, and_self, and_true, true_and, Go.Gw.stA, Go.Gw.opA, Go.Gw.ndA, Go.Gw.unA, Go.Gw.enA, Go.Gw.inA, Go.Gw.lgF, Go.Gw.lgA])
      have hpn : Pur (.sl f2 ((rAllG g l).nodes.map ndA)) := (by simp only [pur_int, pur_bool, pur_str, pur_agg, pur_tup, pur_sl, pur_iface, pur_nilI, List.mem_cons, List.not_mem_nil, false_implies, forall_eq_or_imp, List.mem_map, forall_exists_index, and_imp, forall_apply_eq_imp_iff₂, or_false, forall_eq, implies_true, and_self, and_true, true_and, Go.Gw.stA, Go.Gw.opA, Go.Gw.ndA, Go.Gw.unA, Go.Gw.enA, Go.Gw.inA, Go.Gw.lgF, Go.Gw.lgA])
      exact ⟨M2, .tup [.agg [.sl false ((rAllG g l).entries.map enA), .sl false ((rAllG g l).nodes.map ndA)], .int .i64 (rAllN g l)], hM2, .tup _ [_, _] rfl (frzs_cons (.agg _ [_, _] rfl (frzs_cons (Sim.frz (.sl f1 _) hpe) (frzs_cons (Sim.frz (.sl f2 _) hpn) frzs_nil))) (frzs_cons (Sim.frz (.refl _) (by simp only [pur_int, pur_bool, pur_str, pur_agg, pur_tup, pur_sl, pur_iface, pur_nilI, List.mem_cons, List.not_mem_nil, false_implies, forall_eq_or_imp, List.mem_map, forall_exists_index, and_imp, forall_apply_eq_imp_iff₂, or_false, forall_eq, implies_true, and_self, and_true, true_and, Go.Gw.stA, Go.Gw.opA, Go.Gw.ndA, Go.Gw.unA, Go.Gw.enA, Go.Gw.inA, Go.Gw.lgF, Go.Gw.lgA])) frzs_nil)), rfl⟩
end Go.Proofs.Ytoffonjlfomnbaa

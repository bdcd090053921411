/- TreeForest, walked. No condition. -/
import Derived.Test.YtoffonjlfomnbaaGwWfP
namespace Go.Gw
open Go Go.Aw Go.Proofs.Ytoffonjlfomnbaa
theorem above_nil {l : List Nd} (h : Frs l) {n : Nd} (hn : n ∈ l) (h0 : aboveI l n.id = []) : n.parent = -1 := by
  have hf := fnd_mem h.chk hn
  have hp : 0 < l.length := List.length_pos_of_mem hn
  obtain ⟨m, hm⟩ : ∃ m, l.length = m + 1 := ⟨l.length - 1, by omega⟩
  rw [aboveI, hm, aboveN_succ, par, hf] at h0
  simp only at h0
  by_cases hq : n.parent = -1
  · exact hq
  · rw [if_neg hq] at h0; cases h0
theorem par_none {l : List Nd} {x : Int} {m : Nd} (h : par l x = none) (hf : fnd l x = some m) : m.parent = -1 := by
  rw [par, hf] at h
  simp only at h
  by_cases hq : m.parent = -1
  · exact hq
  · rw [if_neg hq] at h; cases h
end Go.Gw
namespace Go.Proofs.Ytoffonjlfomnbaa
open Go Go.Aw Go.Gw
set_option linter.unusedSimpArgs false
set_option maxRecDepth 20000
set_option maxHeartbeats 4000000

theorem tforest_c (b : Bool) (l : List Opn) (H : AHeap) : FnC Try.prog 11 [.sl b (l.map opA)] H (.bool true) := by
  refine fnC_of Try.func11 rfl (Nat.le_of_ble_eq_true rfl) ?_
  have hfew := few5_c b l 100
  repeat' first | ((first | refine callK_fn (awake6_c _) callOk32F ?_ | refine callP_fn (awake6_c _) callOk32F ?_ | refine callM_fn (fun _ => awake6_c _) callOk32F ?_ | refine callK_fn (hfew _) callOk21F ?_ | refine callP_fn (hfew _) callOk21F ?_ | refine callM_fn (fun _ => hfew _) callOk21F ?_ | refine callP_false (.bool false) ?_ | refine aw_region rfl ?_ | refine aw_region_draw mixedF rfl (by kernel_rfl) ?_ | refine aw_ret ?_ | refine aw_skip ?_ | refine aw_exit ?_ | refine aw_label ?_); simp only [go_sem, aopsK, aopsG, aopsPK, aopsPG, aopsMK, aopsMG, aopsN, TypeDesc.isAgg, ↓reduceIte, Nat.reduceEqDiff, Nat.reduceAdd, Nat.reduceSub, Nat.reduceMul, Nat.reduceLeDiff, Nat.reduceLT, Nat.reduceBEq, Int.reduceNeg, Int.reduceLE, Int.reduceLT, Int.reduceToNat, String.reduceEq, Option.isSome_some, Option.isSome_none, Bool.false_eq_true, Bool.true_eq_false, not_true_eq_false, not_false_eq_true, true_and, and_true, and_self, List.getElem?_toArray, List.getElem?_cons_zero, List.getElem?_cons_succ, List.getElem?_nil, List.length_map, List.append_eq, List.range_zero, List.cons_append, List.nil_append, Nat.one_ne_zero, implies_true]) | refine aw_seq ?_ | refine aw_block ?_ | refine aw_scope ?_ | ((with_reducible refine And.intro ?_ ?_); focus (first | omega | (intros; simp_all; done) | (simp; omega)))
  refine aw_cond rfl (fun h => ?_) (fun h => ?_)
  · repeat' first | ((first | refine callP_false (.bool false) ?_ | refine aw_region rfl ?_ | refine aw_region_draw mixedF rfl (by kernel_rfl) ?_ | refine aw_ret ?_ | refine aw_skip ?_ | refine aw_exit ?_ | refine aw_label ?_); simp only [go_sem, aopsK, aopsG, aopsPK, aopsPG, aopsMK, aopsMG, aopsN, TypeDesc.isAgg, ↓reduceIte, Nat.reduceEqDiff, Nat.reduceAdd, Nat.reduceSub, Nat.reduceMul, Nat.reduceLeDiff, Nat.reduceLT, Nat.reduceBEq, Int.reduceNeg, Int.reduceLE, Int.reduceLT, Int.reduceToNat, String.reduceEq, Option.isSome_some, Option.isSome_none, Bool.false_eq_true, Bool.true_eq_false, not_true_eq_false, not_false_eq_true, true_and, and_true, and_self, List.getElem?_toArray, List.getElem?_cons_zero, List.getElem?_cons_succ, List.getElem?_nil, List.length_map, List.append_eq, List.range_zero, List.cons_append, List.nil_append, Nat.one_ne_zero, implies_true]) | refine aw_seq ?_ | refine aw_block ?_ | refine aw_scope ?_ | (refine aw_cond rfl (fun h => ?_) (fun h => ?_) <;> try (exfalso; first | (simp at h; done) | (simp at h; omega))) | ((with_reducible refine And.intro ?_ ?_); focus (first | omega | (intros; simp_all; done) | (simp; omega)))
    exact done0 (by simp only [pur_int, pur_bool, pur_str, pur_agg, pur_tup, pur_sl, pur_iface, pur_nilI, List.mem_cons, List.not_mem_nil, false_implies, forall_eq_or_imp, List.mem_map, forall_exists_index, and_imp, forall_apply_eq_imp_iff₂, or_false, forall_eq, implies_true, and_self, and_true, true_and, Go.Gw.stA, Go.Gw.opA, Go.Gw.ndA, Go.Gw.unA, Go.Gw.enA, Go.Gw.inA, Go.Gw.lgF, Go.Gw.lgA]) (.refl _)
  have hfe : fewOpn l 100 = true := by simpa using h
  refine aw_skip ?_
  simp only [go_sem, aopsK, aopsG, aopsPK, aopsPG, aopsMK, aopsMG, aopsN, TypeDesc.isAgg, ↓reduceIte, Nat.reduceEqDiff, Nat.reduceAdd, Nat.reduceSub, Nat.reduceMul, Nat.reduceLeDiff, Nat.reduceLT, Nat.reduceBEq, Int.reduceNeg, Int.reduceLE, Int.reduceLT, Int.reduceToNat, String.reduceEq, Option.isSome_some, Option.isSome_none, Bool.false_eq_true, Bool.true_eq_false, not_true_eq_false, not_false_eq_true, true_and, and_true, and_self, List.getElem?_toArray, List.getElem?_cons_zero, List.getElem?_cons_succ, List.getElem?_nil, List.length_map, List.append_eq, List.range_zero, List.cons_append, List.nil_append, Nat.one_ne_zero, implies_true]
  obtain ⟨hS, hl100⟩ := few_S hfe
  have hfo := fold_c b l hS (by omega)
  have hfr := frs_fold l
  have hLl : (foldL l).length ≤ 100 := by
    have h1 := foldl_len (rSort l) []
    have h2 := rSortLen l
    have h3 : (foldL l).length ≤ ([] : List Nd).length + (rSort l).length := h1
    simp only [List.length_nil] at h3
    omega
  generalize foldL l = L at *
  repeat' first | ((first | refine callK_fn (hfo _) callOk46F ?_ | refine callP_fn (hfo _) callOk46F ?_ | refine callM_fn (fun _ => hfo _) callOk46F ?_ | refine callP_false (.bool false) ?_ | refine aw_region rfl ?_ | refine aw_region_draw mixedF rfl (by kernel_rfl) ?_ | refine aw_ret ?_ | refine aw_skip ?_ | refine aw_exit ?_ | refine aw_label ?_); simp only [go_sem, aopsK, aopsG, aopsPK, aopsPG, aopsMK, aopsMG, aopsN, TypeDesc.isAgg, ↓reduceIte, Nat.reduceEqDiff, Nat.reduceAdd, Nat.reduceSub, Nat.reduceMul, Nat.reduceLeDiff, Nat.reduceLT, Nat.reduceBEq, Int.reduceNeg, Int.reduceLE, Int.reduceLT, Int.reduceToNat, String.reduceEq, Option.isSome_some, Option.isSome_none, Bool.false_eq_true, Bool.true_eq_false, not_true_eq_false, not_false_eq_true, true_and, and_true, and_self, List.getElem?_toArray, List.getElem?_cons_zero, List.getElem?_cons_succ, List.getElem?_nil, List.length_map, List.append_eq, List.range_zero, List.cons_append, List.nil_append, Nat.one_ne_zero, implies_true]) | refine aw_seq ?_ | refine aw_block ?_ | refine aw_scope ?_ | (refine aw_cond rfl (fun h => ?_) (fun h => ?_) <;> try (exfalso; first | (simp at h; done) | (simp at h; omega))) | ((with_reducible refine And.intro ?_ ?_); focus (first | omega | (intros; simp_all; done) | (simp; omega)))
  refine aw_loopS (ι := Nat × AHeap) (fun x => [(3, .bool true), (4, .sl false (L.map ndA)), (5, .int .i64 x.1)]) (fun x => x.2)
    (fun x => x.1 ≤ L.length ∧ ∃ M, x.2 = H ++ M) (fun x => L.length - x.1) (0, H) ⟨Nat.zero_le _, [], (List.append_nil H).symm⟩ ?_ rfl ?_
  · simp [go_sem]
  · rintro ⟨i, X⟩ ⟨hi, rP⟩
    simp only at hi rP ⊢
    by_cases hlt : i < L.length
    · have hli : decide ((i : Int) < (L.length : Int)) = true := decide_eq_true (by omega)
      have hp := getD_map ndA hlt
      have hn := List.getElem_mem hlt
      have hab := aboveC_c false L L[i].id (by omega)
      have hA : aboveC L L[i].id = aboveI L L[i].id := by rw [aboveC, if_pos hfr.chk]
      rw [hA] at hab
      have hno := above_not hfr.wf L[i].id
      have hnil := above_nil hfr hn
      have hend : ∀ hne : aboveI L L[i].id ≠ [], par L ((aboveI L L[i].id).getLast hne) = none ∧ dirI ((aboveI L L[i].id).getLast hne) = true := fun hne => above_end hfr hne
      have hAl : (aboveI L L[i].id).length ≤ L.length := aboveN_len L L.length L[i].id
      generalize L[i] = n at *
      generalize aboveI L n.id = A at *
      repeat' first | ((first | refine callK_fn (hab _) callOk41F ?_ | refine callP_fn (hab _) callOk41F ?_ | refine callM_fn (fun _ => hab _) callOk41F ?_ | refine callP_false (.bool false) ?_ | refine aw_region rfl ?_ | refine aw_region_draw mixedF rfl (by kernel_rfl) ?_ | refine aw_ret ?_ | refine aw_skip ?_ | refine aw_exit ?_ | refine aw_label ?_); simp only [go_sem, aopsK, aopsG, aopsPK, aopsPG, aopsMK, aopsMG, aopsN, TypeDesc.isAgg, ↓reduceIte, Nat.reduceEqDiff, Nat.reduceAdd, Nat.reduceSub, Nat.reduceMul, Nat.reduceLeDiff, Nat.reduceLT, Nat.reduceBEq, Int.reduceNeg, Int.reduceLE, Int.reduceLT, Int.reduceToNat, String.reduceEq, Option.isSome_some, Option.isSome_none, Bool.false_eq_true, Bool.true_eq_false, not_true_eq_false, not_false_eq_true, true_and, and_true, and_self, List.getElem?_toArray, List.getElem?_cons_zero, List.getElem?_cons_succ, List.getElem?_nil, List.length_map, List.append_eq, List.range_zero, List.cons_append, List.nil_append, Nat.one_ne_zero, implies_true, hli, hp, ndA]) | refine aw_seq ?_ | refine aw_block ?_ | refine aw_scope ?_ | (refine aw_cond rfl (fun h => ?_) (fun h => ?_) <;> try (exfalso; first | (simp at h; done) | (simp at h; omega))) | ((with_reducible refine And.intro ?_ ?_); focus (first | omega | (intros; simp_all; done) | (simp; omega)))
      refine aw_loopS (ι := Nat) (fun k => [(3, .bool true), (4, .sl false (L.map ndA)), (5, .int .i64 i), (6, .sl false (A.map inA)), (7, .int .i64 k)]) (fun _ => X)
        (fun k => k ≤ A.length) (fun k => A.length - k) 0 (Nat.zero_le _) ?_ rfl ?_
      · simp [go_sem]
      · intro k hk
        by_cases hkt : k < A.length
        · have hki : decide ((k : Int) < (A.length : Int)) = true := decide_eq_true (by omega)
          have hpk := getD_map inA hkt
          have hne : decide (A[k] = n.id) = false := decide_eq_false (fun e => hno (e ▸ List.getElem_mem hkt))
          repeat' first | ((first | refine callP_false (.bool false) ?_ | refine aw_region rfl ?_ | refine aw_region_draw mixedF rfl (by kernel_rfl) ?_ | refine aw_ret ?_ | refine aw_skip ?_ | refine aw_exit ?_ | refine aw_label ?_); simp only [go_sem, aopsK, aopsG, aopsPK, aopsPG, aopsMK, aopsMG, aopsN, TypeDesc.isAgg, ↓reduceIte, Nat.reduceEqDiff, Nat.reduceAdd, Nat.reduceSub, Nat.reduceMul, Nat.reduceLeDiff, Nat.reduceLT, Nat.reduceBEq, Int.reduceNeg, Int.reduceLE, Int.reduceLT, Int.reduceToNat, String.reduceEq, Option.isSome_some, Option.isSome_none, Bool.false_eq_true, Bool.true_eq_false, not_true_eq_false, not_false_eq_true, true_and, and_true, and_self, List.getElem?_toArray, List.getElem?_cons_zero, List.getElem?_cons_succ, List.getElem?_nil, List.length_map, List.append_eq, List.range_zero, List.cons_append, List.nil_append, Nat.one_ne_zero, implies_true, hki, hli, hp, hpk, hne, ndA, inA]) | refine aw_seq ?_ | refine aw_block ?_ | refine aw_scope ?_ | (refine aw_cond rfl (fun h => ?_) (fun h => ?_) <;> try (exfalso; first | (simp at h; done) | (simp at h; omega))) | ((with_reducible refine And.intro ?_ ?_); focus (first | omega | (intros; simp_all; done) | (simp; omega)))
          exact ⟨k + 1, hkt, by omega, congrArg _ (wrap_succ hkt (by omega))⟩
        · have hki : decide ((k : Int) < (A.length : Int)) = false := decide_eq_false (by omega)
          by_cases h0 : A.length = 0
          · have hA0 := List.eq_nil_of_length_eq_zero h0
            have hpa : decide (n.parent = -1) = true := decide_eq_true (hnil hA0)
            have h00 : decide ((A.length : Int) = 0) = true := decide_eq_true (by omega)
            repeat' first | ((first | refine callP_false (.bool false) ?_ | refine aw_region rfl ?_ | refine aw_region_draw mixedF rfl (by kernel_rfl) ?_ | refine aw_ret ?_ | refine aw_skip ?_ | refine aw_exit ?_ | refine aw_label ?_); simp only [go_sem, aopsK, aopsG, aopsPK, aopsPG, aopsMK, aopsMG, aopsN, TypeDesc.isAgg, ↓reduceIte, Nat.reduceEqDiff, Nat.reduceAdd, Nat.reduceSub, Nat.reduceMul, Nat.reduceLeDiff, Nat.reduceLT, Nat.reduceBEq, Int.reduceNeg, Int.reduceLE, Int.reduceLT, Int.reduceToNat, String.reduceEq, Option.isSome_some, Option.isSome_none, Bool.false_eq_true, Bool.true_eq_false, not_true_eq_false, not_false_eq_true, true_and, and_true, and_self, List.getElem?_toArray, List.getElem?_cons_zero, List.getElem?_cons_succ, List.getElem?_nil, List.length_map, List.append_eq, List.range_zero, List.cons_append, List.nil_append, Nat.one_ne_zero, implies_true, hki, hli, hp, hpa, h00, ndA, inA]) | refine aw_seq ?_ | refine aw_block ?_ | refine aw_scope ?_ | (refine aw_cond rfl (fun h => ?_) (fun h => ?_) <;> try (exfalso; first | (simp at h; done) | (simp at h; omega))) | ((with_reducible refine And.intro ?_ ?_); focus (first | omega | (intros; simp_all; done) | (simp; omega)))
            exact ⟨(i + 1, X), ⟨hlt, rP⟩, by simp only; omega, congrArg _ (wrap_succ hlt (by omega)), rfl⟩
          · have hAne : A ≠ [] := fun e => h0 (by rw [e]; rfl)
            have h00 : decide ((A.length : Int) = 0) = false := decide_eq_false (by omega)
            obtain ⟨hz1, hz2⟩ := hend hAne
            have hzl : A.length - 1 < A.length := by omega
            rw [List.getLast_eq_getElem] at hz1 hz2
            have hpz := getD_map inA hzl
            have hw : IntKind.i64.wrap ((A.length : Int) - 1) = ((A.length - 1 : Nat) : Int) := by rw [wrap_i64 (by omega) (by omega)]; omega
            have hfi := find_c false L A[A.length - 1]
            have hdi := dir_c A[A.length - 1]
            rw [findI, if_pos hfr.chk] at hfi
            rw [hz2] at hdi
            have hlz : decide (((A.length - 1 : Nat) : Int) < (A.length : Int)) = true := decide_eq_true (by omega)
            generalize A[A.length - 1] = z at *
            cases hf : fnd L z with
            | none =>
              rw [hf] at hfi
              simp only [ndV, ndA, nd0, st0, Option.getD_none, Option.isSome_none] at hfi
              repeat' first | ((first | refine callK_fn (hfi _) callOk36F ?_ | refine callP_fn (hfi _) callOk36F ?_ | refine callM_fn (fun _ => hfi _) callOk36F ?_ | refine callK_fn (hdi _) callOk48F ?_ | refine callP_fn (hdi _) callOk48F ?_ | refine callM_fn (fun _ => hdi _) callOk48F ?_ | refine callP_false (.bool false) ?_ | refine aw_region rfl ?_ | refine aw_region_draw mixedF rfl (by kernel_rfl) ?_ | refine aw_ret ?_ | refine aw_skip ?_ | refine aw_exit ?_ | refine aw_label ?_); simp only [go_sem, aopsK, aopsG, aopsPK, aopsPG, aopsMK, aopsMG, aopsN, TypeDesc.isAgg, ↓reduceIte, Nat.reduceEqDiff, Nat.reduceAdd, Nat.reduceSub, Nat.reduceMul, Nat.reduceLeDiff, Nat.reduceLT, Nat.reduceBEq, Int.reduceNeg, Int.reduceLE, Int.reduceLT, Int.reduceToNat, String.reduceEq, Option.isSome_some, Option.isSome_none, Bool.false_eq_true, Bool.true_eq_false, not_true_eq_false, not_false_eq_true, true_and, and_true, and_self, List.getElem?_toArray, List.getElem?_cons_zero, List.getElem?_cons_succ, List.getElem?_nil, List.length_map, List.append_eq, List.range_zero, List.cons_append, List.nil_append, Nat.one_ne_zero, implies_true, hki, hli, hp, h00, hpz, hw, hlz, ndA, inA]) | refine aw_seq ?_ | refine aw_block ?_ | refine aw_scope ?_ | (refine aw_cond rfl (fun h => ?_) (fun h => ?_) <;> try (exfalso; first | (simp at h; done) | (simp at h; omega))) | ((with_reducible refine And.intro ?_ ?_); focus (first | omega | (intros; simp_all; done) | (simp; omega)))
              exact ⟨(i + 1, _), ⟨hlt, pre_app rP _⟩, by simp only; omega, congrArg _ (wrap_succ hlt (by omega)), rfl⟩
            | some m =>
              rw [hf] at hfi
              have hpm : decide (m.parent = -1) = true := decide_eq_true (par_none hz1 hf)
              simp only [ndV, ndA, Option.getD_some, Option.isSome_some] at hfi
              repeat' first | ((first | refine callK_fn (hfi _) callOk36F ?_ | refine callP_fn (hfi _) callOk36F ?_ | refine callM_fn (fun _ => hfi _) callOk36F ?_ | refine callK_fn (hdi _) callOk48F ?_ | refine callP_fn (hdi _) callOk48F ?_ | refine callM_fn (fun _ => hdi _) callOk48F ?_ | refine callP_false (.bool false) ?_ | refine aw_region rfl ?_ | refine aw_region_draw mixedF rfl (by kernel_rfl) ?_ | refine aw_ret ?_ | refine aw_skip ?_ | refine aw_exit ?_ | refine aw_label ?_); simp only [go_sem, aopsK, aopsG, aopsPK, aopsPG, aopsMK, aopsMG, aopsN, TypeDesc.isAgg, ↓reduceIte, Nat.reduceEqDiff, Nat.reduceAdd, Nat.reduceSub, Nat.reduceMul, Nat.reduceLeDiff, Nat.reduceLT, Nat.reduceBEq, Int.reduceNeg, Int.reduceLE, Int.reduceLT, Int.reduceToNat, String.reduceEq, Option.isSome_some, Option.isSome_none, Bool.false_eq_true, Bool.true_eq_false, not_true_eq_false, not_false_eq_true, true_and, and_true, and_self, List.getElem?_toArray, List.getElem?_cons_zero, List.getElem?_cons_succ, List.getElem?_nil, List.length_map, List.append_eq, List.range_zero, List.cons_append, List.nil_append, Nat.one_ne_zero, implies_true, hki, hli, hp, h00, hpz, hw, hlz, hpm, ndA, inA]) | refine aw_seq ?_ | refine aw_block ?_ | refine aw_scope ?_ | (refine aw_cond rfl (fun h => ?_) (fun h => ?_) <;> try (exfalso; first | (simp at h; done) | (simp at h; omega))) | ((with_reducible refine And.intro ?_ ?_); focus (first | omega | (intros; simp_all; done) | (simp; omega)))
              exact ⟨(i + 1, _), ⟨hlt, pre_app rP _⟩, by simp only; omega, congrArg _ (wrap_succ hlt (by omega)), rfl⟩
    · have hie : i = L.length := by omega
      have hli : decide ((i : Int) < (L.length : Int)) = false := decide_eq_false (by omega)
      have hck := chk_c false L
      rw [hfr.chk] at hck
      repeat' first | ((first | refine callK_fn (hck _) callOk38F ?_ | refine callP_fn (hck _) callOk38F ?_ | refine callM_fn (fun _ => hck _) callOk38F ?_ | refine callP_false (.bool false) ?_ | refine aw_region rfl ?_ | refine aw_region_draw mixedF rfl (by kernel_rfl) ?_ | refine aw_ret ?_ | refine aw_skip ?_ | refine aw_exit ?_ | refine aw_label ?_); simp only [go_sem, aopsK, aopsG, aopsPK, aopsPG, aopsMK, aopsMG, aopsN, TypeDesc.isAgg, ↓reduceIte, Nat.reduceEqDiff, Nat.reduceAdd, Nat.reduceSub, Nat.reduceMul, Nat.reduceLeDiff, Nat.reduceLT, Nat.reduceBEq, Int.reduceNeg, Int.reduceLE, Int.reduceLT, Int.reduceToNat, String.reduceEq, Option.isSome_some, Option.isSome_none, Bool.false_eq_true, Bool.true_eq_false, not_true_eq_false, not_false_eq_true, true_and, and_true, and_self, List.getElem?_toArray, List.getElem?_cons_zero, List.getElem?_cons_succ, List.getElem?_nil, List.length_map, List.append_eq, List.range_zero, List.cons_append, List.nil_append, Nat.one_ne_zero, implies_true, hli]) | refine aw_seq ?_ | refine aw_block ?_ | refine aw_scope ?_ | (refine aw_cond rfl (fun h => ?_) (fun h => ?_) <;> try (exfalso; first | (simp at h; done) | (simp at h; omega))) | ((with_reducible refine And.intro ?_ ?_); focus (first | omega | (intros; simp_all; done) | (simp; omega)))
      obtain ⟨M, hM⟩ := rP
      exact doneG0 hM.symm (by simp only [pur_int, pur_bool, pur_str, pur_agg, pur_tup, pur_sl, pur_iface, pur_nilI, List.mem_cons, List.not_mem_nil, false_implies, forall_eq_or_imp, List.mem_map, forall_exists_index, and_imp, forall_apply_eq_imp_iff₂, or_false, forall_eq, implies_true, and_self, and_true, true_and, Go.Gw.stA, Go.Gw.opA, Go.Gw.ndA, Go.Gw.unA, Go.Gw.enA, Go.Gw.inA, Go.Gw.lgF, Go.Gw.lgA]) (.refl _)
end Go.Proofs.Ytoffonjlfomnbaa

/- TreeLast, walked. No condition. -/
import Derived.Test.YtoffonjlfomnbaaGwLastP
namespace Go.Proofs.Ytoffonjlfomnbaa
open Go Go.Aw Go.Gw
set_option linter.unusedSimpArgs false
set_option maxRecDepth 20000
set_option maxHeartbeats 4000000

theorem first_c (b : Bool) (l : List Opn) (k : Nat) (hk : k < l.length) (hS : ∀ o ∈ l, OpS o) (hl : l.length ≤ 1000000) (H : AHeap) : FnC Try.prog 49 [.sl b (l.map opA), .int .i64 k] H (.bool (firstB l k)) := by
  refine fnC_of Try.func49 rfl (Nat.le_of_ble_eq_true rfl) ?_
  have hpk := getD_map opA hk
  have hki : decide ((k : Int) < (l.length : Int)) = true := decide_eq_true (by omega)
  have hgk : l.getD k op0 = l[k] := by rw [List.getD_eq_getElem?_getD, List.getElem?_eq_getElem hk]; rfl
  repeat' first | ((first | refine callP_false (.bool false) ?_ | refine aw_region rfl ?_ | refine aw_region_draw mixedF rfl (by kernel_rfl) ?_ | refine aw_ret ?_ | refine aw_skip ?_ | refine aw_exit ?_ | refine aw_label ?_); simp only [go_sem, aopsK, aopsG, aopsPK, aopsPG, aopsMK, aopsMG, aopsN, TypeDesc.isAgg, ↓reduceIte, Nat.reduceEqDiff, Nat.reduceAdd, Nat.reduceSub, Nat.reduceMul, Nat.reduceLeDiff, Nat.reduceLT, Nat.reduceBEq, Int.reduceNeg, Int.reduceLE, Int.reduceLT, Int.reduceToNat, String.reduceEq, Option.isSome_some, Option.isSome_none, Bool.false_eq_true, Bool.true_eq_false, not_true_eq_false, not_false_eq_true, true_and, and_true, and_self, List.getElem?_toArray, List.getElem?_cons_zero, List.getElem?_cons_succ, List.getElem?_nil, List.length_map, List.append_eq, List.range_zero, List.cons_append, List.nil_append, Nat.one_ne_zero, implies_true]) | refine aw_seq ?_ | refine aw_block ?_ | refine aw_scope ?_ | (refine aw_cond rfl (fun h => ?_) (fun h => ?_) <;> try (exfalso; first | (simp at h; done) | (simp at h; omega))) | ((with_reducible refine And.intro ?_ ?_); focus (first | omega | (intros; simp_all; done) | (simp; omega)))
  refine aw_loopS (ι := Nat) (fun i => [(0, .sl b (l.map opA)), (1, .int .i64 k), (5, .int .i64 i)]) (fun _ => H) (fun i => i ≤ k ∧ ∀ x ∈ l.take i, (decide (x.at_ = l[k].at_) && opOk x) = false) (fun i => k - i) 0 ⟨Nat.zero_le _, by simp⟩ ?_ rfl ?_
  · simp [go_sem]
  · rintro i ⟨hi, hall⟩
    by_cases hlt : i < k
    · have hil : i < l.length := by omega
      have hpi := getD_map opA hil
      have hli : decide ((i : Int) < (k : Int)) = true := decide_eq_true (by omega)
      have hii : decide ((i : Int) < (l.length : Int)) = true := decide_eq_true (by omega)
      have htk : l.take (i + 1) = l.take i ++ [l[i]] := List.take_succ_eq_append_getElem hil
      have hck := opOk_c l[i] (hS _ (List.getElem_mem hil))
      have hmem : l[i] ∈ l.take k := List.mem_take_iff_getElem.2 ⟨i, by omega, rfl⟩
      have hfB : firstB l k = (l.take k).all fun x => !(decide (x.at_ = l[k].at_) && opOk x) := by rw [firstB, hgk]
      have hse := stm_eq l[i].at_ l[k].at_
      generalize l[i] = o at *
      generalize l[k] = p at *
      simp only [opA] at hck
      cases hb : (decide (o.at_ = p.at_) && opOk o) with
      | true =>
        rw [Bool.and_eq_true] at hb
        rw [hb.1] at hse
        rw [hb.2] at hck
        have hno : firstB l k = false := by
          rw [hfB, Bool.eq_false_iff]
          intro q
          have := List.all_eq_true.1 q o hmem
          rw [hb.1, hb.2] at this; cases this
        repeat' first | ((first | refine callK_fn (hck _) callOk30F ?_ | refine callP_fn (hck _) callOk30F ?_ | refine callM_fn (fun _ => hck _) callOk30F ?_ | refine callP_false (.bool false) ?_ | refine aw_region rfl ?_ | refine aw_region_draw mixedF rfl (by kernel_rfl) ?_ | refine aw_ret ?_ | refine aw_skip ?_ | refine aw_exit ?_ | refine aw_label ?_); simp only [go_sem, aopsK, aopsG, aopsPK, aopsPG, aopsMK, aopsMG, aopsN, TypeDesc.isAgg, ↓reduceIte, Nat.reduceEqDiff, Nat.reduceAdd, Nat.reduceSub, Nat.reduceMul, Nat.reduceLeDiff, Nat.reduceLT, Nat.reduceBEq, Int.reduceNeg, Int.reduceLE, Int.reduceLT, Int.reduceToNat, String.reduceEq, Option.isSome_some, Option.isSome_none, Bool.false_eq_true, Bool.true_eq_false, not_true_eq_false, not_false_eq_true, true_and, and_true, and_self, List.getElem?_toArray, List.getElem?_cons_zero, List.getElem?_cons_succ, List.getElem?_nil, List.length_map, List.append_eq, List.range_zero, List.cons_append, List.nil_append, Nat.one_ne_zero, implies_true, hpi, hpk, hli, hki, hii, hse, opA]) | refine aw_seq ?_ | refine aw_block ?_ | refine aw_scope ?_ | (refine aw_cond rfl (fun h => ?_) (fun h => ?_) <;> try (exfalso; first | (simp at h; done) | (simp at h; omega))) | ((with_reducible refine And.intro ?_ ?_); focus (first | omega | (intros; simp_all; done) | (simp; omega)))
        rw [hno]; exact done0 (by simp only [pur_int, pur_bool, pur_str, pur_agg, pur_tup, pur_sl, pur_iface, pur_nilI, List.mem_cons, List.not_mem_nil, false_implies, forall_eq_or_imp, List.mem_map, forall_exists_index, and_imp, forall_apply_eq_imp_iff₂, or_false, forall_eq, implies_true, and_self, and_true, true_and, Go.Gw.stA, Go.Gw.opA, Go.Gw.ndA, Go.Gw.unA, Go.Gw.enA, Go.Gw.inA, Go.Gw.lgF, Go.Gw.lgA]) (.refl _)
      | false =>
        have nxt : ∀ x ∈ l.take (i + 1), (decide (x.at_ = p.at_) && opOk x) = false := fun x hx => by
          rw [htk, List.mem_append] at hx
          rcases hx with hx | hx
          · exact hall x hx
          · rw [List.mem_singleton] at hx; rw [hx, hb]
        cases he : decide (o.at_ = p.at_) with
        | false =>
          rw [he] at hse
          repeat' first | ((first | refine callK_fn (hck _) callOk30F ?_ | refine callP_fn (hck _) callOk30F ?_ | refine callM_fn (fun _ => hck _) callOk30F ?_ | refine callP_false (.bool false) ?_ | refine aw_region rfl ?_ | refine aw_region_draw mixedF rfl (by kernel_rfl) ?_ | refine aw_ret ?_ | refine aw_skip ?_ | refine aw_exit ?_ | refine aw_label ?_); simp only [go_sem, aopsK, aopsG, aopsPK, aopsPG, aopsMK, aopsMG, aopsN, TypeDesc.isAgg, ↓reduceIte, Nat.reduceEqDiff, Nat.reduceAdd, Nat.reduceSub, Nat.reduceMul, Nat.reduceLeDiff, Nat.reduceLT, Nat.reduceBEq, Int.reduceNeg, Int.reduceLE, Int.reduceLT, Int.reduceToNat, String.reduceEq, Option.isSome_some, Option.isSome_none, Bool.false_eq_true, Bool.true_eq_false, not_true_eq_false, not_false_eq_true, true_and, and_true, and_self, List.getElem?_toArray, List.getElem?_cons_zero, List.getElem?_cons_succ, List.getElem?_nil, List.length_map, List.append_eq, List.range_zero, List.cons_append, List.nil_append, Nat.one_ne_zero, implies_true, hpi, hpk, hli, hki, hii, hse, opA]) | refine aw_seq ?_ | refine aw_block ?_ | refine aw_scope ?_ | (refine aw_cond rfl (fun h => ?_) (fun h => ?_) <;> try (exfalso; first | (simp at h; done) | (simp at h; omega))) | ((with_reducible refine And.intro ?_ ?_); focus (first | omega | (intros; simp_all; done) | (simp; omega)))
          exact ⟨i + 1, ⟨hlt, nxt⟩, by omega, congrArg _ (wrap_succ hlt (by omega))⟩
        | true =>
          rw [he] at hse hb
          rw [Bool.true_and] at hb
          rw [hb] at hck
          repeat' first | ((first | refine callK_fn (hck _) callOk30F ?_ | refine callP_fn (hck _) callOk30F ?_ | refine callM_fn (fun _ => hck _) callOk30F ?_ | refine callP_false (.bool false) ?_ | refine aw_region rfl ?_ | refine aw_region_draw mixedF rfl (by kernel_rfl) ?_ | refine aw_ret ?_ | refine aw_skip ?_ | refine aw_exit ?_ | refine aw_label ?_); simp only [go_sem, aopsK, aopsG, aopsPK, aopsPG, aopsMK, aopsMG, aopsN, TypeDesc.isAgg, ↓reduceIte, Nat.reduceEqDiff, Nat.reduceAdd, Nat.reduceSub, Nat.reduceMul, Nat.reduceLeDiff, Nat.reduceLT, Nat.reduceBEq, Int.reduceNeg, Int.reduceLE, Int.reduceLT, Int.reduceToNat, String.reduceEq, Option.isSome_some, Option.isSome_none, Bool.false_eq_true, Bool.true_eq_false, not_true_eq_false, not_false_eq_true, true_and, and_true, and_self, List.getElem?_toArray, List.getElem?_cons_zero, List.getElem?_cons_succ, List.getElem?_nil, List.length_map, List.append_eq, List.range_zero, List.cons_append, List.nil_append, Nat.one_ne_zero, implies_true, hpi, hpk, hli, hki, hii, hse, opA]) | refine aw_seq ?_ | refine aw_block ?_ | refine aw_scope ?_ | (refine aw_cond rfl (fun h => ?_) (fun h => ?_) <;> try (exfalso; first | (simp at h; done) | (simp at h; omega))) | ((with_reducible refine And.intro ?_ ?_); focus (first | omega | (intros; simp_all; done) | (simp; omega)))
          exact ⟨i + 1, ⟨hlt, nxt⟩, by omega, congrArg _ (wrap_succ hlt (by omega))⟩
    · have hie : i = k := by omega
      subst hie
      have hli : decide ((i : Int) < (i : Int)) = false := by simp
      have hyes : firstB l i = true := by rw [firstB, hgk]; exact List.all_eq_true.2 fun x hx => by rw [hall x hx]; rfl
      repeat' first | ((first | refine callP_false (.bool false) ?_ | refine aw_region rfl ?_ | refine aw_region_draw mixedF rfl (by kernel_rfl) ?_ | refine aw_ret ?_ | refine aw_skip ?_ | refine aw_exit ?_ | refine aw_label ?_); simp only [go_sem, aopsK, aopsG, aopsPK, aopsPG, aopsMK, aopsMG, aopsN, TypeDesc.isAgg, ↓reduceIte, Nat.reduceEqDiff, Nat.reduceAdd, Nat.reduceSub, Nat.reduceMul, Nat.reduceLeDiff, Nat.reduceLT, Nat.reduceBEq, Int.reduceNeg, Int.reduceLE, Int.reduceLT, Int.reduceToNat, String.reduceEq, Option.isSome_some, Option.isSome_none, Bool.false_eq_true, Bool.true_eq_false, not_true_eq_false, not_false_eq_true, true_and, and_true, and_self, List.getElem?_toArray, List.getElem?_cons_zero, List.getElem?_cons_succ, List.getElem?_nil, List.length_map, List.append_eq, List.range_zero, List.cons_append, List.nil_append, Nat.one_ne_zero, implies_true, hli]) | refine aw_seq ?_ | refine aw_block ?_ | refine aw_scope ?_ | (refine aw_cond rfl (fun h => ?_) (fun h => ?_) <;> try (exfalso; first | (simp at h; done) | (simp at h; omega))) | ((with_reducible refine And.intro ?_ ?_); focus (first | omega | (intros; simp_all; done) | (simp; omega)))
      rw [hyes]; exact done0 (by simp only [pur_int, pur_bool, pur_str, pur_agg, pur_tup, pur_sl, pur_iface, pur_nilI, List.mem_cons, List.not_mem_nil, false_implies, forall_eq_or_imp, List.mem_map, forall_exists_index, and_imp, forall_apply_eq_imp_iff₂, or_false, forall_eq, implies_true, and_self, and_true, true_and, Go.Gw.stA, Go.Gw.opA, Go.Gw.ndA, Go.Gw.unA, Go.Gw.enA, Go.Gw.inA, Go.Gw.lgF, Go.Gw.lgA]) (.refl _)

theorem tlast_c (b : Bool) (l : List Opn) (H : AHeap) : FnC Try.prog 13 [.sl b (l.map opA)] H (.bool true) := by
  refine fnC_of Try.func13 rfl (Nat.le_of_ble_eq_true rfl) ?_
  have hfew := few5_c b l 100
  repeat' first | ((first | refine callK_fn (awake6_c _) callOk32F ?_ | refine callP_fn (awake6_c _) callOk32F ?_ | refine callM_fn (fun _ => awake6_c _) callOk32F ?_ | refine callK_fn (hfew _) callOk21F ?_ | refine callP_fn (hfew _) callOk21F ?_ | refine callM_fn (fun _ => hfew _) callOk21F ?_ | refine callP_false (.bool false) ?_ | refine aw_region rfl ?_ | refine aw_region_draw mixedF rfl (by kernel_rfl) ?_ | refine aw_ret ?_ | refine aw_skip ?_ | refine aw_exit ?_ | refine aw_label ?_); simp only [go_sem, aopsK, aopsG, aopsPK, aopsPG, aopsMK, aopsMG, aopsN, TypeDesc.isAgg, ↓reduceIte, Nat.reduceEqDiff, Nat.reduceAdd, Nat.reduceSub, Nat.reduceMul, Nat.reduceLeDiff, Nat.reduceLT, Nat.reduceBEq, Int.reduceNeg, Int.reduceLE, Int.reduceLT, Int.reduceToNat, String.reduceEq, Option.isSome_some, Option.isSome_none, Bool.false_eq_true, Bool.true_eq_false, not_true_eq_false, not_false_eq_true, true_and, and_true, and_self, List.getElem?_toArray, List.getElem?_cons_zero, List.getElem?_cons_succ, List.getElem?_nil, List.length_map, List.append_eq, List.range_zero, List.cons_append, List.nil_append, Nat.one_ne_zero, implies_true]) | refine aw_seq ?_ | refine aw_block ?_ | refine aw_scope ?_ | ((with_reducible refine And.intro ?_ ?_); focus (first | omega | (intros; simp_all; done) | (simp; omega)))
  refine aw_cond rfl (fun h => ?_) (fun h => ?_)
  · repeat' first | ((first | refine callP_false (.bool false) ?_ | refine aw_region rfl ?_ | refine aw_region_draw mixedF rfl (by kernel_rfl) ?_ | refine aw_ret ?_ | refine aw_skip ?_ | refine aw_exit ?_ | refine aw_label ?_); simp only [go_sem, aopsK, aopsG, aopsPK, aopsPG, aopsMK, aopsMG, aopsN, TypeDesc.isAgg, ↓reduceIte, Nat.reduceEqDiff, Nat.reduceAdd, Nat.reduceSub, Nat.reduceMul, Nat.reduceLeDiff, Nat.reduceLT, Nat.reduceBEq, Int.reduceNeg, Int.reduceLE, Int.reduceLT, Int.reduceToNat, String.reduceEq, Option.isSome_some, Option.isSome_none, Bool.false_eq_true, Bool.true_eq_false, not_true_eq_false, not_false_eq_true, true_and, and_true, and_self, List.getElem?_toArray, List.getElem?_cons_zero, List.getElem?_cons_succ, List.getElem?_nil, List.length_map, List.append_eq, List.range_zero, List.cons_append, List.nil_append, Nat.one_ne_zero, implies_true]) | refine aw_seq ?_ | refine aw_block ?_ | refine aw_scope ?_ | (refine aw_cond rfl (fun h => ?_) (fun h => ?_) <;> try (exfalso; first | (simp at h; done) | (simp at h; omega))) | ((with_reducible refine And.intro ?_ ?_); focus (first | omega | (intros; simp_all; done) | (simp; omega)))
    exact done0 (by simp only [pur_int, pur_bool, pur_str, pur_agg, pur_tup, pur_sl, pur_iface, pur_nilI, List.mem_cons, List.not_mem_nil, false_implies, forall_eq_or_imp, List.mem_map, forall_exists_index, and_imp, forall_apply_eq_imp_iff₂, or_false, forall_eq, implies_true, and_self, and_true, true_and, Go.Gw.stA, Go.Gw.opA, Go.Gw.ndA, Go.Gw.unA, Go.Gw.enA, Go.Gw.inA, Go.Gw.lgF, Go.Gw.lgA]) (.refl _)
  have hfe : fewOpn l 100 = true := by simpa using h
  refine aw_skip ?_
  simp only [go_sem, aopsK, aopsG, aopsPK, aopsPG, aopsMK, aopsMG, aopsN, TypeDesc.isAgg, ↓reduceIte, Nat.reduceEqDiff, Nat.reduceAdd, Nat.reduceSub, Nat.reduceMul, Nat.reduceLeDiff, Nat.reduceLT, Nat.reduceBEq, Int.reduceNeg, Int.reduceLE, Int.reduceLT, Int.reduceToNat, String.reduceEq, Option.isSome_some, Option.isSome_none, Bool.false_eq_true, Bool.true_eq_false, not_true_eq_false, not_false_eq_true, true_and, and_true, and_self, List.getElem?_toArray, List.getElem?_cons_zero, List.getElem?_cons_succ, List.getElem?_nil, List.length_map, List.append_eq, List.range_zero, List.cons_append, List.nil_append, Nat.one_ne_zero, implies_true]
  obtain ⟨hS, hl100⟩ := few_S hfe
  have hfo := fold_c b l hS (by omega)
  have hend := fun (n : Nd) (last : Stm) (data : Txt) (mv : Bool) (h : ScanI l n 0 last data mv) (hn : n ∈ foldL l) => scan_end h hn
  have hLl : (foldL l).length ≤ 100 := by
    have h1 := foldl_len (rSort l) []
    have h2 := rSortLen l
    have h3 : (foldL l).length ≤ ([] : List Nd).length + (rSort l).length := h1
    simp only [List.length_nil] at h3
    omega
  generalize foldL l = L at *
  repeat' first | ((first | refine callK_fn (hfo _) callOk46F ?_ | refine callP_fn (hfo _) callOk46F ?_ | refine callM_fn (fun _ => hfo _) callOk46F ?_ | refine callP_false (.bool false) ?_ | refine aw_region rfl ?_ | refine aw_region_draw mixedF rfl (by kernel_rfl) ?_ | refine aw_ret ?_ | refine aw_skip ?_ | refine aw_exit ?_ | refine aw_label ?_); simp only [go_sem, aopsK, aopsG, aopsPK, aopsPG, aopsMK, aopsMG, aopsN, TypeDesc.isAgg, ↓reduceIte, Nat.reduceEqDiff, Nat.reduceAdd, Nat.reduceSub, Nat.reduceMul, Nat.reduceLeDiff, Nat.reduceLT, Nat.reduceBEq, Int.reduceNeg, Int.reduceLE, Int.reduceLT, Int.reduceToNat, String.reduceEq, Option.isSome_some, Option.isSome_none, Bool.false_eq_true, Bool.true_eq_false, not_true_eq_false, not_false_eq_true, true_and, and_true, and_self, List.getElem?_toArray, List.getElem?_cons_zero, List.getElem?_cons_succ, List.getElem?_nil, List.length_map, List.append_eq, List.range_zero, List.cons_append, List.nil_append, Nat.one_ne_zero, implies_true]) | refine aw_seq ?_ | refine aw_block ?_ | refine aw_scope ?_ | (refine aw_cond rfl (fun h => ?_) (fun h => ?_) <;> try (exfalso; first | (simp at h; done) | (simp at h; omega))) | ((with_reducible refine And.intro ?_ ?_); focus (first | omega | (intros; simp_all; done) | (simp; omega)))
  refine aw_loopS (ι := Nat × AHeap) (fun x => [(0, .sl b (l.map opA)), (3, .bool true), (4, .sl false (L.map ndA)), (5, .int .i64 x.1)]) (fun x => x.2)
    (fun x => x.1 ≤ L.length ∧ ∃ M, x.2 = H ++ M) (fun x => L.length - x.1) (0, H) ⟨Nat.zero_le _, [], (List.append_nil H).symm⟩ ?_ rfl ?_
  · simp [go_sem]
  · rintro ⟨i, X⟩ ⟨hi, rP⟩
    simp only at hi rP ⊢
    by_cases hlt : i < L.length
    · have hli : decide ((i : Int) < (L.length : Int)) = true := decide_eq_true (by omega)
      have hp := getD_map ndA hlt
      have hn := List.getElem_mem hlt
      have hse := stm_eq L[i].moved st0
      have hz : decide (L[i].moved = st0) = (decide (L[i].moved.c = 0) && decide (L[i].moved.r = 0)) := hse.symm
      generalize L[i] = n at *
      have hw0 : IntKind.i64.wrap ((l.length : Int) - 1) = (l.length : Int) - 1 := wrap_i64 (by omega) (by omega)
      repeat' first | ((first | refine callP_false (.bool false) ?_ | refine aw_region rfl ?_ | refine aw_region_draw mixedF rfl (by kernel_rfl) ?_ | refine aw_ret ?_ | refine aw_skip ?_ | refine aw_exit ?_ | refine aw_label ?_); simp only [go_sem, aopsK, aopsG, aopsPK, aopsPG, aopsMK, aopsMG, aopsN, TypeDesc.isAgg, ↓reduceIte, Nat.reduceEqDiff, Nat.reduceAdd, Nat.reduceSub, Nat.reduceMul, Nat.reduceLeDiff, Nat.reduceLT, Nat.reduceBEq, Int.reduceNeg, Int.reduceLE, Int.reduceLT, Int.reduceToNat, String.reduceEq, Option.isSome_some, Option.isSome_none, Bool.false_eq_true, Bool.true_eq_false, not_true_eq_false, not_false_eq_true, true_and, and_true, and_self, List.getElem?_toArray, List.getElem?_cons_zero, List.getElem?_cons_succ, List.getElem?_nil, List.length_map, List.append_eq, List.range_zero, List.cons_append, List.nil_append, Nat.one_ne_zero, implies_true, hli, hp, ndA, hw0]) | refine aw_seq ?_ | refine aw_block ?_ | refine aw_scope ?_ | (refine aw_cond rfl (fun h => ?_) (fun h => ?_) <;> try (exfalso; first | (simp at h; done) | (simp at h; omega))) | ((with_reducible refine And.intro ?_ ?_); focus (first | omega | (intros; simp_all; done) | (simp; omega)))
      refine aw_cutB (ι := AHeap × Stm × Txt) (fun s => [(0, .sl b (l.map opA)), (3, .bool true), (4, .sl false (L.map ndA)), (5, .int .i64 i), (6, .ref X.length 0 0), (7, .str s.2.2), (8, .bool true)]) (fun s => s.1)
        (fun s => hget s.1 X.length = .cells 0 [.int .i64 s.2.1.c, .int .i64 s.2.1.r] ∧ (∃ M, s.1 = X ++ M) ∧ n.wrote = s.2.1 ∧ n.data = s.2.2) ?_ ?_
      · refine aw_loopS (ι := Nat × AHeap × Stm × Txt × Bool) (fun s => [(0, .sl b (l.map opA)), (3, .bool true), (4, .sl false (L.map ndA)), (5, .int .i64 i), (6, .ref X.length 0 0), (7, .str s.2.2.2.1), (8, .bool s.2.2.2.2), (9, .int .i64 ((s.1 : Int) - 1))]) (fun s => s.2.1)
          (fun s => s.1 ≤ l.length ∧ hget s.2.1 X.length = .cells 0 [.int .i64 s.2.2.1.c, .int .i64 s.2.2.1.r] ∧ (∃ M, s.2.1 = X ++ M) ∧ ScanI l n s.1 s.2.2.1 s.2.2.2.1 s.2.2.2.2) (fun s => s.1)
          (l.length, X ++ [.cells 0 [.int .i64 0, .int .i64 0]], st0, [], decide (n.moved = st0)) ⟨Nat.le_refl _, by simp only [go_sem, aopsK, aopsG, aopsPK, aopsPG, aopsMK, aopsMG, aopsN, TypeDesc.isAgg, ↓reduceIte, Nat.reduceEqDiff, Nat.reduceAdd, Nat.reduceSub, Nat.reduceMul, Nat.reduceLeDiff, Nat.reduceLT, Nat.reduceBEq, Int.reduceNeg, Int.reduceLE, Int.reduceLT, Int.reduceToNat, String.reduceEq, Option.isSome_some, Option.isSome_none, Bool.false_eq_true, Bool.true_eq_false, not_true_eq_false, not_false_eq_true, true_and, and_true, and_self, List.getElem?_toArray, List.getElem?_cons_zero, List.getElem?_cons_succ, List.getElem?_nil, List.length_map, List.append_eq, List.range_zero, List.cons_append, List.nil_append, Nat.one_ne_zero, implies_true]; rfl, ⟨_, rfl⟩, scan_0 l n⟩ ?_ rfl ?_
        · simp [go_sem, hz]
        · rintro ⟨k, Y, last, data, mv⟩ ⟨hk, r1, rQ, hsc⟩
          simp only at hk r1 rQ hsc ⊢
          have r1' := fun M => hget_appL r1 trivial M
          have hX1 : X.length < Y.length := hget_lt r1 trivial
          by_cases hk0 : 0 < k
          · obtain ⟨k, rfl⟩ : ∃ k', k = k' + 1 := ⟨k - 1, by omega⟩
            have hkl : k < l.length := by omega
            have ek : ((k + 1 : Nat) : Int) - 1 = (k : Int) := by omega
            have hge : decide ((0 : Int) ≤ (k : Int)) = true := decide_eq_true (by omega)
            have hki : decide ((k : Int) < (l.length : Int)) = true := decide_eq_true (by omega)
            have hpk := getD_map opA hkl
            have hgk : l.getD k op0 = l[k] := by rw [List.getD_eq_getElem?_getD, List.getElem?_eq_getElem hkl]; rfl
            have hwk : IntKind.i64.wrap ((k : Int) - 1) = (k : Int) - 1 := wrap_i64 (by omega) (by omega)
            have hck := opOk_c l[k] (hS _ (List.getElem_mem hkl))
            have hfi := first_c b l k hkl hS (by omega)
            have hless := less_c l[k].at_.c l[k].at_.r last.c last.r
            have hsk := scan_skip hsc
            have hmv := scan_move hsc hkl
            have hwr := scan_write hsc hkl
            have hsB : selB l n.id k = (opOk (l.getD k op0) && decide ((l.getD k op0).kind = 2) && decide ((l.getD k op0).node = n.id) && firstB l k) := rfl
            have hme := stm_eq l[k].at_ n.moved
            rw [hgk] at hsk hmv hwr hsB
            rw [ek]
            generalize l[k] = o at *
            simp only [opA] at hck
            cases hok : opOk o with
            | false =>
              rw [hok] at hck hsB hsk
              have hs1 := hsk (by rw [hsB]; rfl) (fun q => by cases q.1)
              repeat' first | ((first | refine callK_fn (hck _) callOk30F ?_ | refine callP_fn (hck _) callOk30F ?_ | refine callM_fn (fun _ => hck _) callOk30F ?_ | refine callP_false (.bool false) ?_ | refine aw_region rfl ?_ | refine aw_region_draw mixedF rfl (by kernel_rfl) ?_ | refine aw_ret ?_ | refine aw_skip ?_ | refine aw_exit ?_ | refine aw_label ?_); simp only [go_sem, aopsK, aopsG, aopsPK, aopsPG, aopsMK, aopsMG, aopsN, TypeDesc.isAgg, ↓reduceIte, Nat.reduceEqDiff, Nat.reduceAdd, Nat.reduceSub, Nat.reduceMul, Nat.reduceLeDiff, Nat.reduceLT, Nat.reduceBEq, Int.reduceNeg, Int.reduceLE, Int.reduceLT, Int.reduceToNat, String.reduceEq, Option.isSome_some, Option.isSome_none, Bool.false_eq_true, Bool.true_eq_false, not_true_eq_false, not_false_eq_true, true_and, and_true, and_self, List.getElem?_toArray, List.getElem?_cons_zero, List.getElem?_cons_succ, List.getElem?_nil, List.length_map, List.append_eq, List.range_zero, List.cons_append, List.nil_append, Nat.one_ne_zero, implies_true, hge, hki, hpk, opA, hwk, hli, hp, ndA]) | refine aw_seq ?_ | refine aw_block ?_ | refine aw_scope ?_ | (refine aw_cond rfl (fun h => ?_) (fun h => ?_) <;> try (exfalso; first | (simp at h; done) | (simp at h; omega))) | ((with_reducible refine And.intro ?_ ?_); focus (first | omega | (intros; simp_all; done) | (simp; omega)))
              exact ⟨(k, _, last, data, mv), ⟨by simp only; omega, r1' _, pre_app rQ _, hs1⟩, Nat.lt_succ_self _, ⟨rfl, rfl, rfl⟩, rfl⟩
            | true =>
              rw [hok] at hck hsB hsk
              by_cases hid : o.node = n.id
              · have hidd : decide (o.node = n.id) = true := decide_eq_true hid
                rcases ok_kind hok with hkd | hkd
                · have hk1 : decide (o.kind = 1) = true := decide_eq_true hkd
                  have hk2 : decide (o.kind = 2) = false := decide_eq_false (by omega)
                  have hs1 := hmv hok hid hkd
                  rw [← hme] at hs1
                  repeat' first | ((first | refine callK_fn (hck _) callOk30F ?_ | refine callP_fn (hck _) callOk30F ?_ | refine callM_fn (fun _ => hck _) callOk30F ?_ | refine callP_false (.bool false) ?_ | refine aw_region rfl ?_ | refine aw_region_draw mixedF rfl (by kernel_rfl) ?_ | refine aw_ret ?_ | refine aw_skip ?_ | refine aw_exit ?_ | refine aw_label ?_); simp only [go_sem, aopsK, aopsG, aopsPK, aopsPG, aopsMK, aopsMG, aopsN, TypeDesc.isAgg, ↓reduceIte, Nat.reduceEqDiff, Nat.reduceAdd, Nat.reduceSub, Nat.reduceMul, Nat.reduceLeDiff, Nat.reduceLT, Nat.reduceBEq, Int.reduceNeg, Int.reduceLE, Int.reduceLT, Int.reduceToNat, String.reduceEq, Option.isSome_some, Option.isSome_none, Bool.false_eq_true, Bool.true_eq_false, not_true_eq_false, not_false_eq_true, true_and, and_true, and_self, List.getElem?_toArray, List.getElem?_cons_zero, List.getElem?_cons_succ, List.getElem?_nil, List.length_map, List.append_eq, List.range_zero, List.cons_append, List.nil_append, Nat.one_ne_zero, implies_true, hge, hki, hpk, opA, hwk, hli, hp, ndA, hidd, hk1, hk2, r1, r1']) | refine aw_seq ?_ | refine aw_block ?_ | refine aw_scope ?_ | (refine aw_cond rfl (fun h => ?_) (fun h => ?_) <;> try (exfalso; first | (simp at h; done) | (simp at h; omega))) | ((with_reducible refine And.intro ?_ ?_); focus (first | omega | (intros; simp_all; done) | (simp; omega)))
                  exact ⟨(k, _, last, data, _), ⟨by simp only; omega, r1' _, pre_app rQ _, hs1⟩, Nat.lt_succ_self _, ⟨rfl, rfl, rfl⟩, rfl⟩
                · have hk1 : decide (o.kind = 1) = false := decide_eq_false (by omega)
                  have hk2 : decide (o.kind = 2) = true := decide_eq_true hkd
                  rw [hk2, hidd, Bool.true_and, Bool.true_and, Bool.true_and] at hsB
                  cases hfb : firstB l k with
                  | false =>
                    rw [hfb] at hfi hsB
                    have hs1 := hsk hsB (fun q => by have := q.2.2.1; omega)
                    repeat' first | ((first | refine callK_fn (hck _) callOk30F ?_ | refine callP_fn (hck _) callOk30F ?_ | refine callM_fn (fun _ => hck _) callOk30F ?_ | refine callK_fn (hfi _) callOk49F ?_ | refine callP_fn (hfi _) callOk49F ?_ | refine callM_fn (fun _ => hfi _) callOk49F ?_ | refine callP_false (.bool false) ?_ | refine aw_region rfl ?_ | refine aw_region_draw mixedF rfl (by kernel_rfl) ?_ | refine aw_ret ?_ | refine aw_skip ?_ | refine aw_exit ?_ | refine aw_label ?_); simp only [go_sem, aopsK, aopsG, aopsPK, aopsPG, aopsMK, aopsMG, aopsN, TypeDesc.isAgg, ↓reduceIte, Nat.reduceEqDiff, Nat.reduceAdd, Nat.reduceSub, Nat.reduceMul, Nat.reduceLeDiff, Nat.reduceLT, Nat.reduceBEq, Int.reduceNeg, Int.reduceLE, Int.reduceLT, Int.reduceToNat, String.reduceEq, Option.isSome_some, Option.isSome_none, Bool.false_eq_true, Bool.true_eq_false, not_true_eq_false, not_false_eq_true, true_and, and_true, and_self, List.getElem?_toArray, List.getElem?_cons_zero, List.getElem?_cons_succ, List.getElem?_nil, List.length_map, List.append_eq, List.range_zero, List.cons_append, List.nil_append, Nat.one_ne_zero, implies_true, hge, hki, hpk, opA, hwk, hli, hp, ndA, hidd, hk1, hk2, r1, r1']) | refine aw_seq ?_ | refine aw_block ?_ | refine aw_scope ?_ | (refine aw_cond rfl (fun h => ?_) (fun h => ?_) <;> try (exfalso; first | (simp at h; done) | (simp at h; omega))) | ((with_reducible refine And.intro ?_ ?_); focus (first | omega | (intros; simp_all; done) | (simp; omega)))
                    exact ⟨(k, _, last, data, mv), ⟨by simp only; omega, r1' _, pre_app rQ _, hs1⟩, Nat.lt_succ_self _, ⟨rfl, rfl, rfl⟩, rfl⟩
                  | true =>
                    rw [hfb] at hfi hsB
                    have hs1 := hwr hsB
                    have hll : lessI o.at_.c o.at_.r last.c last.r = lessS o.at_ last := rfl
                    rw [hll] at hless
                    cases hle : lessS o.at_ last with
                    | true =>
                      rw [hle] at hless hs1
                      rw [if_pos rfl, if_pos rfl] at hs1
                      repeat' first | ((first | refine callK_fn (hck _) callOk30F ?_ | refine callP_fn (hck _) callOk30F ?_ | refine callM_fn (fun _ => hck _) callOk30F ?_ | refine callK_fn (hfi _) callOk49F ?_ | refine callP_fn (hfi _) callOk49F ?_ | refine callM_fn (fun _ => hfi _) callOk49F ?_ | refine callK_fn (hless _) callOk31F ?_ | refine callP_fn (hless _) callOk31F ?_ | refine callM_fn (fun _ => hless _) callOk31F ?_ | refine callP_false (.bool false) ?_ | refine aw_region rfl ?_ | refine aw_region_draw mixedF rfl (by kernel_rfl) ?_ | refine aw_ret ?_ | refine aw_skip ?_ | refine aw_exit ?_ | refine aw_label ?_); simp only [go_sem, aopsK, aopsG, aopsPK, aopsPG, aopsMK, aopsMG, aopsN, TypeDesc.isAgg, ↓reduceIte, Nat.reduceEqDiff, Nat.reduceAdd, Nat.reduceSub, Nat.reduceMul, Nat.reduceLeDiff, Nat.reduceLT, Nat.reduceBEq, Int.reduceNeg, Int.reduceLE, Int.reduceLT, Int.reduceToNat, String.reduceEq, Option.isSome_some, Option.isSome_none, Bool.false_eq_true, Bool.true_eq_false, not_true_eq_false, not_false_eq_true, true_and, and_true, and_self, List.getElem?_toArray, List.getElem?_cons_zero, List.getElem?_cons_succ, List.getElem?_nil, List.length_map, List.append_eq, List.range_zero, List.cons_append, List.nil_append, Nat.one_ne_zero, implies_true, hge, hki, hpk, opA, hwk, hli, hp, ndA, hidd, hk1, hk2, r1, r1']) | refine aw_seq ?_ | refine aw_block ?_ | refine aw_scope ?_ | (refine aw_cond rfl (fun h => ?_) (fun h => ?_) <;> try (exfalso; first | (simp at h; done) | (simp at h; omega))) | ((with_reducible refine And.intro ?_ ?_); focus (first | omega | (intros; simp_all; done) | (simp; omega)))
                      exact ⟨(k, _, last, data, mv), ⟨by simp only; omega, r1' _, pre_app rQ _, hs1⟩, Nat.lt_succ_self _, ⟨rfl, rfl, rfl⟩, rfl⟩
                    | false =>
                      rw [hle] at hless hs1
                      rw [if_neg (by decide), if_neg (by decide)] at hs1
                      have qs := fun M b => hset_appL hX1 M b
                      have qg : ∀ b c, hget (hset Y X.length b ++ [c]) Y.length = c := fun b c => (hget_at0 (hset_len Y X.length b)).trans rfl
                      repeat' first | ((first | refine callK_fn (hck _) callOk30F ?_ | refine callP_fn (hck _) callOk30F ?_ | refine callM_fn (fun _ => hck _) callOk30F ?_ | refine callK_fn (hfi _) callOk49F ?_ | refine callP_fn (hfi _) callOk49F ?_ | refine callM_fn (fun _ => hfi _) callOk49F ?_ | refine callK_fn (hless _) callOk31F ?_ | refine callP_fn (hless _) callOk31F ?_ | refine callM_fn (fun _ => hless _) callOk31F ?_ | refine callP_false (.bool false) ?_ | refine aw_region rfl ?_ | refine aw_region_draw mixedF rfl (by kernel_rfl) ?_ | refine aw_ret ?_ | refine aw_skip ?_ | refine aw_exit ?_ | refine aw_label ?_); simp only [go_sem, aopsK, aopsG, aopsPK, aopsPG, aopsMK, aopsMG, aopsN, TypeDesc.isAgg, ↓reduceIte, Nat.reduceEqDiff, Nat.reduceAdd, Nat.reduceSub, Nat.reduceMul, Nat.reduceLeDiff, Nat.reduceLT, Nat.reduceBEq, Int.reduceNeg, Int.reduceLE, Int.reduceLT, Int.reduceToNat, String.reduceEq, Option.isSome_some, Option.isSome_none, Bool.false_eq_true, Bool.true_eq_false, not_true_eq_false, not_false_eq_true, true_and, and_true, and_self, List.getElem?_toArray, List.getElem?_cons_zero, List.getElem?_cons_succ, List.getElem?_nil, List.length_map, List.append_eq, List.range_zero, List.cons_append, List.nil_append, Nat.one_ne_zero, implies_true, hge, hki, hpk, opA, hwk, hli, hp, ndA, hidd, hk1, hk2, r1, r1', qs, qg]) | refine aw_seq ?_ | refine aw_block ?_ | refine aw_scope ?_ | (refine aw_cond rfl (fun h => ?_) (fun h => ?_) <;> try (exfalso; first | (simp at h; done) | (simp at h; omega))) | ((with_reducible refine And.intro ?_ ?_); focus (first | omega | (intros; simp_all; done) | (simp; omega)))
                      exact ⟨(k, _, o.at_, o.data, mv), ⟨by simp only; omega, hget_appL (b := .cells 0 [.int .i64 o.at_.c, .int .i64 o.at_.r]) (hget_set_eq hX1 _) trivial _, pre_app (pre_set rQ (Nat.le_refl _) _) _, hs1⟩, Nat.lt_succ_self _, ⟨rfl, rfl, rfl⟩, rfl⟩
              · have hidd : decide (o.node = n.id) = false := decide_eq_false hid
                have hs1 := hsk (by rw [hsB, hidd]; simp) (fun q => hid q.2.1)
                repeat' first | ((first | refine callK_fn (hck _) callOk30F ?_ | refine callP_fn (hck _) callOk30F ?_ | refine callM_fn (fun _ => hck _) callOk30F ?_ | refine callP_false (.bool false) ?_ | refine aw_region rfl ?_ | refine aw_region_draw mixedF rfl (by kernel_rfl) ?_ | refine aw_ret ?_ | refine aw_skip ?_ | refine aw_exit ?_ | refine aw_label ?_); simp only [go_sem, aopsK, aopsG, aopsPK, aopsPG, aopsMK, aopsMG, aopsN, TypeDesc.isAgg, ↓reduceIte, Nat.reduceEqDiff, Nat.reduceAdd, Nat.reduceSub, Nat.reduceMul, Nat.reduceLeDiff, Nat.reduceLT, Nat.reduceBEq, Int.reduceNeg, Int.reduceLE, Int.reduceLT, Int.reduceToNat, String.reduceEq, Option.isSome_some, Option.isSome_none, Bool.false_eq_true, Bool.true_eq_false, not_true_eq_false, not_false_eq_true, true_and, and_true, and_self, List.getElem?_toArray, List.getElem?_cons_zero, List.getElem?_cons_succ, List.getElem?_nil, List.length_map, List.append_eq, List.range_zero, List.cons_append, List.nil_append, Nat.one_ne_zero, implies_true, hge, hki, hpk, opA, hwk, hli, hp, ndA, hidd]) | refine aw_seq ?_ | refine aw_block ?_ | refine aw_scope ?_ | (refine aw_cond rfl (fun h => ?_) (fun h => ?_) <;> try (exfalso; first | (simp at h; done) | (simp at h; omega))) | ((with_reducible refine And.intro ?_ ?_); focus (first | omega | (intros; simp_all; done) | (simp; omega)))
                exact ⟨(k, _, last, data, mv), ⟨by simp only; omega, r1' _, pre_app rQ _, hs1⟩, Nat.lt_succ_self _, ⟨rfl, rfl, rfl⟩, rfl⟩
          · have hk00 : k = 0 := by omega
            subst hk00
            obtain ⟨e1, e2, e3⟩ := hend n last data mv hsc hn
            subst e3
            repeat' first | ((first | refine callP_false (.bool false) ?_ | refine aw_region rfl ?_ | refine aw_region_draw mixedF rfl (by kernel_rfl) ?_ | refine aw_ret ?_ | refine aw_skip ?_ | refine aw_exit ?_ | refine aw_label ?_); simp only [go_sem, aopsK, aopsG, aopsPK, aopsPG, aopsMK, aopsMG, aopsN, TypeDesc.isAgg, ↓reduceIte, Nat.reduceEqDiff, Nat.reduceAdd, Nat.reduceSub, Nat.reduceMul, Nat.reduceLeDiff, Nat.reduceLT, Nat.reduceBEq, Int.reduceNeg, Int.reduceLE, Int.reduceLT, Int.reduceToNat, String.reduceEq, Option.isSome_some, Option.isSome_none, Bool.false_eq_true, Bool.true_eq_false, not_true_eq_false, not_false_eq_true, true_and, and_true, and_self, List.getElem?_toArray, List.getElem?_cons_zero, List.getElem?_cons_succ, List.getElem?_nil, List.length_map, List.append_eq, List.range_zero, List.cons_append, List.nil_append, Nat.one_ne_zero, implies_true]) | refine aw_seq ?_ | refine aw_block ?_ | refine aw_scope ?_ | (refine aw_cond rfl (fun h => ?_) (fun h => ?_) <;> try (exfalso; first | (simp at h; done) | (simp at h; omega))) | ((with_reducible refine And.intro ?_ ?_); focus (first | omega | (intros; simp_all; done) | (simp; omega)))
            exact ⟨(Y, last, data), ⟨r1, rQ, e1, e2⟩, rfl, rfl⟩
      · rintro ⟨Y, last, data⟩ ⟨r1, rQ, e1, e2⟩
        simp only at r1 rQ e1 e2 ⊢
        have hI : ∀ x : Int, decide (x = x) = true := fun x => decide_eq_true rfl
        have hT : ∀ x : Txt, decide (x = x) = true := fun x => decide_eq_true rfl
        rw [← e1] at r1
        subst e2
        repeat' first | ((first | refine callP_false (.bool false) ?_ | refine aw_region rfl ?_ | refine aw_region_draw mixedF rfl (by kernel_rfl) ?_ | refine aw_ret ?_ | refine aw_skip ?_ | refine aw_exit ?_ | refine aw_label ?_); simp only [go_sem, aopsK, aopsG, aopsPK, aopsPG, aopsMK, aopsMG, aopsN, TypeDesc.isAgg, ↓reduceIte, Nat.reduceEqDiff, Nat.reduceAdd, Nat.reduceSub, Nat.reduceMul, Nat.reduceLeDiff, Nat.reduceLT, Nat.reduceBEq, Int.reduceNeg, Int.reduceLE, Int.reduceLT, Int.reduceToNat, String.reduceEq, Option.isSome_some, Option.isSome_none, Bool.false_eq_true, Bool.true_eq_false, not_true_eq_false, not_false_eq_true, true_and, and_true, and_self, List.getElem?_toArray, List.getElem?_cons_zero, List.getElem?_cons_succ, List.getElem?_nil, List.length_map, List.append_eq, List.range_zero, List.cons_append, List.nil_append, Nat.one_ne_zero, implies_true, hli, hp, ndA, r1, hI, hT]) | refine aw_seq ?_ | refine aw_block ?_ | refine aw_scope ?_ | (refine aw_cond rfl (fun h => ?_) (fun h => ?_) <;> try (exfalso; first | (simp at h; done) | (simp at h; omega))) | ((with_reducible refine And.intro ?_ ?_); focus (first | omega | (intros; simp_all; done) | (simp; omega)))
        obtain ⟨M, hM⟩ := rQ
        exact ⟨(i + 1, Y), ⟨hlt, by simp only; rw [hM]; exact pre_app rP M⟩, by simp only; omega, congrArg _ (wrap_succ hlt (by omega)), rfl⟩
    · have hie : i = L.length := by omega
      have hli : decide ((i : Int) < (L.length : Int)) = false := decide_eq_false (by omega)
      repeat' first | ((first | refine callP_false (.bool false) ?_ | refine aw_region rfl ?_ | refine aw_region_draw mixedF rfl (by kernel_rfl) ?_ | refine aw_ret ?_ | refine aw_skip ?_ | refine aw_exit ?_ | refine aw_label ?_); simp only [go_sem, aopsK, aopsG, aopsPK, aopsPG, aopsMK, aopsMG, aopsN, TypeDesc.isAgg, ↓reduceIte, Nat.reduceEqDiff, Nat.reduceAdd, Nat.reduceSub, Nat.reduceMul, Nat.reduceLeDiff, Nat.reduceLT, Nat.reduceBEq, Int.reduceNeg, Int.reduceLE, Int.reduceLT, Int.reduceToNat, String.reduceEq, Option.isSome_some, Option.isSome_none, Bool.false_eq_true, Bool.true_eq_false, not_true_eq_false, not_false_eq_true, true_and, and_true, and_self, List.getElem?_toArray, List.getElem?_cons_zero, List.getElem?_cons_succ, List.getElem?_nil, List.length_map, List.append_eq, List.range_zero, List.cons_append, List.nil_append, Nat.one_ne_zero, implies_true, hli]) | refine aw_seq ?_ | refine aw_block ?_ | refine aw_scope ?_ | (refine aw_cond rfl (fun h => ?_) (fun h => ?_) <;> try (exfalso; first | (simp at h; done) | (simp at h; omega))) | ((with_reducible refine And.intro ?_ ?_); focus (first | omega | (intros; simp_all; done) | (simp; omega)))
      obtain ⟨M, hM⟩ := rP
      exact doneG0 hM.symm (by simp only [pur_int, pur_bool, pur_str, pur_agg, pur_tup, pur_sl, pur_iface, pur_nilI, List.mem_cons, List.not_mem_nil, false_implies, forall_eq_or_imp, List.mem_map, forall_exists_index, and_imp, forall_apply_eq_imp_iff₂, or_false, forall_eq, implies_true, and_self, and_true, true_and, Go.Gw.stA, Go.Gw.opA, Go.Gw.ndA, Go.Gw.unA, Go.Gw.enA, Go.Gw.inA, Go.Gw.lgF, Go.Gw.lgA]) (.refl _)
end Go.Proofs.Ytoffonjlfomnbaa

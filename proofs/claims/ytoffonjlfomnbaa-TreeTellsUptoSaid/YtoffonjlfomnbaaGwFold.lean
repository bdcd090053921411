/- What operations make: the program's Fold. No condition but the length of what comes in. -/
import Derived.Test.YtoffonjlfomnbaaSrt3
import Derived.Test.YtoffonjlfomnbaaGwMerge4
namespace Go.Proofs.Ytoffonjlfomnbaa
open Go Go.Aw Go.Gw Go.Srt
set_option linter.unusedSimpArgs false
set_option maxRecDepth 20000
set_option maxHeartbeats 4000000

theorem opless_o (a b : Opn) (H : AHeap) : FnC Try.prog 75 [opA a, opA b] H (.bool (oLess a b)) := opless_c a b H
def cmpO (a b : Opn) : Int := if oLess a b = true then -1 else if oLess b a = true then 1 else 0
theorem cmpO_lt (a b : Opn) : decide (cmpO a b < 0) = oLess a b := by
  unfold cmpO
  cases h1 : oLess a b with
  | true => rfl
  | false => cases h2 : oLess b a <;> rfl
theorem cmpO_c (a b : Opn) (H : AHeap) : FnC Try.prog 74 [opA a, opA b] H (.int .i64 (cmpO a b)) := by
  refine fnC_of Try.func74 rfl (Nat.le_of_ble_eq_true rfl) ?_
  have h1 := opless_o a b
  have h2 := opless_o b a
  simp only [opA] at h1 h2 ⊢
  cases e1 : oLess a b with
  | true =>
    rw [e1] at h1
    have e : cmpO a b = -1 := by rw [cmpO, if_pos e1]
    repeat' first | ((first | refine callK_fn (h1 _) callOk75F ?_ | refine callP_fn (h1 _) callOk75F ?_ | refine callM_fn (fun _ => h1 _) callOk75F ?_ | refine callP_false (.bool false) ?_ | refine aw_region rfl ?_ | refine aw_region_draw mixedF rfl (by kernel_rfl) ?_ | refine aw_ret ?_ | refine aw_skip ?_ | refine aw_exit ?_ | refine aw_label ?_); simp only [go_sem, ↓reduceIte, Nat.reduceEqDiff, Nat.reduceAdd, Nat.reduceSub, Nat.reduceMul, Nat.reduceLeDiff, Nat.reduceLT, Nat.reduceBEq, Int.reduceNeg, Int.reduceLE, Int.reduceLT, Int.reduceToNat, String.reduceEq]) | refine aw_seq ?_ | refine aw_block ?_ | refine aw_scope ?_ | (refine aw_cond rfl (fun h => ?_) (fun h => ?_) <;> try (exfalso; first | (simp at h; done) | (simp at h; omega))) | ((with_reducible refine And.intro ?_ ?_); focus (first | omega | (intros; simp_all; done) | (simp; omega)))
    rw [e]; exact done (by simp only [pur_int, pur_bool, pur_str, pur_agg, pur_tup, pur_sl, pur_iface, pur_nilI, List.mem_cons, List.not_mem_nil, false_implies, forall_eq_or_imp, List.mem_map, forall_exists_index, and_imp, forall_apply_eq_imp_iff₂, or_false, forall_eq, implies_true, and_self, and_true, true_and, Go.Gw.stA, Go.Gw.opA, Go.Gw.ndA, Go.Gw.unA, Go.Gw.enA, Go.Gw.inA, Go.Gw.lgF, Go.Gw.lgA]) (.refl _)
  | false =>
    rw [e1] at h1
    cases e2 : oLess b a with
    | true =>
      rw [e2] at h2
      have e : cmpO a b = 1 := by rw [cmpO, if_neg (by rw [e1]; decide), if_pos e2]
      repeat' first | ((first | refine callK_fn (h1 _) callOk75F ?_ | refine callP_fn (h1 _) callOk75F ?_ | refine callM_fn (fun _ => h1 _) callOk75F ?_ | refine callK_fn (h2 _) callOk75F ?_ | refine callP_fn (h2 _) callOk75F ?_ | refine callM_fn (fun _ => h2 _) callOk75F ?_ | refine callP_false (.bool false) ?_ | refine aw_region rfl ?_ | refine aw_region_draw mixedF rfl (by kernel_rfl) ?_ | refine aw_ret ?_ | refine aw_skip ?_ | refine aw_exit ?_ | refine aw_label ?_); simp only [go_sem, ↓reduceIte, Nat.reduceEqDiff, Nat.reduceAdd, Nat.reduceSub, Nat.reduceMul, Nat.reduceLeDiff, Nat.reduceLT, Nat.reduceBEq, Int.reduceNeg, Int.reduceLE, Int.reduceLT, Int.reduceToNat, String.reduceEq]) | refine aw_seq ?_ | refine aw_block ?_ | refine aw_scope ?_ | (refine aw_cond rfl (fun h => ?_) (fun h => ?_) <;> try (exfalso; first | (simp at h; done) | (simp at h; omega))) | ((with_reducible refine And.intro ?_ ?_); focus (first | omega | (intros; simp_all; done) | (simp; omega)))
      rw [e]; exact done (by simp only [pur_int, pur_bool, pur_str, pur_agg, pur_tup, pur_sl, pur_iface, pur_nilI, List.mem_cons, List.not_mem_nil, false_implies, forall_eq_or_imp, List.mem_map, forall_exists_index, and_imp, forall_apply_eq_imp_iff₂, or_false, forall_eq, implies_true, and_self, and_true, true_and, Go.Gw.stA, Go.Gw.opA, Go.Gw.ndA, Go.Gw.unA, Go.Gw.enA, Go.Gw.inA, Go.Gw.lgF, Go.Gw.lgA]) (.refl _)
    | false =>
      rw [e2] at h2
      have e : cmpO a b = 0 := by rw [cmpO, if_neg (by rw [e1]; decide), if_neg (by rw [e2]; decide)]
      repeat' first | ((first | refine callK_fn (h1 _) callOk75F ?_ | refine callP_fn (h1 _) callOk75F ?_ | refine callM_fn (fun _ => h1 _) callOk75F ?_ | refine callK_fn (h2 _) callOk75F ?_ | refine callP_fn (h2 _) callOk75F ?_ | refine callM_fn (fun _ => h2 _) callOk75F ?_ | refine callP_false (.bool false) ?_ | refine aw_region rfl ?_ | refine aw_region_draw mixedF rfl (by kernel_rfl) ?_ | refine aw_ret ?_ | refine aw_skip ?_ | refine aw_exit ?_ | refine aw_label ?_); simp only [go_sem, ↓reduceIte, Nat.reduceEqDiff, Nat.reduceAdd, Nat.reduceSub, Nat.reduceMul, Nat.reduceLeDiff, Nat.reduceLT, Nat.reduceBEq, Int.reduceNeg, Int.reduceLE, Int.reduceLT, Int.reduceToNat, String.reduceEq]) | refine aw_seq ?_ | refine aw_block ?_ | refine aw_scope ?_ | (refine aw_cond rfl (fun h => ?_) (fun h => ?_) <;> try (exfalso; first | (simp at h; done) | (simp at h; omega))) | ((with_reducible refine And.intro ?_ ?_); focus (first | omega | (intros; simp_all; done) | (simp; omega)))
      rw [e]; exact done (by simp only [pur_int, pur_bool, pur_str, pur_agg, pur_tup, pur_sl, pur_iface, pur_nilI, List.mem_cons, List.not_mem_nil, false_implies, forall_eq_or_imp, List.mem_map, forall_exists_index, and_imp, forall_apply_eq_imp_iff₂, or_false, forall_eq, implies_true, and_self, and_true, true_and, Go.Gw.stA, Go.Gw.opA, Go.Gw.ndA, Go.Gw.unA, Go.Gw.enA, Go.Gw.inA, Go.Gw.lgF, Go.Gw.lgA]) (.refl _)
theorem eqO_c (a b : Opn) (H : AHeap) : FnC Try.prog 77 [opA a, opA b] H (.bool (decide (a.at_ = b.at_))) := by
  refine fnC_of Try.func77 rfl (Nat.le_of_ble_eq_true rfl) ?_
  simp only [opA, ← stm_eq]
  repeat' first | ((first | refine callP_false (.bool false) ?_ | refine aw_region rfl ?_ | refine aw_region_draw mixedF rfl (by kernel_rfl) ?_ | refine aw_ret ?_ | refine aw_skip ?_ | refine aw_exit ?_ | refine aw_label ?_); simp only [go_sem, ↓reduceIte, Nat.reduceEqDiff, Nat.reduceAdd, Nat.reduceSub, Nat.reduceMul, Nat.reduceLeDiff, Nat.reduceLT, Nat.reduceBEq, Int.reduceNeg, Int.reduceLE, Int.reduceLT, Int.reduceToNat, String.reduceEq]) | refine aw_seq ?_ | refine aw_block ?_ | refine aw_scope ?_ | (refine aw_cond rfl (fun h => ?_) (fun h => ?_) <;> try (exfalso; first | (simp at h; done) | (simp at h; omega))) | ((with_reducible refine And.intro ?_ ?_); focus (first | omega | (intros; simp_all; done) | (simp; omega)))
  exact done (by simp only [pur_int, pur_bool, pur_str, pur_agg, pur_tup, pur_sl, pur_iface, pur_nilI, List.mem_cons, List.not_mem_nil, false_implies, forall_eq_or_imp, List.mem_map, forall_exists_index, and_imp, forall_apply_eq_imp_iff₂, or_false, forall_eq, implies_true, and_self, and_true, true_and, Go.Gw.stA, Go.Gw.opA, Go.Gw.ndA, Go.Gw.unA, Go.Gw.enA, Go.Gw.inA, Go.Gw.lgF, Go.Gw.lgA]) (.refl _)
theorem cmpO_C : CmpC Try.prog (.func (.func 74) [] []) cmpO := fun a b H => ⟨callOk74F, cmpO_c a b H⟩
theorem eqO_C : TestC Try.prog (.func (.func 77) [] []) (fun a b => decide (a.at_ = b.at_)) := fun a b H => ⟨callOk77F, eqO_c a b H⟩

theorem fold_c (b : Bool) (l : List Opn) (hs : ∀ o ∈ l, OpS o) (hn : l.length ≤ 1000000) (H : AHeap) : FnC Try.prog 46 [.sl b (l.map opA)] H (.sl false ((foldL l).map ndA)) := by
  refine fnC_of Try.func46 rfl (Nat.le_of_ble_eq_true rfl) ?_
  repeat' first | ((first | refine callP_false (.bool false) ?_ | refine aw_region rfl ?_ | refine aw_region_draw mixedF rfl (by kernel_rfl) ?_ | refine aw_ret ?_ | refine aw_skip ?_ | refine aw_exit ?_ | refine aw_label ?_); simp only [go_sem, ↓reduceIte, Nat.reduceEqDiff, Nat.reduceAdd, Nat.reduceSub, Nat.reduceMul, Nat.reduceLeDiff, Nat.reduceLT, Nat.reduceBEq, Int.reduceNeg, Int.reduceLE, Int.reduceLT, Int.reduceToNat, String.reduceEq]) | refine aw_seq ?_ | refine aw_block ?_ | refine aw_scope ?_ | (refine aw_cond rfl (fun h => ?_) (fun h => ?_) <;> try (exfalso; first | (simp at h; done) | (simp at h; omega))) | ((with_reducible refine And.intro ?_ ?_); focus (first | omega | (intros; simp_all; done) | (simp; omega)))
  refine aw_void 3 7 rfl ?_
  refine aw_cutB (ι := AHeap × Nat) (fun x => [(3, .osl 7 H.length x.2 0 (l.filter opOk).length (l.filter opOk).length)]) (fun x => x.1) (fun x => hget x.1 H.length = .cells x.2 (fl (l.filter opOk)) ∧ x.2 ≠ 0 ∧ ∃ M, x.1 = H ++ M) ?_ ?_
  · refine aw_loopS (ι := Nat × AHeap × Nat) (fun x => [(3, .osl 7 H.length x.2.2 0 ((l.take x.1).filter opOk).length ((l.take x.1).filter opOk).length), (9, .sl b (l.map opA)), (10, .int .i64 l.length), (11, .int .i64 x.1)])
      (fun x => x.2.1) (fun x => x.1 ≤ l.length ∧ hget x.2.1 H.length = .cells x.2.2 (fl ((l.take x.1).filter opOk)) ∧ x.2.2 ≠ 0 ∧ ∃ M, x.2.1 = H ++ M) (fun x => l.length - x.1) (0, H ++ [.cells 1 []], 1) ⟨Nat.zero_le _, by simp only [go_sem, ↓reduceIte, Nat.reduceEqDiff, Nat.reduceAdd, Nat.reduceSub, Nat.reduceMul, Nat.reduceLeDiff, Nat.reduceLT, Nat.reduceBEq, Int.reduceNeg, Int.reduceLE, Int.reduceLT, Int.reduceToNat, String.reduceEq]; rfl, Nat.one_ne_zero, ⟨_, rfl⟩⟩ ?_ rfl ?_
    · simp [go_sem]
    · rintro ⟨i, X, ver⟩ ⟨hi, r1, rv, rP⟩
      simp only at hi r1 rv rP ⊢
      have hX1 : H.length < X.length := hget_lt r1 trivial
      have r1' := fun M => hget_appL r1 trivial M
      have qs := fun M b => hset_appL hX1 M b
      by_cases hlt : i < l.length
      · have hp := getD_map opA hlt
        have hli : decide ((i : Int) < (l.length : Int)) = true := decide_eq_true (by omega)
        have htk : l.take (i + 1) = l.take i ++ [l[i]] := List.take_succ_eq_append_getElem hlt
        have hck := opOk_c l[i] (hs _ (List.getElem_mem hlt))
        have hfl := List.length_filter_le opOk (l.take i)
        rw [List.length_take] at hfl
        have hf : (l.take (i + 1)).filter opOk = (l.take i).filter opOk ++ (if opOk l[i] = true then [l[i]] else []) := by
          rw [htk, List.filter_append]; cases h : opOk l[i] <;> simp [h]
        have hcl := fl_len ((l.take i).filter opOk)
        simp only [opA] at hck
        generalize l[i] = o at *
        generalize hF : (l.take i).filter opOk = F at *
        cases hok : opOk o with
        | false =>
          rw [hok] at hck
          rw [hok, if_neg (by decide), List.append_nil] at hf
          repeat' first | ((first | refine callK_fn (hck _) callOk30F ?_ | refine callP_fn (hck _) callOk30F ?_ | refine callM_fn (fun _ => hck _) callOk30F ?_ | refine callP_false (.bool false) ?_ | refine aw_region rfl ?_ | refine aw_region_draw mixedF rfl (by kernel_rfl) ?_ | refine aw_ret ?_ | refine aw_skip ?_ | refine aw_exit ?_ | refine aw_label ?_); simp only [go_sem, ↓reduceIte, Nat.reduceEqDiff, Nat.reduceAdd, Nat.reduceSub, Nat.reduceMul, Nat.reduceLeDiff, Nat.reduceLT, Nat.reduceBEq, Int.reduceNeg, Int.reduceLE, Int.reduceLT, Int.reduceToNat, String.reduceEq, hp, opA, hli]) | refine aw_seq ?_ | refine aw_block ?_ | refine aw_scope ?_ | (refine aw_cond rfl (fun h => ?_) (fun h => ?_) <;> try (exfalso; first | (simp at h; done) | (simp at h; omega))) | ((with_reducible refine And.intro ?_ ?_); focus (first | omega | (intros; simp_all; done) | (simp; omega)))
          exact ⟨(i + 1, _, ver), ⟨hlt, by simp only; rw [hf]; exact r1' _, rv, pre_app rP _⟩, by simp only; omega, ⟨by simp only [hf], congrArg _ (wrap_succ hlt (by omega))⟩, rfl⟩
        | true =>
          rw [hok] at hck
          rw [hok, if_pos rfl] at hf
          repeat' first | ((first | refine callK_fn (hck _) callOk30F ?_ | refine callP_fn (hck _) callOk30F ?_ | refine callM_fn (fun _ => hck _) callOk30F ?_ | refine callP_false (.bool false) ?_ | refine aw_region rfl ?_ | refine aw_region_draw mixedF rfl (by kernel_rfl) ?_ | refine aw_ret ?_ | refine aw_skip ?_ | refine aw_exit ?_ | refine aw_label ?_); simp only [go_sem, ↓reduceIte, Nat.reduceEqDiff, Nat.reduceAdd, Nat.reduceSub, Nat.reduceMul, Nat.reduceLeDiff, Nat.reduceLT, Nat.reduceBEq, Int.reduceNeg, Int.reduceLE, Int.reduceLT, Int.reduceToNat, String.reduceEq, hp, opA, hli, r1', qs, hcl]) | refine aw_seq ?_ | refine aw_block ?_ | refine aw_scope ?_ | (refine aw_cond rfl (fun h => ?_) (fun h => ?_) <;> try (exfalso; first | (simp at h; done) | (simp at h; omega))) | ((with_reducible refine And.intro ?_ ?_); focus (first | omega | (intros; simp_all; done) | (simp; omega)))
          refine ⟨⟨rv, fun e he => by rw [he]; rfl, by omega⟩, ?_⟩
          repeat' first | ((first | refine callP_false (.bool false) ?_ | refine aw_region rfl ?_ | refine aw_region_draw mixedF rfl (by kernel_rfl) ?_ | refine aw_ret ?_ | refine aw_skip ?_ | refine aw_exit ?_ | refine aw_label ?_); simp only [go_sem, ↓reduceIte, Nat.reduceEqDiff, Nat.reduceAdd, Nat.reduceSub, Nat.reduceMul, Nat.reduceLeDiff, Nat.reduceLT, Nat.reduceBEq, Int.reduceNeg, Int.reduceLE, Int.reduceLT, Int.reduceToNat, String.reduceEq]) | refine aw_seq ?_ | refine aw_block ?_ | refine aw_scope ?_ | (refine aw_cond rfl (fun h => ?_) (fun h => ?_) <;> try (exfalso; first | (simp at h; done) | (simp at h; omega))) | ((with_reducible refine And.intro ?_ ?_); focus (first | omega | (intros; simp_all; done) | (simp; omega)))
          refine ⟨(i + 1, _, ver + 1), ⟨hlt, ?_, Nat.succ_ne_zero _, pre_app (pre_set rP (Nat.le_refl _) _) _⟩, by simp only; omega, ⟨by simp only [hf, List.length_append, List.length_singleton], congrArg _ (wrap_succ hlt (by omega))⟩, rfl⟩
          simp only
          rw [hf, fl_app]
          exact hget_appL (b := .cells (ver + 1) (fl F ++ fl [o])) (hget_set_eq hX1 _) trivial _
      · have hie : i = l.length := by omega
        have hli : decide ((i : Int) < (l.length : Int)) = false := decide_eq_false (by omega)
        rw [hie, List.take_length] at r1 ⊢
        rw [hie] at hli
        repeat' first | ((first | refine callP_false (.bool false) ?_ | refine aw_region rfl ?_ | refine aw_region_draw mixedF rfl (by kernel_rfl) ?_ | refine aw_ret ?_ | refine aw_skip ?_ | refine aw_exit ?_ | refine aw_label ?_); simp only [go_sem, ↓reduceIte, Nat.reduceEqDiff, Nat.reduceAdd, Nat.reduceSub, Nat.reduceMul, Nat.reduceLeDiff, Nat.reduceLT, Nat.reduceBEq, Int.reduceNeg, Int.reduceLE, Int.reduceLT, Int.reduceToNat, String.reduceEq, hli]) | refine aw_seq ?_ | refine aw_block ?_ | refine aw_scope ?_ | (refine aw_cond rfl (fun h => ?_) (fun h => ?_) <;> try (exfalso; first | (simp at h; done) | (simp at h; omega))) | ((with_reducible refine And.intro ?_ ?_); focus (first | omega | (intros; simp_all; done) | (simp; omega)))
        exact ⟨(X, ver), ⟨r1, rv, rP⟩, rfl, rfl⟩
  · rintro ⟨X, ver⟩ ⟨r1, rv, rP⟩
    simp only at r1 rv rP ⊢
    have hfl := List.length_filter_le opOk l
    repeat' first | ((first | refine callP_false (.bool false) ?_ | refine aw_region rfl ?_ | refine aw_region_draw mixedF rfl (by kernel_rfl) ?_ | refine aw_ret ?_ | refine aw_skip ?_ | refine aw_exit ?_ | refine aw_label ?_); simp only [go_sem, ↓reduceIte, Nat.reduceEqDiff, Nat.reduceAdd, Nat.reduceSub, Nat.reduceMul, Nat.reduceLeDiff, Nat.reduceLT, Nat.reduceBEq, Int.reduceNeg, Int.reduceLE, Int.reduceLT, Int.reduceToNat, String.reduceEq]) | refine aw_seq ?_ | refine aw_block ?_ | refine aw_scope ?_ | (refine aw_cond rfl (fun h => ?_) (fun h => ?_) <;> try (exfalso; first | (simp at h; done) | (simp at h; omega))) | ((with_reducible refine And.intro ?_ ?_); focus (first | omega | (intros; simp_all; done) | (simp; omega)))
    refine callK_of (sortS_c oLess_swo cmpO_lt _ _ _ cmpO_C H.length ver _ _ (by omega) (l.filter opOk) rfl X r1) callOk73F ?_
    rintro r H' ⟨rfl, S, s1, s2, rfl⟩
    simp only [go_sem, ↓reduceIte, Nat.reduceEqDiff, Nat.reduceAdd, Nat.reduceSub, Nat.reduceMul, Nat.reduceLeDiff, Nat.reduceLT, Nat.reduceBEq, Int.reduceNeg, Int.reduceLE, Int.reduceLT, Int.reduceToNat, String.reduceEq]
    repeat' first | ((first | refine callP_false (.bool false) ?_ | refine aw_region rfl ?_ | refine aw_region_draw mixedF rfl (by kernel_rfl) ?_ | refine aw_ret ?_ | refine aw_skip ?_ | refine aw_exit ?_ | refine aw_label ?_); simp only [go_sem, ↓reduceIte, Nat.reduceEqDiff, Nat.reduceAdd, Nat.reduceSub, Nat.reduceMul, Nat.reduceLeDiff, Nat.reduceLT, Nat.reduceBEq, Int.reduceNeg, Int.reduceLE, Int.reduceLT, Int.reduceToNat, String.reduceEq]) | refine aw_seq ?_ | refine aw_block ?_ | refine aw_scope ?_ | (refine aw_cond rfl (fun h => ?_) (fun h => ?_) <;> try (exfalso; first | (simp at h; done) | (simp at h; omega))) | ((with_reducible refine And.intro ?_ ?_); focus (first | omega | (intros; simp_all; done) | (simp; omega)))
    have sl := s1.1
    rw [← sl]
    refine callK_of (compact_c _ rfl eqO_C H.length ver _ _ (Nat.le_refl _) (by omega) S rfl _ (hget_of r1 trivial _)) callOk76F ?_
    rintro r H' ⟨rfl, rest, rfl⟩
    have hcr := cpt_rSort s1 s2
    have hcl := cpt_len S
    rw [hcr] at hcl
    simp only [go_sem, ↓reduceIte, Nat.reduceEqDiff, Nat.reduceAdd, Nat.reduceSub, Nat.reduceMul, Nat.reduceLeDiff, Nat.reduceLT, Nat.reduceBEq, Int.reduceNeg, Int.reduceLE, Int.reduceLT, Int.reduceToNat, String.reduceEq, hcr]
    generalize hX : hset (hset X H.length (.cells ver (fl S))) H.length (.cells ver (fl (rSort l) ++ rest)) = Z
    have rZ : hget Z H.length = .cells ver (fl (rSort l) ++ rest) := by rw [← hX, hset_set]; exact hget_of r1 trivial _
    have hZP : ∃ M, Z = H ++ M := by rw [← hX]; exact pre_set (pre_set rP (Nat.le_refl _) _) (Nat.le_refl _) _
    refine aw_freezeR [3] ((rSort l).map opA) rest (v := ver) (lc := S.length) (i := H.length) (s := 7) (cs := fl (rSort l) ++ rest) (by intro t ht; simp only [List.mem_singleton] at ht; subst ht; rw [List.length_map]; first | rfl | simp only [go_sem, ↓reduceIte, Nat.reduceEqDiff, Nat.reduceAdd, Nat.reduceSub, Nat.reduceMul, Nat.reduceLeDiff, Nat.reduceLT, Nat.reduceBEq, Int.reduceNeg, Int.reduceLE, Int.reduceLT, Int.reduceToNat, String.reduceEq]) rZ rv rfl (cells_op _) ?_
    have hops : ∀ o ∈ rSort l, OpS o := fun o ho => by
      have := ((rSort_mem l).2 o).1 ho
      exact hs o (List.mem_filter.1 (List.mem_of_find?_eq_some this)).1
    have hfold : foldL l = (rSort l).foldl doL [] := rfl
    rw [hfold]
    have hZP2 := pre_set hZP (Nat.le_refl _) .gone
    generalize hset Z H.length .gone = X2 at *
    generalize rSort l = R at *
    repeat' first | ((first | refine callP_false (.bool false) ?_ | refine aw_region rfl ?_ | refine aw_region_draw mixedF rfl (by kernel_rfl) ?_ | refine aw_ret ?_ | refine aw_skip ?_ | refine aw_exit ?_ | refine aw_label ?_); simp only [go_sem, ↓reduceIte, Nat.reduceEqDiff, Nat.reduceAdd, Nat.reduceSub, Nat.reduceMul, Nat.reduceLeDiff, Nat.reduceLT, Nat.reduceBEq, Int.reduceNeg, Int.reduceLE, Int.reduceLT, Int.reduceToNat, String.reduceEq]) | refine aw_seq ?_ | refine aw_block ?_ | refine aw_scope ?_ | (refine aw_cond rfl (fun h => ?_) (fun h => ?_) <;> try (exfalso; first | (simp at h; done) | (simp at h; omega))) | ((with_reducible refine And.intro ?_ ?_); focus (first | omega | (intros; simp_all; done) | (simp; omega)))
    refine aw_loopS (ι := Nat × AHeap × Bool) (fun x => [(6, .sl x.2.2 (((R.take x.1).foldl doL []).map ndA)), (26, .sl false (R.map opA)), (27, .int .i64 R.length), (28, .int .i64 x.1)])
      (fun x => x.2.1) (fun x => x.1 ≤ R.length ∧ ∃ M, x.2.1 = H ++ M) (fun x => R.length - x.1) (0, X2, true) ⟨Nat.zero_le _, hZP2⟩ ?_ rfl ?_
    · simp [go_sem]
    · rintro ⟨i, Y, f⟩ ⟨hi, hP⟩
      simp only at hi hP ⊢
      by_cases hlt : i < R.length
      · have hp := getD_map opA hlt
        have hli : decide ((i : Int) < (R.length : Int)) = true := decide_eq_true (by omega)
        have htk : R.take (i + 1) = R.take i ++ [R[i]] := List.take_succ_eq_append_getElem hlt
        have hfl2 := foldl_len (R.take i) []
        rw [List.length_take, List.length_nil] at hfl2
        have hdo := do_c f ((R.take i).foldl doL []) R[i] (hops _ (List.getElem_mem hlt)) (by omega)
        have hF : (R.take (i + 1)).foldl doL [] = doL ((R.take i).foldl doL []) R[i] := by rw [htk, List.foldl_append]; rfl
        generalize R[i] = o at *
        generalize (R.take i).foldl doL [] = nn at *
        simp only [opA, unA] at hdo
        repeat' first | ((first | refine callK_fn (hdo _) callOk34F ?_ | refine callP_fn (hdo _) callOk34F ?_ | refine callM_fn (fun _ => hdo _) callOk34F ?_ | refine callP_false (.bool false) ?_ | refine aw_region rfl ?_ | refine aw_region_draw mixedF rfl (by kernel_rfl) ?_ | refine aw_ret ?_ | refine aw_skip ?_ | refine aw_exit ?_ | refine aw_label ?_); simp only [go_sem, ↓reduceIte, Nat.reduceEqDiff, Nat.reduceAdd, Nat.reduceSub, Nat.reduceMul, Nat.reduceLeDiff, Nat.reduceLT, Nat.reduceBEq, Int.reduceNeg, Int.reduceLE, Int.reduceLT, Int.reduceToNat, String.reduceEq, hp, opA, hli]) | refine aw_seq ?_ | refine aw_block ?_ | refine aw_scope ?_ | (refine aw_cond rfl (fun h => ?_) (fun h => ?_) <;> try (exfalso; first | (simp at h; done) | (simp at h; omega))) | ((with_reducible refine And.intro ?_ ?_); focus (first | omega | (intros; simp_all; done) | (simp; omega)))
        exact ⟨(i + 1, _, false), ⟨hlt, pre_app hP _⟩, by simp only; omega, ⟨by simp only [hF], congrArg _ (wrap_succ hlt (by omega))⟩, rfl⟩
      · have hie : i = R.length := by omega
        subst hie
        have hli : decide ((R.length : Int) < (R.length : Int)) = false := by simp
        rw [List.take_length]
        repeat' first | ((first | refine callP_false (.bool false) ?_ | refine aw_region rfl ?_ | refine aw_region_draw mixedF rfl (by kernel_rfl) ?_ | refine aw_ret ?_ | refine aw_skip ?_ | refine aw_exit ?_ | refine aw_label ?_); simp only [go_sem, ↓reduceIte, Nat.reduceEqDiff, Nat.reduceAdd, Nat.reduceSub, Nat.reduceMul, Nat.reduceLeDiff, Nat.reduceLT, Nat.reduceBEq, Int.reduceNeg, Int.reduceLE, Int.reduceLT, Int.reduceToNat, String.reduceEq, hli]) | refine aw_seq ?_ | refine aw_block ?_ | refine aw_scope ?_ | (refine aw_cond rfl (fun h => ?_) (fun h => ?_) <;> try (exfalso; first | (simp at h; done) | (simp at h; omega))) | ((with_reducible refine And.intro ?_ ?_); focus (first | omega | (intros; simp_all; done) | (simp; omega)))
        obtain ⟨M, hM⟩ := hP
        subst hM
        exact done (by simp only [pur_int, pur_bool, pur_str, pur_agg, pur_tup, pur_sl, pur_iface, pur_nilI, List.mem_cons, List.not_mem_nil, false_implies, forall_eq_or_imp, List.mem_map, forall_exists_index, and_imp, forall_apply_eq_imp_iff₂, or_false, forall_eq, implies_true, and_self, and_true, true_and, Go.Gw.stA, Go.Gw.opA, Go.Gw.ndA, Go.Gw.unA, Go.Gw.enA, Go.Gw.inA, Go.Gw.lgF, Go.Gw.lgA]) (.sl _ _)
end Go.Proofs.Ytoffonjlfomnbaa

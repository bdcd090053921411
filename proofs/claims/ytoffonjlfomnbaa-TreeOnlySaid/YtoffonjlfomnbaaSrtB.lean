/- Sorting of operations in memory: ranges that change places. No condition. -/
import Derived.Test.YtoffonjlfomnbaaSrtA
namespace Go.Proofs.Ytoffonjlfomnbaa
open Go Go.Aw Go.Gw Go.Srt
set_option linter.unusedSimpArgs false
set_option maxRecDepth 20000
set_option maxHeartbeats 2000000

theorem swapR_c (X U M V Y : List Opn) (hUV : U.length = V.length) (fn : AV) (H : AHeap) (blk v lc : Nat) (hh : hget H blk = .cells v (fl (X ++ (U ++ (M ++ (V ++ Y)))))) (hl : (X ++ (U ++ (M ++ (V ++ Y)))).length ≤ 1000000000) :
    ACalls Try.prog 99 [.osl 7 blk v 0 (X ++ (U ++ (M ++ (V ++ Y)))).length lc, .int .i64 X.length, .int .i64 (X.length + (U.length + M.length) : Nat), .int .i64 U.length, fn] H
      (fun r H' => r = .tup [] ∧ H' = hset H blk (.cells v (fl (X ++ (V ++ (M ++ (U ++ Y))))))) := by
  refine acalls_of Try.func99 rfl (Nat.le_of_ble_eq_true rfl) ?_
  have hset1 := fun b => hget_of hh trivial b
  have hset2 := hset_set H blk
  generalize hn : (X ++ (U ++ (M ++ (V ++ Y)))).length = n at *
  simp only [List.length_append] at hn
  repeat' first | ((first | refine callP_false (.bool false) ?_ | refine aw_region rfl ?_ | refine aw_region_draw mixedF rfl (by kernel_rfl) ?_ | refine aw_ret ?_ | refine aw_skip ?_ | refine aw_exit ?_ | refine aw_label ?_); simp only [go_sem, aopsK, aopsG, aopsPK, aopsPG, aopsMK, aopsMG, aopsN, TypeDesc.isAgg, ↓reduceIte, Nat.reduceEqDiff, Nat.reduceAdd, Nat.reduceSub, Nat.reduceMul, Nat.reduceLeDiff, Nat.reduceLT, Nat.reduceBEq, Int.reduceNeg, Int.reduceLE, Int.reduceLT, Int.reduceToNat, String.reduceEq, Option.isSome_some, Option.isSome_none, Bool.false_eq_true, Bool.true_eq_false, not_true_eq_false, not_false_eq_true, true_and, and_true, and_self, List.getElem?_toArray, List.getElem?_cons_zero, List.getElem?_cons_succ, List.getElem?_nil, List.length_map, List.append_eq, List.range_zero, List.cons_append, List.nil_append, Nat.one_ne_zero, implies_true]) | refine aw_seq ?_ | refine aw_block ?_ | refine aw_scope ?_ | (refine aw_cond rfl (fun h => ?_) (fun h => ?_) <;> try (exfalso; first | (simp at h; done) | (simp at h; omega))) | ((with_reducible refine And.intro ?_ ?_); focus (first | omega | (intros; simp_all; done) | (simp; omega)))
  refine aw_loopS (ι := Nat) (fun k => [(0, .osl 7 blk v 0 n lc), (1, .int .i64 X.length), (2, .int .i64 (X.length + (U.length + M.length) : Nat)), (3, .int .i64 U.length), (10, .int .i64 k)])
    (fun k => hset H blk (.cells v (fl ((X ++ V.take k) ++ ((U.drop k ++ M) ++ (U.take k ++ (V.drop k ++ Y))))))) (fun k => k ≤ U.length) (fun k => U.length - k) 0 (Nat.zero_le _) ?_ ?_ ?_
  · simp [go_sem]
  · simp only [List.take_zero, List.drop_zero, List.append_nil, List.nil_append, List.append_assoc]
    exact (hset_id hh trivial).symm
  · intro k hk
    by_cases hlt : k < U.length
    · have hlv : k < V.length := by omega
      have e1 : U.drop k = U[k] :: U.drop (k + 1) := List.drop_eq_getElem_cons hlt
      have e2 : V.drop k = V[k] :: V.drop (k + 1) := List.drop_eq_getElem_cons hlv
      have e3 : U.take (k + 1) = U.take k ++ [U[k]] := List.take_succ_eq_append_getElem hlt
      have e4 : V.take (k + 1) = V.take k ++ [V[k]] := List.take_succ_eq_append_getElem hlv
      have eD : (X ++ V.take (k + 1)) ++ ((U.drop (k + 1) ++ M) ++ (U.take (k + 1) ++ (V.drop (k + 1) ++ Y))) = (X ++ V.take k) ++ V[k] :: (((U.drop (k + 1) ++ M) ++ U.take k) ++ U[k] :: (V.drop (k + 1) ++ Y)) := by rw [e3, e4]; simp only [List.append_assoc, List.cons_append, List.nil_append]
      have eD0 : (X ++ V.take k) ++ ((U.drop k ++ M) ++ (U.take k ++ (V.drop k ++ Y))) = (X ++ V.take k) ++ U[k] :: (((U.drop (k + 1) ++ M) ++ U.take k) ++ V[k] :: (V.drop (k + 1) ++ Y)) := by rw [e1, e2]; simp only [List.append_assoc, List.cons_append, List.nil_append]
      have l1 : (X ++ V.take k).length = X.length + k := by rw [List.length_append, List.length_take]; omega
      have l2 : ((U.drop (k + 1) ++ M) ++ U.take k).length = U.length + M.length - 1 := by simp only [List.length_append, List.length_drop, List.length_take]; omega
      rw [eD0]
      generalize U[k] = x at *
      generalize V[k] = y at *
      generalize X ++ V.take k = A at *
      generalize (U.drop (k + 1) ++ M) ++ U.take k = B at *
      generalize hC : V.drop (k + 1) ++ Y = C at *
      obtain ⟨p, hp⟩ : ∃ p, p = X.length + k := ⟨_, rfl⟩
      obtain ⟨q, hq⟩ : ∃ q, q = X.length + k + 1 + B.length := ⟨_, rfl⟩
      have hw1 : IntKind.i64.wrap ((X.length : Int) + (k : Int)) = (p : Int) := wrap_nat (by omega) (by omega)
      have hw2 : IntKind.i64.wrap (((X.length + (U.length + M.length) : Nat) : Int) + (k : Int)) = (q : Int) := wrap_nat (by omega) (by omega)
      have l3 : (A ++ x :: B).length = q := by rw [List.length_append, List.length_cons]; omega
      have l4 : (A ++ y :: B).length = q := by rw [List.length_append, List.length_cons]; omega
      have g1 := fl_get (x := x) (R := B ++ y :: C) (l1.trans hp.symm)
      have g2 := fl_get (x := y) (R := C) l3
      have s1 := fl_set (x := x) (y := y) (R := B ++ y :: C) (l1.trans hp.symm)
      have s2 := fl_set (x := y) (y := x) (R := C) l4
      rw [List.append_assoc, List.cons_append] at g2 s2
      rw [List.append_assoc, List.cons_append] at s2
      repeat' first | ((first | refine aw_region_mix (id := 3) [.free, .free, .free, .free, .free, .free, .free, .free, .free, .free, .free, .free, .pure 0, .pure 0, .free, .free, .free, .free, .pure 0, .pure 0, .pure 0, .eff [false, false, true, false, false], .pure 0, .eff [false, false]] mixedF rfl (by kernel_rfl) (by kernel_rfl) ?_ | refine callP_false (.bool false) ?_ | refine aw_region rfl ?_ | refine aw_region_draw mixedF rfl (by kernel_rfl) ?_ | refine aw_ret ?_ | refine aw_skip ?_ | refine aw_exit ?_ | refine aw_label ?_); simp only [go_sem, aopsK, aopsG, aopsPK, aopsPG, aopsMK, aopsMG, aopsN, TypeDesc.isAgg, ↓reduceIte, Nat.reduceEqDiff, Nat.reduceAdd, Nat.reduceSub, Nat.reduceMul, Nat.reduceLeDiff, Nat.reduceLT, Nat.reduceBEq, Int.reduceNeg, Int.reduceLE, Int.reduceLT, Int.reduceToNat, String.reduceEq, Option.isSome_some, Option.isSome_none, Bool.false_eq_true, Bool.true_eq_false, not_true_eq_false, not_false_eq_true, true_and, and_true, and_self, List.getElem?_toArray, List.getElem?_cons_zero, List.getElem?_cons_succ, List.getElem?_nil, List.length_map, List.append_eq, List.range_zero, List.cons_append, List.nil_append, Nat.one_ne_zero, implies_true, hset1, hset2, hw1, hw2, g1, g2, s1, s2, fl_len, opC_len, opC_one]) | refine aw_seq ?_ | refine aw_block ?_ | refine aw_scope ?_ | (refine aw_cond rfl (fun h => ?_) (fun h => ?_) <;> try (exfalso; first | (simp at h; done) | (simp at h; omega))) | ((with_reducible refine And.intro ?_ ?_); focus (first | omega | (intros; simp_all; done) | (simp; omega)))
      (repeat' (with_reducible refine And.intro ?_ ?_)) <;> try (first | omega | rfl)
      repeat' first | ((first | refine aw_region_mix (id := 3) [.free, .free, .free, .free, .free, .free, .free, .free, .free, .free, .free, .free, .pure 0, .pure 0, .free, .free, .free, .free, .pure 0, .pure 0, .pure 0, .eff [false, false, true, false, false], .pure 0, .eff [false, false]] mixedF rfl (by kernel_rfl) (by kernel_rfl) ?_ | refine callP_false (.bool false) ?_ | refine aw_region rfl ?_ | refine aw_region_draw mixedF rfl (by kernel_rfl) ?_ | refine aw_ret ?_ | refine aw_skip ?_ | refine aw_exit ?_ | refine aw_label ?_); simp only [go_sem, aopsK, aopsG, aopsPK, aopsPG, aopsMK, aopsMG, aopsN, TypeDesc.isAgg, ↓reduceIte, Nat.reduceEqDiff, Nat.reduceAdd, Nat.reduceSub, Nat.reduceMul, Nat.reduceLeDiff, Nat.reduceLT, Nat.reduceBEq, Int.reduceNeg, Int.reduceLE, Int.reduceLT, Int.reduceToNat, String.reduceEq, Option.isSome_some, Option.isSome_none, Bool.false_eq_true, Bool.true_eq_false, not_true_eq_false, not_false_eq_true, true_and, and_true, and_self, List.getElem?_toArray, List.getElem?_cons_zero, List.getElem?_cons_succ, List.getElem?_nil, List.length_map, List.append_eq, List.range_zero, List.cons_append, List.nil_append, Nat.one_ne_zero, implies_true]) | refine aw_seq ?_ | refine aw_block ?_ | refine aw_scope ?_ | (refine aw_cond rfl (fun h => ?_) (fun h => ?_) <;> try (exfalso; first | (simp at h; done) | (simp at h; omega))) | ((with_reducible refine And.intro ?_ ?_); focus (first | omega | (intros; simp_all; done) | (simp; omega)))
      refine ⟨k + 1, hlt, by omega, congrArg _ (wrap_succ hlt (by omega)), ?_⟩
      rw [← eD, ← hC]
      simp only [List.append_assoc]
    · have hke : k = U.length := by omega
      have hli : decide ((k : Int) < (U.length : Int)) = false := decide_eq_false (by omega)
      repeat' first | ((first | refine aw_region_mix (id := 3) [.free, .free, .free, .free, .free, .free, .free, .free, .free, .free, .free, .free, .pure 0, .pure 0, .free, .free, .free, .free, .pure 0, .pure 0, .pure 0, .eff [false, false, true, false, false], .pure 0, .eff [false, false]] mixedF rfl (by kernel_rfl) (by kernel_rfl) ?_ | refine callP_false (.bool false) ?_ | refine aw_region rfl ?_ | refine aw_region_draw mixedF rfl (by kernel_rfl) ?_ | refine aw_ret ?_ | refine aw_skip ?_ | refine aw_exit ?_ | refine aw_label ?_); simp only [go_sem, aopsK, aopsG, aopsPK, aopsPG, aopsMK, aopsMG, aopsN, TypeDesc.isAgg, ↓reduceIte, Nat.reduceEqDiff, Nat.reduceAdd, Nat.reduceSub, Nat.reduceMul, Nat.reduceLeDiff, Nat.reduceLT, Nat.reduceBEq, Int.reduceNeg, Int.reduceLE, Int.reduceLT, Int.reduceToNat, String.reduceEq, Option.isSome_some, Option.isSome_none, Bool.false_eq_true, Bool.true_eq_false, not_true_eq_false, not_false_eq_true, true_and, and_true, and_self, List.getElem?_toArray, List.getElem?_cons_zero, List.getElem?_cons_succ, List.getElem?_nil, List.length_map, List.append_eq, List.range_zero, List.cons_append, List.nil_append, Nat.one_ne_zero, implies_true, hset1, hset2, hli]) | refine aw_seq ?_ | refine aw_block ?_ | refine aw_scope ?_ | (refine aw_cond rfl (fun h => ?_) (fun h => ?_) <;> try (exfalso; first | (simp at h; done) | (simp at h; omega))) | ((with_reducible refine And.intro ?_ ?_); focus (first | omega | (intros; simp_all; done) | (simp; omega)))
      refine doneSet (clb_fl _ _ _) _ ⟨rfl, ?_⟩
      rw [hke, List.take_length, List.drop_length, hUV, List.take_length, List.drop_length]
      rfl
theorem swapR {X U M V Y D : List Opn} {n : Nat} {a b k : Int} (hD : D = X ++ (U ++ (M ++ (V ++ Y)))) (hn : n = D.length) (ha : a = X.length) (hb : b = (X.length + (U.length + M.length) : Nat)) (hk : k = U.length) (hUV : U.length = V.length) (fn : AV) (H : AHeap) (blk v lc : Nat)
    (hh : hget H blk = .cells v (fl D)) (hl : n ≤ 1000000000) :
    ACalls Try.prog 99 [.osl 7 blk v 0 n lc, .int .i64 a, .int .i64 b, .int .i64 k, fn] H
      (fun r H' => r = .tup [] ∧ H' = hset H blk (.cells v (fl (X ++ (V ++ (M ++ (U ++ Y))))))) := by
  subst hD hn ha hb hk
  exact swapR_c X U M V Y hUV fn H blk v lc hh hl
end Go.Proofs.Ytoffonjlfomnbaa

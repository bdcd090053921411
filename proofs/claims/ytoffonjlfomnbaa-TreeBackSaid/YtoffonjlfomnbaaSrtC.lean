/- Sorting of operations in memory: a range is turned; sorting by insertion. No condition. -/
import Derived.Test.YtoffonjlfomnbaaSrtB
namespace Go.Proofs.Ytoffonjlfomnbaa
open Go Go.Aw Go.Gw Go.Srt
set_option linter.unusedSimpArgs false
set_option maxRecDepth 20000
set_option maxHeartbeats 2000000

structure RotS (X U V Y : List Opn) (m : Nat) (s : List Opn × List Opn × List Opn × List Opn) : Prop where
  pos1 : 0 < s.2.1.length
  pos2 : 0 < s.2.2.1.length
  m_eq : m = X.length + s.1.length + s.2.1.length
  goal : s.1 ++ (s.2.2.1 ++ (s.2.1 ++ s.2.2.2)) = V ++ U
def rotD (X Y : List Opn) (s : List Opn × List Opn × List Opn × List Opn) : List Opn := X ++ (s.1 ++ (s.2.1 ++ (s.2.2.1 ++ (s.2.2.2 ++ Y))))

theorem rot_c {X U V Y D : List Opn} {n : Nat} {a m b : Int} (hD : D = X ++ (U ++ (V ++ Y))) (hn : n = D.length) (ha : a = X.length) (hm : m = (X.length + U.length : Nat)) (hb : b = (X.length + U.length + V.length : Nat)) (hU : 0 < U.length) (hV : 0 < V.length) (fn : AV) (H : AHeap) (blk v lc : Nat)
    (hh : hget H blk = .cells v (fl D)) (hl : n ≤ 1000000000) :
    ACalls Try.prog 96 [.osl 7 blk v 0 n lc, .int .i64 a, .int .i64 m, .int .i64 b, fn] H
      (fun r H' => r = .tup [] ∧ H' = hset H blk (.cells v (fl (X ++ (V ++ (U ++ Y)))))) := by
  refine acalls_of Try.func96 rfl (Nat.le_of_ble_eq_true rfl) ?_
  have hset1 := fun b => hget_of hh trivial b
  have hset2 := hset_set H blk
  have hlen : n = X.length + (U.length + (V.length + Y.length)) := by rw [hn, hD]; simp only [List.length_append]
  obtain ⟨mm, hmm⟩ : ∃ mm : Nat, mm = X.length + U.length := ⟨_, rfl⟩
  have hw1 : IntKind.i64.wrap (m - a) = (U.length : Int) := wrap_nat (by omega) (by omega)
  have hw2 : IntKind.i64.wrap (b - m) = (V.length : Int) := wrap_nat (by omega) (by omega)
  rw [← hmm] at hm
  subst hm
  repeat' first | ((first | refine callP_false (.bool false) ?_ | refine aw_region rfl ?_ | refine aw_region_draw mixedF rfl (by kernel_rfl) ?_ | refine aw_ret ?_ | refine aw_skip ?_ | refine aw_exit ?_ | refine aw_label ?_); simp only [go_sem, aopsK, aopsG, aopsPK, aopsPG, aopsMK, aopsMG, aopsN, TypeDesc.isAgg, ↓reduceIte, Nat.reduceEqDiff, Nat.reduceAdd, Nat.reduceSub, Nat.reduceMul, Nat.reduceLeDiff, Nat.reduceLT, Nat.reduceBEq, Int.reduceNeg, Int.reduceLE, Int.reduceLT, Int.reduceToNat, String.reduceEq, Option.isSome_some, Option.isSome_none, Bool.false_eq_true, Bool.true_eq_false, not_true_eq_false, not_false_eq_true, true_and, and_true, and_self, List.getElem?_toArray, List.getElem?_cons_zero, List.getElem?_cons_succ, List.getElem?_nil, List.length_map, List.append_eq, List.range_zero, List.cons_append, List.nil_append, Nat.one_ne_zero, implies_true, hw1, hw2]) | refine aw_seq ?_ | refine aw_block ?_ | refine aw_scope ?_ | (refine aw_cond rfl (fun h => ?_) (fun h => ?_) <;> try (exfalso; first | (simp at h; done) | (simp at h; omega))) | ((with_reducible refine And.intro ?_ ?_); focus (first | omega | (intros; simp_all; done) | (simp; omega)))
  refine aw_loopS (ι := List Opn × List Opn × List Opn × List Opn) (fun s => [(0, .osl 7 blk v 0 n lc), (2, .int .i64 mm), (4, fn), (10, .int .i64 s.2.1.length), (11, .int .i64 s.2.2.1.length)])
    (fun s => hset H blk (.cells v (fl (rotD X Y s)))) (RotS X U V Y mm) (fun s => s.2.1.length + s.2.2.1.length) ([], U, V, []) ⟨hU, hV, by simp only [List.length_nil]; omega, by simp⟩ ?_ ?_ ?_
  · simp [go_sem]
  · have e : rotD X Y ([], U, V, []) = D := by rw [hD]; simp [rotD]
    rw [e]; exact (hset_id hh trivial).symm
  · rintro ⟨P, A, B, Q⟩ ⟨h1, h2, h3, h4⟩
    simp only at h1 h2 h3 h4 ⊢
    have hlD : (rotD X Y (P, A, B, Q)).length = n := by
      have := congrArg List.length h4
      simp only [List.length_append] at this
      simp only [rotD, List.length_append]; omega
    have hXP : (X ++ P).length = X.length + P.length := List.length_append
    have hl2 := hlD
    simp only [rotD, List.length_append] at hl2
    by_cases hne : A.length = B.length
    · have hw3 : IntKind.i64.wrap ((mm : Int) - (A.length : Int)) = ((X.length + P.length : Nat) : Int) := wrap_nat (by omega) (by omega)
      have hli : decide ((A.length : Int) = (B.length : Int)) = true := decide_eq_true (by omega)
      repeat' first | ((first | refine callP_false (.bool false) ?_ | refine aw_region rfl ?_ | refine aw_region_draw mixedF rfl (by kernel_rfl) ?_ | refine aw_ret ?_ | refine aw_skip ?_ | refine aw_exit ?_ | refine aw_label ?_); simp only [go_sem, aopsK, aopsG, aopsPK, aopsPG, aopsMK, aopsMG, aopsN, TypeDesc.isAgg, ↓reduceIte, Nat.reduceEqDiff, Nat.reduceAdd, Nat.reduceSub, Nat.reduceMul, Nat.reduceLeDiff, Nat.reduceLT, Nat.reduceBEq, Int.reduceNeg, Int.reduceLE, Int.reduceLT, Int.reduceToNat, String.reduceEq, Option.isSome_some, Option.isSome_none, Bool.false_eq_true, Bool.true_eq_false, not_true_eq_false, not_false_eq_true, true_and, and_true, and_self, List.getElem?_toArray, List.getElem?_cons_zero, List.getElem?_cons_succ, List.getElem?_nil, List.length_map, List.append_eq, List.range_zero, List.cons_append, List.nil_append, Nat.one_ne_zero, implies_true, hset1, hset2, hw3, hli]) | refine aw_seq ?_ | refine aw_block ?_ | refine aw_scope ?_ | (refine aw_cond rfl (fun h => ?_) (fun h => ?_) <;> try (exfalso; first | (simp at h; done) | (simp at h; omega))) | ((with_reducible refine And.intro ?_ ?_); focus (first | omega | (intros; simp_all; done) | (simp; omega)))
      refine callK_of (swapR (a := ((X.length + P.length : Nat) : Int)) (b := (mm : Int)) (k := (A.length : Int)) (X := X ++ P) (U := A) (M := []) (V := B) (Y := Q ++ Y) (D := rotD X Y (P, A, B, Q)) (by simp [rotD]) hlD.symm (by rw [hXP]) (by rw [hXP, List.length_nil]; omega) rfl hne _ _ _ _ _ (hset1 _) hl) callOk99F ?_
      rintro r H' ⟨rfl, rfl⟩
      simp only [go_sem, aopsK, aopsG, aopsPK, aopsPG, aopsMK, aopsMG, aopsN, TypeDesc.isAgg, ↓reduceIte, Nat.reduceEqDiff, Nat.reduceAdd, Nat.reduceSub, Nat.reduceMul, Nat.reduceLeDiff, Nat.reduceLT, Nat.reduceBEq, Int.reduceNeg, Int.reduceLE, Int.reduceLT, Int.reduceToNat, String.reduceEq, Option.isSome_some, Option.isSome_none, Bool.false_eq_true, Bool.true_eq_false, not_true_eq_false, not_false_eq_true, true_and, and_true, and_self, List.getElem?_toArray, List.getElem?_cons_zero, List.getElem?_cons_succ, List.getElem?_nil, List.length_map, List.append_eq, List.range_zero, List.cons_append, List.nil_append, Nat.one_ne_zero, implies_true, hset2]
      repeat' first | ((first | refine callP_false (.bool false) ?_ | refine aw_region rfl ?_ | refine aw_region_draw mixedF rfl (by kernel_rfl) ?_ | refine aw_ret ?_ | refine aw_skip ?_ | refine aw_exit ?_ | refine aw_label ?_); simp only [go_sem, aopsK, aopsG, aopsPK, aopsPG, aopsMK, aopsMG, aopsN, TypeDesc.isAgg, ↓reduceIte, Nat.reduceEqDiff, Nat.reduceAdd, Nat.reduceSub, Nat.reduceMul, Nat.reduceLeDiff, Nat.reduceLT, Nat.reduceBEq, Int.reduceNeg, Int.reduceLE, Int.reduceLT, Int.reduceToNat, String.reduceEq, Option.isSome_some, Option.isSome_none, Bool.false_eq_true, Bool.true_eq_false, not_true_eq_false, not_false_eq_true, true_and, and_true, and_self, List.getElem?_toArray, List.getElem?_cons_zero, List.getElem?_cons_succ, List.getElem?_nil, List.length_map, List.append_eq, List.range_zero, List.cons_append, List.nil_append, Nat.one_ne_zero, implies_true, hset1, hset2]) | refine aw_seq ?_ | refine aw_block ?_ | refine aw_scope ?_ | (refine aw_cond rfl (fun h => ?_) (fun h => ?_) <;> try (exfalso; first | (simp at h; done) | (simp at h; omega))) | ((with_reducible refine And.intro ?_ ?_); focus (first | omega | (intros; simp_all; done) | (simp; omega)))
      refine doneSet (clb_fl _ _ _) _ ⟨rfl, ?_⟩
      have e : X ++ (P ++ (B ++ (A ++ (Q ++ Y)))) = X ++ ((P ++ (B ++ (A ++ Q))) ++ Y) := by simp only [List.append_assoc]
      rw [e, h4, List.append_assoc]
    · have hli : decide ((A.length : Int) = (B.length : Int)) = false := decide_eq_false (by omega)
      by_cases hgt : B.length < A.length
      · have hAl : (A.take B.length).length = B.length := by rw [List.length_take]; omega
        have hDl : (A.drop B.length).length = A.length - B.length := List.length_drop ..
        have hw3 : IntKind.i64.wrap ((mm : Int) - (A.length : Int)) = ((X.length + P.length : Nat) : Int) := wrap_nat (by omega) (by omega)
        have hw4 : IntKind.i64.wrap ((A.length : Int) - (B.length : Int)) = ((A.drop B.length).length : Int) := wrap_nat (by omega) (by omega)
        have hli2 : decide ((B.length : Int) < (A.length : Int)) = true := decide_eq_true (by omega)
        have eD : rotD X Y (P, A, B, Q) = X ++ P ++ (A.take B.length ++ (A.drop B.length ++ (B ++ (Q ++ Y)))) := by
          have e : X ++ P ++ (A.take B.length ++ (A.drop B.length ++ (B ++ (Q ++ Y)))) = X ++ (P ++ ((A.take B.length ++ A.drop B.length) ++ (B ++ (Q ++ Y)))) := by simp only [List.append_assoc]
          rw [e, List.take_append_drop]; rfl
        repeat' first | ((first | refine callP_false (.bool false) ?_ | refine aw_region rfl ?_ | refine aw_region_draw mixedF rfl (by kernel_rfl) ?_ | refine aw_ret ?_ | refine aw_skip ?_ | refine aw_exit ?_ | refine aw_label ?_); simp only [go_sem, aopsK, aopsG, aopsPK, aopsPG, aopsMK, aopsMG, aopsN, TypeDesc.isAgg, ↓reduceIte, Nat.reduceEqDiff, Nat.reduceAdd, Nat.reduceSub, Nat.reduceMul, Nat.reduceLeDiff, Nat.reduceLT, Nat.reduceBEq, Int.reduceNeg, Int.reduceLE, Int.reduceLT, Int.reduceToNat, String.reduceEq, Option.isSome_some, Option.isSome_none, Bool.false_eq_true, Bool.true_eq_false, not_true_eq_false, not_false_eq_true, true_and, and_true, and_self, List.getElem?_toArray, List.getElem?_cons_zero, List.getElem?_cons_succ, List.getElem?_nil, List.length_map, List.append_eq, List.range_zero, List.cons_append, List.nil_append, Nat.one_ne_zero, implies_true, hset1, hset2, hw3, hw4, hli, hli2]) | refine aw_seq ?_ | refine aw_block ?_ | refine aw_scope ?_ | (refine aw_cond rfl (fun h => ?_) (fun h => ?_) <;> try (exfalso; first | (simp at h; done) | (simp at h; omega))) | ((with_reducible refine And.intro ?_ ?_); focus (first | omega | (intros; simp_all; done) | (simp; omega)))
        refine callK_of (swapR (a := ((X.length + P.length : Nat) : Int)) (b := (mm : Int)) (k := (B.length : Int)) (X := X ++ P) (U := A.take B.length) (M := A.drop B.length) (V := B) (Y := Q ++ Y) (D := rotD X Y (P, A, B, Q)) eD hlD.symm (by rw [hXP]) (by rw [hXP]; omega) (by rw [hAl]) hAl _ _ _ _ _ (hset1 _) hl) callOk99F ?_
        rintro r H' ⟨rfl, rfl⟩
        simp only [go_sem, aopsK, aopsG, aopsPK, aopsPG, aopsMK, aopsMG, aopsN, TypeDesc.isAgg, ↓reduceIte, Nat.reduceEqDiff, Nat.reduceAdd, Nat.reduceSub, Nat.reduceMul, Nat.reduceLeDiff, Nat.reduceLT, Nat.reduceBEq, Int.reduceNeg, Int.reduceLE, Int.reduceLT, Int.reduceToNat, String.reduceEq, Option.isSome_some, Option.isSome_none, Bool.false_eq_true, Bool.true_eq_false, not_true_eq_false, not_false_eq_true, true_and, and_true, and_self, List.getElem?_toArray, List.getElem?_cons_zero, List.getElem?_cons_succ, List.getElem?_nil, List.length_map, List.append_eq, List.range_zero, List.cons_append, List.nil_append, Nat.one_ne_zero, implies_true, hset2]
        repeat' first | ((first | refine callP_false (.bool false) ?_ | refine aw_region rfl ?_ | refine aw_region_draw mixedF rfl (by kernel_rfl) ?_ | refine aw_ret ?_ | refine aw_skip ?_ | refine aw_exit ?_ | refine aw_label ?_); simp only [go_sem, aopsK, aopsG, aopsPK, aopsPG, aopsMK, aopsMG, aopsN, TypeDesc.isAgg, ↓reduceIte, Nat.reduceEqDiff, Nat.reduceAdd, Nat.reduceSub, Nat.reduceMul, Nat.reduceLeDiff, Nat.reduceLT, Nat.reduceBEq, Int.reduceNeg, Int.reduceLE, Int.reduceLT, Int.reduceToNat, String.reduceEq, Option.isSome_some, Option.isSome_none, Bool.false_eq_true, Bool.true_eq_false, not_true_eq_false, not_false_eq_true, true_and, and_true, and_self, List.getElem?_toArray, List.getElem?_cons_zero, List.getElem?_cons_succ, List.getElem?_nil, List.length_map, List.append_eq, List.range_zero, List.cons_append, List.nil_append, Nat.one_ne_zero, implies_true, hset1, hset2, hw4]) | refine aw_seq ?_ | refine aw_block ?_ | refine aw_scope ?_ | (refine aw_cond rfl (fun h => ?_) (fun h => ?_) <;> try (exfalso; first | (simp at h; done) | (simp at h; omega))) | ((with_reducible refine And.intro ?_ ?_); focus (first | omega | (intros; simp_all; done) | (simp; omega)))
        refine ⟨(P ++ B, A.drop B.length, A.take B.length, Q), ⟨by simp only; omega, by simp only; omega, by simp only [List.length_append]; omega, ?_⟩, by simp only; omega, ⟨rfl, by simp only [hAl]⟩, ?_⟩
        · simp only
          rw [← h4]
          have e : P ++ B ++ (A.take B.length ++ (A.drop B.length ++ Q)) = P ++ (B ++ ((A.take B.length ++ A.drop B.length) ++ Q)) := by simp only [List.append_assoc]
          rw [e, List.take_append_drop]
        · simp only [rotD, List.append_assoc]
      · have hBl : (B.take (B.length - A.length)).length = B.length - A.length := by rw [List.length_take]; omega
        have hDl : (B.drop (B.length - A.length)).length = A.length := by rw [List.length_drop]; omega
        have hw3 : IntKind.i64.wrap ((mm : Int) - (A.length : Int)) = ((X.length + P.length : Nat) : Int) := wrap_nat (by omega) (by omega)
        have hw5 : IntKind.i64.wrap ((mm : Int) + (B.length : Int)) = ((mm + B.length : Nat) : Int) := wrap_nat (by omega) (by omega)
        have hw6 : IntKind.i64.wrap (((mm + B.length : Nat) : Int) - (A.length : Int)) = ((mm + B.length - A.length : Nat) : Int) := wrap_nat (by omega) (by omega)
        have hw4 : IntKind.i64.wrap ((B.length : Int) - (A.length : Int)) = ((B.take (B.length - A.length)).length : Int) := wrap_nat (by omega) (by omega)
        have hli2 : decide ((B.length : Int) < (A.length : Int)) = false := decide_eq_false (by omega)
        have eD : rotD X Y (P, A, B, Q) = X ++ P ++ (A ++ (B.take (B.length - A.length) ++ (B.drop (B.length - A.length) ++ (Q ++ Y)))) := by
          have e : X ++ P ++ (A ++ (B.take (B.length - A.length) ++ (B.drop (B.length - A.length) ++ (Q ++ Y)))) = X ++ (P ++ (A ++ ((B.take (B.length - A.length) ++ B.drop (B.length - A.length)) ++ (Q ++ Y)))) := by simp only [List.append_assoc]
          rw [e, List.take_append_drop]; rfl
        repeat' first | ((first | refine callP_false (.bool false) ?_ | refine aw_region rfl ?_ | refine aw_region_draw mixedF rfl (by kernel_rfl) ?_ | refine aw_ret ?_ | refine aw_skip ?_ | refine aw_exit ?_ | refine aw_label ?_); simp only [go_sem, aopsK, aopsG, aopsPK, aopsPG, aopsMK, aopsMG, aopsN, TypeDesc.isAgg, ↓reduceIte, Nat.reduceEqDiff, Nat.reduceAdd, Nat.reduceSub, Nat.reduceMul, Nat.reduceLeDiff, Nat.reduceLT, Nat.reduceBEq, Int.reduceNeg, Int.reduceLE, Int.reduceLT, Int.reduceToNat, String.reduceEq, Option.isSome_some, Option.isSome_none, Bool.false_eq_true, Bool.true_eq_false, not_true_eq_false, not_false_eq_true, true_and, and_true, and_self, List.getElem?_toArray, List.getElem?_cons_zero, List.getElem?_cons_succ, List.getElem?_nil, List.length_map, List.append_eq, List.range_zero, List.cons_append, List.nil_append, Nat.one_ne_zero, implies_true, hset1, hset2, hw3, hw4, hw5, hw6, hli, hli2]) | refine aw_seq ?_ | refine aw_block ?_ | refine aw_scope ?_ | (refine aw_cond rfl (fun h => ?_) (fun h => ?_) <;> try (exfalso; first | (simp at h; done) | (simp at h; omega))) | ((with_reducible refine And.intro ?_ ?_); focus (first | omega | (intros; simp_all; done) | (simp; omega)))
        refine callK_of (swapR (a := ((X.length + P.length : Nat) : Int)) (b := ((mm + B.length - A.length : Nat) : Int)) (k := (A.length : Int)) (X := X ++ P) (U := A) (M := B.take (B.length - A.length)) (V := B.drop (B.length - A.length)) (Y := Q ++ Y) (D := rotD X Y (P, A, B, Q)) eD hlD.symm (by rw [hXP]) (by rw [hXP]; omega) rfl hDl.symm _ _ _ _ _ (hset1 _) hl) callOk99F ?_
        rintro r H' ⟨rfl, rfl⟩
        simp only [go_sem, aopsK, aopsG, aopsPK, aopsPG, aopsMK, aopsMG, aopsN, TypeDesc.isAgg, ↓reduceIte, Nat.reduceEqDiff, Nat.reduceAdd, Nat.reduceSub, Nat.reduceMul, Nat.reduceLeDiff, Nat.reduceLT, Nat.reduceBEq, Int.reduceNeg, Int.reduceLE, Int.reduceLT, Int.reduceToNat, String.reduceEq, Option.isSome_some, Option.isSome_none, Bool.false_eq_true, Bool.true_eq_false, not_true_eq_false, not_false_eq_true, true_and, and_true, and_self, List.getElem?_toArray, List.getElem?_cons_zero, List.getElem?_cons_succ, List.getElem?_nil, List.length_map, List.append_eq, List.range_zero, List.cons_append, List.nil_append, Nat.one_ne_zero, implies_true, hset2]
        repeat' first | ((first | refine callP_false (.bool false) ?_ | refine aw_region rfl ?_ | refine aw_region_draw mixedF rfl (by kernel_rfl) ?_ | refine aw_ret ?_ | refine aw_skip ?_ | refine aw_exit ?_ | refine aw_label ?_); simp only [go_sem, aopsK, aopsG, aopsPK, aopsPG, aopsMK, aopsMG, aopsN, TypeDesc.isAgg, ↓reduceIte, Nat.reduceEqDiff, Nat.reduceAdd, Nat.reduceSub, Nat.reduceMul, Nat.reduceLeDiff, Nat.reduceLT, Nat.reduceBEq, Int.reduceNeg, Int.reduceLE, Int.reduceLT, Int.reduceToNat, String.reduceEq, Option.isSome_some, Option.isSome_none, Bool.false_eq_true, Bool.true_eq_false, not_true_eq_false, not_false_eq_true, true_and, and_true, and_self, List.getElem?_toArray, List.getElem?_cons_zero, List.getElem?_cons_succ, List.getElem?_nil, List.length_map, List.append_eq, List.range_zero, List.cons_append, List.nil_append, Nat.one_ne_zero, implies_true, hset1, hset2, hw4]) | refine aw_seq ?_ | refine aw_block ?_ | refine aw_scope ?_ | (refine aw_cond rfl (fun h => ?_) (fun h => ?_) <;> try (exfalso; first | (simp at h; done) | (simp at h; omega))) | ((with_reducible refine And.intro ?_ ?_); focus (first | omega | (intros; simp_all; done) | (simp; omega)))
        refine ⟨(P, B.drop (B.length - A.length), B.take (B.length - A.length), A ++ Q), ⟨by simp only; omega, by simp only; omega, by simp only; omega, ?_⟩, by simp only; omega, ⟨by simp only [hDl], rfl⟩, ?_⟩
        · simp only
          rw [← h4]
          have e : P ++ (B.take (B.length - A.length) ++ (B.drop (B.length - A.length) ++ (A ++ Q))) = P ++ ((B.take (B.length - A.length) ++ B.drop (B.length - A.length)) ++ (A ++ Q)) := by simp only [List.append_assoc]
          rw [e, List.take_append_drop]
        · simp only [rotD, List.append_assoc]
end Go.Proofs.Ytoffonjlfomnbaa

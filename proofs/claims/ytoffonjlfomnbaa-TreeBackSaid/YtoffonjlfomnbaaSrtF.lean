/- Sorting of operations in memory: one is merged into what is in order ahead of it. No condition. -/
import Derived.Test.YtoffonjlfomnbaaSrtE
namespace Go.Proofs.Ytoffonjlfomnbaa
open Go Go.Aw Go.Gw Go.Srt
set_option linter.unusedSimpArgs false
set_option maxRecDepth 20000
set_option maxHeartbeats 4000000

theorem symB_c {X B Y D : List Opn} {x : Opn} {n : Nat} {a m b : Int} {lt : Opn → Opn → Bool} {c : Opn → Opn → Int} (hw : SWO lt) (hc : ∀ x y, decide (c x y < 0) = lt x y)
    (hD : D = X ++ (B ++ x :: Y)) (hB : Sd lt B) (hB0 : 1 < B.length) (hn : n = D.length) (ha : a = X.length) (hm : m = (X.length + B.length : Nat)) (hb : b = (X.length + B.length + 1 : Nat)) (fn : Fn) (fs cs : List AV) (hf : CmpC Try.prog (.func fn fs cs) c) (H : AHeap) (blk v lc : Nat)
    (hh : hget H blk = .cells v (fl D)) (hl : n ≤ 1000000000) :
    ACalls Try.prog 94 [.osl 7 blk v 0 n lc, .int .i64 a, .int .i64 m, .int .i64 b, .func fn fs cs] H
      (fun r H' => r = .tup [] ∧ ∃ S, Fs lt (B ++ [x]) S ∧ Sd lt S ∧ H' = hset H blk (.cells v (fl (X ++ (S ++ Y))))) := by
  refine acalls_of Try.func94 rfl (Nat.le_of_ble_eq_true rfl) ?_
  have hset1 := fun b => hget_of hh trivial b
  have hset2 := hset_set H blk
  have hlen : n = X.length + (B.length + (Y.length + 1)) := by rw [hn, hD]; simp only [List.length_append, List.length_cons]
  have hw1 : IntKind.i64.wrap (m - a) = (B.length : Int) := by subst hm ha; exact wrap_nat (by omega) (by omega)
  have hw0 : IntKind.i64.wrap (b - m) = 1 := by subst hm hb; rw [wrap_i64 (by omega) (by omega)]; omega
  have hl1 : decide ((B.length : Int) = 1) = false := decide_eq_false (by omega)
  obtain ⟨M, hM⟩ : ∃ M, M = X.length + B.length := ⟨_, rfl⟩
  rw [← hM] at hm hb
  have hDM : ∀ k (hk : k < B.length), D[X.length + k]'(by omega) = B[k] := by
    intro k hk
    subst hD
    rw [List.getElem_append_right (by omega), List.getElem_append_left (by omega)]
    congr 1; omega
  have gx : List.take 7 (List.drop (M * 7) (fl D)) = opCells x := by
    have e : D = (X ++ B) ++ x :: Y := by rw [hD, List.append_assoc]
    rw [e]; exact fl_get (by rw [List.length_append, hM])
  have hxn : M * 7 + 7 ≤ (fl D).length := by rw [fl_len]; omega
  subst hm hb ha
  repeat' first | ((first | refine callP_false (.bool false) ?_ | refine aw_region rfl ?_ | refine aw_region_draw mixedF rfl (by kernel_rfl) ?_ | refine aw_ret ?_ | refine aw_skip ?_ | refine aw_exit ?_ | refine aw_label ?_); simp only [go_sem, aopsK, aopsG, aopsPK, aopsPG, aopsMK, aopsMG, aopsN, TypeDesc.isAgg, ↓reduceIte, Nat.reduceEqDiff, Nat.reduceAdd, Nat.reduceSub, Nat.reduceMul, Nat.reduceLeDiff, Nat.reduceLT, Nat.reduceBEq, Int.reduceNeg, Int.reduceLE, Int.reduceLT, Int.reduceToNat, String.reduceEq, Option.isSome_some, Option.isSome_none, Bool.false_eq_true, Bool.true_eq_false, not_true_eq_false, not_false_eq_true, true_and, and_true, and_self, List.getElem?_toArray, List.getElem?_cons_zero, List.getElem?_cons_succ, List.getElem?_nil, List.length_map, List.append_eq, List.range_zero, List.cons_append, List.nil_append, Nat.one_ne_zero, implies_true, hw1, hw0, hl1]) | refine aw_seq ?_ | refine aw_block ?_ | refine aw_scope ?_ | (refine aw_cond rfl (fun h => ?_) (fun h => ?_) <;> try (exfalso; first | (simp at h; done) | (simp at h; omega))) | ((with_reducible refine And.intro ?_ ?_); focus (first | omega | (intros; simp_all; done) | (simp; omega)))
  refine aw_loopS (ι := Nat × Nat) (fun s => [(0, .osl 7 blk v 0 n lc), (2, .int .i64 M), (4, .func fn fs cs), (14, .int .i64 (X.length + s.1 : Nat)), (15, .int .i64 (X.length + s.2 : Nat))]) (fun _ => H)
    (fun s => s.1 ≤ s.2 ∧ s.2 ≤ B.length ∧ (∀ k (hk : k < s.1) (hk2 : k < B.length), lt x B[k] = false) ∧ (∀ k (_ : s.2 ≤ k) (hk : k < B.length), lt x B[k] = true)) (fun s => s.2 - s.1) (0, B.length) ⟨Nat.zero_le _, Nat.le_refl _, fun k hk => by omega, fun k h1 h2 => by omega⟩ ?_ rfl ?_
  · simp [go_sem, hM]
  · rintro ⟨i, j⟩ ⟨h1, h2, h3, h4⟩
    simp only at h1 h2 h3 h4 ⊢
    by_cases hij : i < j
    · obtain ⟨u, hhd⟩ : ∃ u, (X.length + i + (X.length + j)) / 2 = X.length + u := ⟨(X.length + i + (X.length + j)) / 2 - X.length, by omega⟩
      have hhl : u < B.length := by omega
      have hhf := mid_eq (i := X.length + i) (j := X.length + j) (n := X.length + B.length) (by omega) (by omega) (by omega)
      rw [hhd] at hhf
      obtain ⟨K, hK⟩ : ∃ K, K = X.length + u := ⟨_, rfl⟩
      have gK : List.take 7 (List.drop (K * 7) (fl D)) = opCells B[u] := by subst hK; rw [fl_at (by omega), hDM u hhl]
      have hKn : K * 7 + 7 ≤ (fl D).length := by rw [fl_len]; omega
      have hw2 : IntKind.i64.wrap ((K : Int) + 1) = ((X.length + (u + 1) : Nat) : Int) := wrap_nat (by omega) (by omega)
      rw [← hK] at hhf
      have hli : decide (((X.length + i : Nat) : Int) < ((X.length + j : Nat) : Int)) = true := decide_eq_true (by omega)
      repeat' first | ((first | refine aw_region_mix (id := 11) [.free, .free, .free, .free, .free, .free, .free, .free, .pure 0, .pure 0, .free, .free, .pure 0, .pure 0, .pure 0, .eff [false, false, true, false, false], .pure 0, .eff [false, false]] mixedF rfl (by kernel_rfl) (by kernel_rfl) ?_ | refine aw_region_mix (id := 23) [.free, .free, .free, .free, .free, .free, .free, .free, .pure 0, .pure 0, .free, .free, .pure 0, .pure 0, .pure 0, .eff [false, false, true, false, false], .pure 0, .eff [false, false]] mixedF rfl (by kernel_rfl) (by kernel_rfl) ?_ | refine callP_false (.bool false) ?_ | refine aw_region rfl ?_ | refine aw_region_draw mixedF rfl (by kernel_rfl) ?_ | refine aw_ret ?_ | refine aw_skip ?_ | refine aw_exit ?_ | refine aw_label ?_); simp only [go_sem, aopsK, aopsG, aopsPK, aopsPG, aopsMK, aopsMG, aopsN, TypeDesc.isAgg, ↓reduceIte, Nat.reduceEqDiff, Nat.reduceAdd, Nat.reduceSub, Nat.reduceMul, Nat.reduceLeDiff, Nat.reduceLT, Nat.reduceBEq, Int.reduceNeg, Int.reduceLE, Int.reduceLT, Int.reduceToNat, String.reduceEq, Option.isSome_some, Option.isSome_none, Bool.false_eq_true, Bool.true_eq_false, not_true_eq_false, not_false_eq_true, true_and, and_true, and_self, List.getElem?_toArray, List.getElem?_cons_zero, List.getElem?_cons_succ, List.getElem?_nil, List.length_map, List.append_eq, List.range_zero, List.cons_append, List.nil_append, Nat.one_ne_zero, implies_true, hli, hhf, hh, gK, gx]) | refine aw_seq ?_ | refine aw_block ?_ | refine aw_scope ?_ | (refine aw_cond rfl (fun h => ?_) (fun h => ?_) <;> try (exfalso; first | (simp at h; done) | (simp at h; omega))) | ((with_reducible refine And.intro ?_ ?_); focus (first | omega | (intros; simp_all; done) | (simp; omega)))
      (repeat' (with_reducible refine And.intro ?_ ?_)) <;> try (first | omega | rfl)
      refine callP_cmp hf ?_
      simp only [go_sem, aopsK, aopsG, aopsPK, aopsPG, aopsMK, aopsMG, aopsN, TypeDesc.isAgg, ↓reduceIte, Nat.reduceEqDiff, Nat.reduceAdd, Nat.reduceSub, Nat.reduceMul, Nat.reduceLeDiff, Nat.reduceLT, Nat.reduceBEq, Int.reduceNeg, Int.reduceLE, Int.reduceLT, Int.reduceToNat, String.reduceEq, Option.isSome_some, Option.isSome_none, Bool.false_eq_true, Bool.true_eq_false, not_true_eq_false, not_false_eq_true, true_and, and_true, and_self, List.getElem?_toArray, List.getElem?_cons_zero, List.getElem?_cons_succ, List.getElem?_nil, List.length_map, List.append_eq, List.range_zero, List.cons_append, List.nil_append, Nat.one_ne_zero, implies_true, hc]
      cases hxy : lt x B[u] with
      | true =>
        repeat' first | ((first | refine callP_false (.bool false) ?_ | refine aw_region rfl ?_ | refine aw_region_draw mixedF rfl (by kernel_rfl) ?_ | refine aw_ret ?_ | refine aw_skip ?_ | refine aw_exit ?_ | refine aw_label ?_); simp only [go_sem, aopsK, aopsG, aopsPK, aopsPG, aopsMK, aopsMG, aopsN, TypeDesc.isAgg, ↓reduceIte, Nat.reduceEqDiff, Nat.reduceAdd, Nat.reduceSub, Nat.reduceMul, Nat.reduceLeDiff, Nat.reduceLT, Nat.reduceBEq, Int.reduceNeg, Int.reduceLE, Int.reduceLT, Int.reduceToNat, String.reduceEq, Option.isSome_some, Option.isSome_none, Bool.false_eq_true, Bool.true_eq_false, not_true_eq_false, not_false_eq_true, true_and, and_true, and_self, List.getElem?_toArray, List.getElem?_cons_zero, List.getElem?_cons_succ, List.getElem?_nil, List.length_map, List.append_eq, List.range_zero, List.cons_append, List.nil_append, Nat.one_ne_zero, implies_true, hxy, hw2]) | refine aw_seq ?_ | refine aw_block ?_ | refine aw_scope ?_ | (refine aw_cond rfl (fun h => ?_) (fun h => ?_) <;> try (exfalso; first | (simp at h; done) | (simp at h; omega))) | ((with_reducible refine And.intro ?_ ?_); focus (first | omega | (intros; simp_all; done) | (simp; omega)))
        exact ⟨(i, u), ⟨by simp only; omega, by simp only; omega, h3, fun k q1 q2 => bs_dn' hw hB hhl hxy k q1 q2⟩, by simp only; omega, rfl, by rw [hK]⟩
      | false =>
        repeat' first | ((first | refine callP_false (.bool false) ?_ | refine aw_region rfl ?_ | refine aw_region_draw mixedF rfl (by kernel_rfl) ?_ | refine aw_ret ?_ | refine aw_skip ?_ | refine aw_exit ?_ | refine aw_label ?_); simp only [go_sem, aopsK, aopsG, aopsPK, aopsPG, aopsMK, aopsMG, aopsN, TypeDesc.isAgg, ↓reduceIte, Nat.reduceEqDiff, Nat.reduceAdd, Nat.reduceSub, Nat.reduceMul, Nat.reduceLeDiff, Nat.reduceLT, Nat.reduceBEq, Int.reduceNeg, Int.reduceLE, Int.reduceLT, Int.reduceToNat, String.reduceEq, Option.isSome_some, Option.isSome_none, Bool.false_eq_true, Bool.true_eq_false, not_true_eq_false, not_false_eq_true, true_and, and_true, and_self, List.getElem?_toArray, List.getElem?_cons_zero, List.getElem?_cons_succ, List.getElem?_nil, List.length_map, List.append_eq, List.range_zero, List.cons_append, List.nil_append, Nat.one_ne_zero, implies_true, hxy, hw2]) | refine aw_seq ?_ | refine aw_block ?_ | refine aw_scope ?_ | (refine aw_cond rfl (fun h => ?_) (fun h => ?_) <;> try (exfalso; first | (simp at h; done) | (simp at h; omega))) | ((with_reducible refine And.intro ?_ ?_); focus (first | omega | (intros; simp_all; done) | (simp; omega)))
        exact ⟨(u + 1, j), ⟨by simp only; omega, by simp only; omega, fun k q1 q2 => bs_up' hw hB hhl hxy k (by omega), h4⟩, by simp only; omega, rfl, rfl⟩
    · have hji : j = i := by omega
      subst hji
      have hli : decide (((X.length + j : Nat) : Int) < ((X.length + j : Nat) : Int)) = false := decide_eq_false (by omega)
      have B1 : ∀ y ∈ B.take j, lt x y = false := mem_take_get h2 fun k hk => h3 k hk (by omega)
      have B2 : ∀ y ∈ B.drop j, lt x y = true := mem_drop_get h4
      have hBB := List.take_append_drop j B
      have hl1 : (B.take j).length = j := by rw [List.length_take]; omega
      have hl2 : (B.drop j).length = B.length - j := List.length_drop ..
      generalize B.take j = P at *
      generalize B.drop j = R at *
      repeat' first | ((first | refine callP_false (.bool false) ?_ | refine aw_region rfl ?_ | refine aw_region_draw mixedF rfl (by kernel_rfl) ?_ | refine aw_ret ?_ | refine aw_skip ?_ | refine aw_exit ?_ | refine aw_label ?_); simp only [go_sem, aopsK, aopsG, aopsPK, aopsPG, aopsMK, aopsMG, aopsN, TypeDesc.isAgg, ↓reduceIte, Nat.reduceEqDiff, Nat.reduceAdd, Nat.reduceSub, Nat.reduceMul, Nat.reduceLeDiff, Nat.reduceLT, Nat.reduceBEq, Int.reduceNeg, Int.reduceLE, Int.reduceLT, Int.reduceToNat, String.reduceEq, Option.isSome_some, Option.isSome_none, Bool.false_eq_true, Bool.true_eq_false, not_true_eq_false, not_false_eq_true, true_and, and_true, and_self, List.getElem?_toArray, List.getElem?_cons_zero, List.getElem?_cons_succ, List.getElem?_nil, List.length_map, List.append_eq, List.range_zero, List.cons_append, List.nil_append, Nat.one_ne_zero, implies_true, hli]) | refine aw_seq ?_ | refine aw_block ?_ | refine aw_scope ?_ | (refine aw_cond rfl (fun h => ?_) (fun h => ?_) <;> try (exfalso; first | (simp at h; done) | (simp at h; omega))) | ((with_reducible refine And.intro ?_ ?_); focus (first | omega | (intros; simp_all; done) | (simp; omega)))
      refine aw_loopS (ι := Nat) (fun t => [(0, .osl 7 blk v 0 n lc), (14, .int .i64 (X.length + j : Nat)), (17, .int .i64 (X.length + j + t : Nat))])
        (fun t => hset H blk (.cells v (fl (((X ++ P) ++ R.take t) ++ x :: (R.drop t ++ Y))))) (fun t => t ≤ R.length) (fun t => t) R.length (Nat.le_refl _) ?_ ?_ ?_
      · simp [go_sem]; omega
      · rw [← hBB] at hD
        rw [List.take_length, List.drop_length, List.nil_append]
        have e : X ++ P ++ R ++ x :: Y = D := by rw [hD]; simp only [List.append_assoc]
        rw [e]; exact (hset_id hh trivial).symm
      · intro t ht
        by_cases htj : 0 < t
        · obtain ⟨t, rfl⟩ : ∃ t', t = t' + 1 := ⟨t - 1, by omega⟩
          have e1 : R.drop t = R[t]'(by omega) :: R.drop (t + 1) := List.drop_eq_getElem_cons (by omega)
          have e2 : R.take (t + 1) = R.take t ++ [R[t]'(by omega)] := List.take_succ_eq_append_getElem (by omega)
          have htl : (R.take t).length = t := by rw [List.length_take]; omega
          have hdl : (R.drop (t + 1)).length = R.length - (t + 1) := List.length_drop ..
          rw [e2]
          generalize R[t]'(by omega) = y at *
          obtain ⟨p, hp⟩ : ∃ p, p = X.length + j + t := ⟨_, rfl⟩
          obtain ⟨q, hq⟩ : ∃ q, q = X.length + j + (t + 1) := ⟨_, rfl⟩
          have hw3 : IntKind.i64.wrap ((q : Int) - 1) = (p : Int) := wrap_nat (by omega) (by omega)
          have hli3 : decide (((X.length + j : Nat) : Int) < (q : Int)) = true := decide_eq_true (by omega)
          have l1 : ((X ++ P) ++ R.take t).length = p := by rw [List.length_append, List.length_append, htl, hl1, hp]
          have l2 : ∀ z, (((X ++ P) ++ R.take t) ++ [z]).length = q := fun z => by rw [List.length_append, l1, List.length_singleton, hp, hq]; omega
          have g1 := fl_get (x := y) (R := x :: (R.drop (t + 1) ++ Y)) l1
          have g2 := fl_get (x := x) (R := R.drop (t + 1) ++ Y) (l2 y)
          have s1 := fl_set (x := x) (y := y) (R := R.drop (t + 1) ++ Y) (l2 y)
          have s2 := fl_set (x := y) (y := x) (R := y :: (R.drop (t + 1) ++ Y)) l1
          simp only [List.append_assoc, List.cons_append, List.nil_append] at g1 g2 s1 s2
          rw [← hq]
          have hlq : ∀ z w, q * 7 + 7 ≤ (fl (X ++ (P ++ (R.take t ++ z :: w :: (R.drop (t + 1) ++ Y))))).length := fun z w => by rw [fl_len]; simp only [List.length_append, List.length_cons]; omega
          have hlp : ∀ z w, p * 7 + 7 ≤ (fl (X ++ (P ++ (R.take t ++ z :: w :: (R.drop (t + 1) ++ Y))))).length := fun z w => by rw [fl_len]; simp only [List.length_append, List.length_cons]; omega
          have a1 := hlp y x
          have a2 := hlq y x
          have a3 := hlp y y
          repeat' first | ((first | refine aw_region_mix (id := 11) [.free, .free, .free, .free, .free, .free, .free, .free, .pure 0, .pure 0, .free, .free, .pure 0, .pure 0, .pure 0, .eff [false, false, true, false, false], .pure 0, .eff [false, false]] mixedF rfl (by kernel_rfl) (by kernel_rfl) ?_ | refine aw_region_mix (id := 23) [.free, .free, .free, .free, .free, .free, .free, .free, .pure 0, .pure 0, .free, .free, .pure 0, .pure 0, .pure 0, .eff [false, false, true, false, false], .pure 0, .eff [false, false]] mixedF rfl (by kernel_rfl) (by kernel_rfl) ?_ | refine callP_false (.bool false) ?_ | refine aw_region rfl ?_ | refine aw_region_draw mixedF rfl (by kernel_rfl) ?_ | refine aw_ret ?_ | refine aw_skip ?_ | refine aw_exit ?_ | refine aw_label ?_); simp only [go_sem, aopsK, aopsG, aopsPK, aopsPG, aopsMK, aopsMG, aopsN, TypeDesc.isAgg, ↓reduceIte, Nat.reduceEqDiff, Nat.reduceAdd, Nat.reduceSub, Nat.reduceMul, Nat.reduceLeDiff, Nat.reduceLT, Nat.reduceBEq, Int.reduceNeg, Int.reduceLE, Int.reduceLT, Int.reduceToNat, String.reduceEq, Option.isSome_some, Option.isSome_none, Bool.false_eq_true, Bool.true_eq_false, not_true_eq_false, not_false_eq_true, true_and, and_true, and_self, List.getElem?_toArray, List.getElem?_cons_zero, List.getElem?_cons_succ, List.getElem?_nil, List.length_map, List.append_eq, List.range_zero, List.cons_append, List.nil_append, Nat.one_ne_zero, implies_true, hset1, hset2, hw3, hli3, g1, g2, s1, s2, opC_len, opC_one]) | refine aw_seq ?_ | refine aw_block ?_ | refine aw_scope ?_ | (refine aw_cond rfl (fun h => ?_) (fun h => ?_) <;> try (exfalso; first | (simp at h; done) | (simp at h; omega))) | ((with_reducible refine And.intro ?_ ?_); focus (first | omega | (intros; simp_all; done) | (simp; omega)))
          (repeat' (with_reducible refine And.intro ?_ ?_)) <;> try (first | omega | rfl)
          repeat' first | ((first | refine aw_region_mix (id := 11) [.free, .free, .free, .free, .free, .free, .free, .free, .pure 0, .pure 0, .free, .free, .pure 0, .pure 0, .pure 0, .eff [false, false, true, false, false], .pure 0, .eff [false, false]] mixedF rfl (by kernel_rfl) (by kernel_rfl) ?_ | refine aw_region_mix (id := 23) [.free, .free, .free, .free, .free, .free, .free, .free, .pure 0, .pure 0, .free, .free, .pure 0, .pure 0, .pure 0, .eff [false, false, true, false, false], .pure 0, .eff [false, false]] mixedF rfl (by kernel_rfl) (by kernel_rfl) ?_ | refine callP_false (.bool false) ?_ | refine aw_region rfl ?_ | refine aw_region_draw mixedF rfl (by kernel_rfl) ?_ | refine aw_ret ?_ | refine aw_skip ?_ | refine aw_exit ?_ | refine aw_label ?_); simp only [go_sem, aopsK, aopsG, aopsPK, aopsPG, aopsMK, aopsMG, aopsN, TypeDesc.isAgg, ↓reduceIte, Nat.reduceEqDiff, Nat.reduceAdd, Nat.reduceSub, Nat.reduceMul, Nat.reduceLeDiff, Nat.reduceLT, Nat.reduceBEq, Int.reduceNeg, Int.reduceLE, Int.reduceLT, Int.reduceToNat, String.reduceEq, Option.isSome_some, Option.isSome_none, Bool.false_eq_true, Bool.true_eq_false, not_true_eq_false, not_false_eq_true, true_and, and_true, and_self, List.getElem?_toArray, List.getElem?_cons_zero, List.getElem?_cons_succ, List.getElem?_nil, List.length_map, List.append_eq, List.range_zero, List.cons_append, List.nil_append, Nat.one_ne_zero, implies_true, hw3]) | refine aw_seq ?_ | refine aw_block ?_ | refine aw_scope ?_ | (refine aw_cond rfl (fun h => ?_) (fun h => ?_) <;> try (exfalso; first | (simp at h; done) | (simp at h; omega))) | ((with_reducible refine And.intro ?_ ?_); focus (first | omega | (intros; simp_all; done) | (simp; omega)))
          refine ⟨t, by omega, by omega, by rw [hp, Nat.add_assoc], ?_⟩
          rw [e1]; rfl
        · have hte : t = 0 := by omega
          subst hte
          have hli3 : decide (((X.length + j : Nat) : Int) < ((X.length + j : Nat) : Int)) = false := decide_eq_false (by omega)
          rw [Nat.add_zero]
          repeat' first | ((first | refine aw_region_mix (id := 11) [.free, .free, .free, .free, .free, .free, .free, .free, .pure 0, .pure 0, .free, .free, .pure 0, .pure 0, .pure 0, .eff [false, false, true, false, false], .pure 0, .eff [false, false]] mixedF rfl (by kernel_rfl) (by kernel_rfl) ?_ | refine aw_region_mix (id := 23) [.free, .free, .free, .free, .free, .free, .free, .free, .pure 0, .pure 0, .free, .free, .pure 0, .pure 0, .pure 0, .eff [false, false, true, false, false], .pure 0, .eff [false, false]] mixedF rfl (by kernel_rfl) (by kernel_rfl) ?_ | refine callP_false (.bool false) ?_ | refine aw_region rfl ?_ | refine aw_region_draw mixedF rfl (by kernel_rfl) ?_ | refine aw_ret ?_ | refine aw_skip ?_ | refine aw_exit ?_ | refine aw_label ?_); simp only [go_sem, aopsK, aopsG, aopsPK, aopsPG, aopsMK, aopsMG, aopsN, TypeDesc.isAgg, ↓reduceIte, Nat.reduceEqDiff, Nat.reduceAdd, Nat.reduceSub, Nat.reduceMul, Nat.reduceLeDiff, Nat.reduceLT, Nat.reduceBEq, Int.reduceNeg, Int.reduceLE, Int.reduceLT, Int.reduceToNat, String.reduceEq, Option.isSome_some, Option.isSome_none, Bool.false_eq_true, Bool.true_eq_false, not_true_eq_false, not_false_eq_true, true_and, and_true, and_self, List.getElem?_toArray, List.getElem?_cons_zero, List.getElem?_cons_succ, List.getElem?_nil, List.length_map, List.append_eq, List.range_zero, List.cons_append, List.nil_append, Nat.one_ne_zero, implies_true, hli3]) | refine aw_seq ?_ | refine aw_block ?_ | refine aw_scope ?_ | (refine aw_cond rfl (fun h => ?_) (fun h => ?_) <;> try (exfalso; first | (simp at h; done) | (simp at h; omega))) | ((with_reducible refine And.intro ?_ ?_); focus (first | omega | (intros; simp_all; done) | (simp; omega)))
          refine doneSet (clb_fl _ _ _) _ ⟨rfl, P ++ x :: R, ?_, ?_, ?_⟩
          · rw [← hBB]; exact ins_fs hw B2
          · rw [← hBB] at hB; exact ins_sd hw hB B2 B1
          · simp only [List.append_assoc, List.cons_append, List.nil_append, List.take_zero, List.drop_zero]
end Go.Proofs.Ytoffonjlfomnbaa

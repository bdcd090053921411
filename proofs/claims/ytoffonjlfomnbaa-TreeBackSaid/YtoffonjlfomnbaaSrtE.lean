/- Sorting of operations in memory: two ranges in order are merged. No condition. -/
import Derived.Test.YtoffonjlfomnbaaSrtD
namespace Go.Proofs.Ytoffonjlfomnbaa
open Go Go.Aw Go.Gw Go.Srt
set_option linter.unusedSimpArgs false
set_option maxRecDepth 20000
set_option maxHeartbeats 4000000

theorem fl_at {D : List Opn} {k : Nat} (h : k < D.length) : List.take 7 (List.drop (k * 7) (fl D)) = opCells D[k] := by
  have e : D = D.take k ++ D[k] :: D.drop (k + 1) := by rw [← List.drop_eq_getElem_cons h, List.take_append_drop]
  have h2 := fl_get (A := D.take k) (x := D[k]) (R := D.drop (k + 1)) (k := k) (by rw [List.length_take]; omega)
  rw [← e] at h2
  exact h2

/-- Searching in what is in order. -/
theorem bs_up {lt : Opn → Opn → Bool} (hw : SWO lt) {B : List Opn} (hB : Sd lt B) {x : Opn} {h : Nat} (hh : h < B.length) (hx : lt B[h] x = true) (k : Nat) (hk : k ≤ h) : lt (B[k]'(by omega)) x = true := by
  by_cases e : k = h
  · subst e; exact hx
  · exact hw.rtr (hB.get (show k < h by omega) hh) hx
theorem bs_dn {lt : Opn → Opn → Bool} (hw : SWO lt) {B : List Opn} (hB : Sd lt B) {x : Opn} {h : Nat} (hh : h < B.length) (hx : lt B[h] x = false) (k : Nat) (hk : h ≤ k) (hkl : k < B.length) : lt B[k] x = false := by
  by_cases e : k = h
  · subst e; exact hx
  · exact hw.ntr _ _ _ (hB.get (show h < k by omega) hkl) hx
theorem bs_up' {lt : Opn → Opn → Bool} (hw : SWO lt) {B : List Opn} (hB : Sd lt B) {x : Opn} {h : Nat} (hh : h < B.length) (hx : lt x B[h] = false) (k : Nat) (hk : k ≤ h) : lt x (B[k]'(by omega)) = false := by
  by_cases e : k = h
  · subst e; exact hx
  · exact hw.ntr _ _ _ hx (hB.get (show k < h by omega) hh)
theorem bs_dn' {lt : Opn → Opn → Bool} (hw : SWO lt) {B : List Opn} (hB : Sd lt B) {x : Opn} {h : Nat} (hh : h < B.length) (hx : lt x B[h] = true) (k : Nat) (hk : h ≤ k) (hkl : k < B.length) : lt x B[k] = true := by
  by_cases e : k = h
  · subst e; exact hx
  · exact hw.ltr hx (hB.get (show h < k by omega) hkl)
theorem mem_take_get {B : List Opn} {i : Nat} {p : Opn → Prop} (hi : i ≤ B.length) (h : ∀ k (hk : k < i), p (B[k]'(by omega))) : ∀ y ∈ B.take i, p y := by
  intro y hy
  obtain ⟨k, hk, rfl⟩ := List.getElem_of_mem hy
  rw [List.length_take] at hk
  rw [List.getElem_take]; exact h k (by omega)
theorem mem_drop_get {B : List Opn} {i : Nat} {p : Opn → Prop} (h : ∀ k (_ : i ≤ k) (hk : k < B.length), p B[k]) : ∀ y ∈ B.drop i, p y := by
  intro y hy
  obtain ⟨k, hk, rfl⟩ := List.getElem_of_mem hy
  rw [List.length_drop] at hk
  rw [List.getElem_drop]; exact h _ (by omega) (by omega)

theorem symA_c {X B Y D : List Opn} {x : Opn} {n : Nat} {a m b : Int} {lt : Opn → Opn → Bool} {c : Opn → Opn → Int} (hw : SWO lt) (hc : ∀ x y, decide (c x y < 0) = lt x y)
    (hD : D = X ++ x :: (B ++ Y)) (hB : Sd lt B) (hB0 : 0 < B.length) (hn : n = D.length) (ha : a = X.length) (hm : m = (X.length + 1 : Nat)) (hb : b = (X.length + 1 + B.length : Nat)) (fn : Fn) (fs cs : List AV) (hf : CmpC Try.prog (.func fn fs cs) c) (H : AHeap) (blk v lc : Nat)
    (hh : hget H blk = .cells v (fl D)) (hl : n ≤ 1000000000) :
    ACalls Try.prog 94 [.osl 7 blk v 0 n lc, .int .i64 a, .int .i64 m, .int .i64 b, .func fn fs cs] H
      (fun r H' => r = .tup [] ∧ ∃ S, Fs lt (x :: B) S ∧ Sd lt S ∧ H' = hset H blk (.cells v (fl (X ++ (S ++ Y))))) := by
  refine acalls_of Try.func94 rfl (Nat.le_of_ble_eq_true rfl) ?_
  have hset1 := fun b => hget_of hh trivial b
  have hset2 := hset_set H blk
  have hlen : n = X.length + (1 + (B.length + Y.length)) := by rw [hn, hD]; simp only [List.length_append, List.length_cons]; omega
  have hw1 : IntKind.i64.wrap (m - a) = 1 := by subst hm ha; rw [wrap_i64 (by omega) (by omega)]; omega
  obtain ⟨M, hM⟩ : ∃ M, M = X.length + 1 := ⟨_, rfl⟩
  rw [← hM] at hm hb
  have hDM : ∀ k (hk : k < B.length), D[M + k]'(by omega) = B[k] := by
    intro k hk
    have e : D = (X ++ [x]) ++ (B ++ Y) := by rw [hD, List.append_assoc]; rfl
    have e2 : M = (X ++ [x]).length := by rw [hM, List.length_append]; rfl
    subst e e2
    rw [List.getElem_append_right (by omega), List.getElem_append_left (by omega)]
    congr 1; omega
  have gx : List.take 7 (List.drop (X.length * 7) (fl D)) = opCells x := by rw [hD]; exact fl_get rfl
  have hxn : X.length * 7 + 7 ≤ (fl D).length := by rw [fl_len]; omega
  subst hm hb ha
  repeat' first | ((first | refine callP_false (.bool false) ?_ | refine aw_region rfl ?_ | refine aw_region_draw mixedF rfl (by kernel_rfl) ?_ | refine aw_ret ?_ | refine aw_skip ?_ | refine aw_exit ?_ | refine aw_label ?_); simp only [go_sem, aopsK, aopsG, aopsPK, aopsPG, aopsMK, aopsMG, aopsN, TypeDesc.isAgg, ↓reduceIte, Nat.reduceEqDiff, Nat.reduceAdd, Nat.reduceSub, Nat.reduceMul, Nat.reduceLeDiff, Nat.reduceLT, Nat.reduceBEq, Int.reduceNeg, Int.reduceLE, Int.reduceLT, Int.reduceToNat, String.reduceEq, Option.isSome_some, Option.isSome_none, Bool.false_eq_true, Bool.true_eq_false, not_true_eq_false, not_false_eq_true, true_and, and_true, and_self, List.getElem?_toArray, List.getElem?_cons_zero, List.getElem?_cons_succ, List.getElem?_nil, List.length_map, List.append_eq, List.range_zero, List.cons_append, List.nil_append, Nat.one_ne_zero, implies_true, hw1]) | refine aw_seq ?_ | refine aw_block ?_ | refine aw_scope ?_ | (refine aw_cond rfl (fun h => ?_) (fun h => ?_) <;> try (exfalso; first | (simp at h; done) | (simp at h; omega))) | ((with_reducible refine And.intro ?_ ?_); focus (first | omega | (intros; simp_all; done) | (simp; omega)))
  refine aw_loopS (ι := Nat × Nat) (fun s => [(0, .osl 7 blk v 0 n lc), (1, .int .i64 X.length), (4, .func fn fs cs), (10, .int .i64 (M + s.1 : Nat)), (11, .int .i64 (M + s.2 : Nat))]) (fun _ => H)
    (fun s => s.1 ≤ s.2 ∧ s.2 ≤ B.length ∧ (∀ k (hk : k < s.1) (hk2 : k < B.length), lt B[k] x = true) ∧ (∀ k (_ : s.2 ≤ k) (hk : k < B.length), lt B[k] x = false)) (fun s => s.2 - s.1) (0, B.length) ⟨Nat.zero_le _, Nat.le_refl _, fun k hk => by omega, fun k h1 h2 => by omega⟩ ?_ rfl ?_
  · simp [go_sem]
  · rintro ⟨i, j⟩ ⟨h1, h2, h3, h4⟩
    simp only at h1 h2 h3 h4 ⊢
    by_cases hij : i < j
    · obtain ⟨u, hhd⟩ : ∃ u, (M + i + (M + j)) / 2 = M + u := ⟨(M + i + (M + j)) / 2 - M, by omega⟩
      have hhl : u < B.length := by omega
      have hhf := mid_eq (i := M + i) (j := M + j) (n := M + B.length) (by omega) (by omega) (by omega)
      rw [hhd] at hhf
      obtain ⟨K, hK⟩ : ∃ K, K = M + u := ⟨_, rfl⟩
      have gK : List.take 7 (List.drop (K * 7) (fl D)) = opCells B[u] := by subst hK; rw [fl_at (by omega), hDM u hhl]
      have hKn : K * 7 + 7 ≤ (fl D).length := by rw [fl_len]; omega
      have hw2 : IntKind.i64.wrap ((K : Int) + 1) = ((M + (u + 1) : Nat) : Int) := wrap_nat (by omega) (by omega)
      rw [← hK] at hhf
      have hli : decide (((M + i : Nat) : Int) < ((M + j : Nat) : Int)) = true := decide_eq_true (by omega)
      repeat' first | ((first | refine aw_region_mix (id := 11) [.free, .free, .free, .free, .free, .free, .free, .free, .pure 0, .pure 0, .free, .free, .pure 0, .pure 0, .pure 0, .eff [false, false, true, false, false], .pure 0, .eff [false, false]] mixedF rfl (by kernel_rfl) (by kernel_rfl) ?_ | refine aw_region_mix (id := 23) [.free, .free, .free, .free, .free, .free, .free, .free, .pure 0, .pure 0, .free, .free, .pure 0, .pure 0, .pure 0, .eff [false, false, true, false, false], .pure 0, .eff [false, false]] mixedF rfl (by kernel_rfl) (by kernel_rfl) ?_ | refine callP_false (.bool false) ?_ | refine aw_region rfl ?_ | refine aw_region_draw mixedF rfl (by kernel_rfl) ?_ | refine aw_ret ?_ | refine aw_skip ?_ | refine aw_exit ?_ | refine aw_label ?_); simp only [go_sem, aopsK, aopsG, aopsPK, aopsPG, aopsMK, aopsMG, aopsN, TypeDesc.isAgg, ↓reduceIte, Nat.reduceEqDiff, Nat.reduceAdd, Nat.reduceSub, Nat.reduceMul, Nat.reduceLeDiff, Nat.reduceLT, Nat.reduceBEq, Int.reduceNeg, Int.reduceLE, Int.reduceLT, Int.reduceToNat, String.reduceEq, Option.isSome_some, Option.isSome_none, Bool.false_eq_true, Bool.true_eq_false, not_true_eq_false, not_false_eq_true, true_and, and_true, and_self, List.getElem?_toArray, List.getElem?_cons_zero, List.getElem?_cons_succ, List.getElem?_nil, List.length_map, List.append_eq, List.range_zero, List.cons_append, List.nil_append, Nat.one_ne_zero, implies_true, hli, hhf, hh, gK, gx]) | refine aw_seq ?_ | refine aw_block ?_ | refine aw_scope ?_ | (refine aw_cond rfl (fun h => ?_) (fun h => ?_) <;> try (exfalso; first | (simp at h; done) | (simp at h; omega))) | ((with_reducible refine And.intro ?_ ?_); focus (first | omega | (intros; simp_all; done) | (simp; omega)))
      (repeat' (with_reducible refine And.intro ?_ ?_)) <;> try (first | omega | rfl)
      refine callP_cmp hf ?_
      simp only [go_sem, aopsK, aopsG, aopsPK, aopsPG, aopsMK, aopsMG, aopsN, TypeDesc.isAgg, ↓reduceIte, Nat.reduceEqDiff, Nat.reduceAdd, Nat.reduceSub, Nat.reduceMul, Nat.reduceLeDiff, Nat.reduceLT, Nat.reduceBEq, Int.reduceNeg, Int.reduceLE, Int.reduceLT, Int.reduceToNat, String.reduceEq, Option.isSome_some, Option.isSome_none, Bool.false_eq_true, Bool.true_eq_false, not_true_eq_false, not_false_eq_true, true_and, and_true, and_self, List.getElem?_toArray, List.getElem?_cons_zero, List.getElem?_cons_succ, List.getElem?_nil, List.length_map, List.append_eq, List.range_zero, List.cons_append, List.nil_append, Nat.one_ne_zero, implies_true, hc]
      cases hxy : lt B[u] x with
      | false =>
        repeat' first | ((first | refine callP_false (.bool false) ?_ | refine aw_region rfl ?_ | refine aw_region_draw mixedF rfl (by kernel_rfl) ?_ | refine aw_ret ?_ | refine aw_skip ?_ | refine aw_exit ?_ | refine aw_label ?_); simp only [go_sem, aopsK, aopsG, aopsPK, aopsPG, aopsMK, aopsMG, aopsN, TypeDesc.isAgg, ↓reduceIte, Nat.reduceEqDiff, Nat.reduceAdd, Nat.reduceSub, Nat.reduceMul, Nat.reduceLeDiff, Nat.reduceLT, Nat.reduceBEq, Int.reduceNeg, Int.reduceLE, Int.reduceLT, Int.reduceToNat, String.reduceEq, Option.isSome_some, Option.isSome_none, Bool.false_eq_true, Bool.true_eq_false, not_true_eq_false, not_false_eq_true, true_and, and_true, and_self, List.getElem?_toArray, List.getElem?_cons_zero, List.getElem?_cons_succ, List.getElem?_nil, List.length_map, List.append_eq, List.range_zero, List.cons_append, List.nil_append, Nat.one_ne_zero, implies_true, hxy, hw2]) | refine aw_seq ?_ | refine aw_block ?_ | refine aw_scope ?_ | (refine aw_cond rfl (fun h => ?_) (fun h => ?_) <;> try (exfalso; first | (simp at h; done) | (simp at h; omega))) | ((with_reducible refine And.intro ?_ ?_); focus (first | omega | (intros; simp_all; done) | (simp; omega)))
        exact ⟨(i, u), ⟨by simp only; omega, by simp only; omega, h3, fun k q1 q2 => bs_dn hw hB hhl hxy k q1 q2⟩, by simp only; omega, rfl, by rw [hK]⟩
      | true =>
        repeat' first | ((first | refine callP_false (.bool false) ?_ | refine aw_region rfl ?_ | refine aw_region_draw mixedF rfl (by kernel_rfl) ?_ | refine aw_ret ?_ | refine aw_skip ?_ | refine aw_exit ?_ | refine aw_label ?_); simp only [go_sem, aopsK, aopsG, aopsPK, aopsPG, aopsMK, aopsMG, aopsN, TypeDesc.isAgg, ↓reduceIte, Nat.reduceEqDiff, Nat.reduceAdd, Nat.reduceSub, Nat.reduceMul, Nat.reduceLeDiff, Nat.reduceLT, Nat.reduceBEq, Int.reduceNeg, Int.reduceLE, Int.reduceLT, Int.reduceToNat, String.reduceEq, Option.isSome_some, Option.isSome_none, Bool.false_eq_true, Bool.true_eq_false, not_true_eq_false, not_false_eq_true, true_and, and_true, and_self, List.getElem?_toArray, List.getElem?_cons_zero, List.getElem?_cons_succ, List.getElem?_nil, List.length_map, List.append_eq, List.range_zero, List.cons_append, List.nil_append, Nat.one_ne_zero, implies_true, hxy, hw2]) | refine aw_seq ?_ | refine aw_block ?_ | refine aw_scope ?_ | (refine aw_cond rfl (fun h => ?_) (fun h => ?_) <;> try (exfalso; first | (simp at h; done) | (simp at h; omega))) | ((with_reducible refine And.intro ?_ ?_); focus (first | omega | (intros; simp_all; done) | (simp; omega)))
        exact ⟨(u + 1, j), ⟨by simp only; omega, by simp only; omega, fun k q1 q2 => bs_up hw hB hhl hxy k (by omega), h4⟩, by simp only; omega, rfl, rfl⟩
    · have hji : j = i := by omega
      subst hji
      have hli : decide (((M + j : Nat) : Int) < ((M + j : Nat) : Int)) = false := decide_eq_false (by omega)
      have hw2 : IntKind.i64.wrap (((M + j : Nat) : Int) - 1) = ((X.length + j : Nat) : Int) := wrap_nat (by omega) (by omega)
      have B1 : ∀ y ∈ B.take j, lt y x = true := mem_take_get h2 fun k hk => h3 k hk (by omega)
      have B2 : ∀ y ∈ B.drop j, lt y x = false := mem_drop_get h4
      have hBB := List.take_append_drop j B
      have hl1 : (B.take j).length = j := by rw [List.length_take]; omega
      generalize B.take j = P at *
      generalize B.drop j = R at *
      repeat' first | ((first | refine callP_false (.bool false) ?_ | refine aw_region rfl ?_ | refine aw_region_draw mixedF rfl (by kernel_rfl) ?_ | refine aw_ret ?_ | refine aw_skip ?_ | refine aw_exit ?_ | refine aw_label ?_); simp only [go_sem, aopsK, aopsG, aopsPK, aopsPG, aopsMK, aopsMG, aopsN, TypeDesc.isAgg, ↓reduceIte, Nat.reduceEqDiff, Nat.reduceAdd, Nat.reduceSub, Nat.reduceMul, Nat.reduceLeDiff, Nat.reduceLT, Nat.reduceBEq, Int.reduceNeg, Int.reduceLE, Int.reduceLT, Int.reduceToNat, String.reduceEq, Option.isSome_some, Option.isSome_none, Bool.false_eq_true, Bool.true_eq_false, not_true_eq_false, not_false_eq_true, true_and, and_true, and_self, List.getElem?_toArray, List.getElem?_cons_zero, List.getElem?_cons_succ, List.getElem?_nil, List.length_map, List.append_eq, List.range_zero, List.cons_append, List.nil_append, Nat.one_ne_zero, implies_true, hli]) | refine aw_seq ?_ | refine aw_block ?_ | refine aw_scope ?_ | (refine aw_cond rfl (fun h => ?_) (fun h => ?_) <;> try (exfalso; first | (simp at h; done) | (simp at h; omega))) | ((with_reducible refine And.intro ?_ ?_); focus (first | omega | (intros; simp_all; done) | (simp; omega)))
      refine aw_loopS (ι := Nat) (fun t => [(0, .osl 7 blk v 0 n lc), (10, .int .i64 (M + j : Nat)), (13, .int .i64 (X.length + t : Nat))])
        (fun t => hset H blk (.cells v (fl ((X ++ P.take t) ++ x :: (P.drop t ++ (R ++ Y)))))) (fun t => t ≤ j) (fun t => j - t) 0 (Nat.zero_le _) ?_ ?_ ?_
      · simp [go_sem]
      · rw [← hBB, List.append_assoc] at hD
        simp only [List.take_zero, List.drop_zero, List.append_nil]
        rw [← hD]; exact (hset_id hh trivial).symm
      · intro t ht
        by_cases htj : t < j
        · have e1 : P.drop t = P[t]'(by omega) :: P.drop (t + 1) := List.drop_eq_getElem_cons (by omega)
          have e2 : P.take (t + 1) = P.take t ++ [P[t]'(by omega)] := List.take_succ_eq_append_getElem (by omega)
          have hdl : (P.drop (t + 1)).length = j - (t + 1) := by rw [List.length_drop, hl1]
          have htl : (P.take t).length = t := by rw [List.length_take]; omega
          have hRl : P.length + R.length = B.length := by rw [← hBB, List.length_append]
          rw [e1]
          generalize P[t]'(by omega) = y at *
          obtain ⟨p, hp⟩ : ∃ p, p = X.length + t := ⟨_, rfl⟩
          obtain ⟨q, hq⟩ : ∃ q, q = X.length + t + 1 := ⟨_, rfl⟩
          have hw3 : IntKind.i64.wrap ((p : Int) + 1) = (q : Int) := wrap_nat (by omega) (by omega)
          have hli3 : decide ((p : Int) < ((X.length + j : Nat) : Int)) = true := decide_eq_true (by omega)
          have l1 : (X ++ P.take t).length = p := by rw [List.length_append, htl, hp]
          have l2 : ∀ z, ((X ++ P.take t) ++ [z]).length = q := fun z => by rw [List.length_append, l1, List.length_singleton, hp, hq]
          have g1 := fl_get (x := x) (R := y :: (P.drop (t + 1) ++ (R ++ Y))) l1
          have g2 := fl_get (x := y) (R := P.drop (t + 1) ++ (R ++ Y)) (l2 x)
          have s1 := fl_set (x := x) (y := y) (R := y :: (P.drop (t + 1) ++ (R ++ Y))) l1
          have s2 := fl_set (x := y) (y := x) (R := P.drop (t + 1) ++ (R ++ Y)) (l2 y)
          simp only [List.append_assoc, List.cons_append, List.nil_append] at g1 g2 s1 s2
          rw [← hp]
          have hlq : ∀ z w, q * 7 + 7 ≤ (fl (X ++ (P.take t ++ z :: w :: (P.drop (t + 1) ++ (R ++ Y))))).length := fun z w => by rw [fl_len]; simp only [List.length_append, List.length_cons]; omega
          have hlp : ∀ z w, p * 7 + 7 ≤ (fl (X ++ (P.take t ++ z :: w :: (P.drop (t + 1) ++ (R ++ Y))))).length := fun z w => by rw [fl_len]; simp only [List.length_append, List.length_cons]; omega
          have a1 := hlp x y
          have a2 := hlq x y
          have a3 := hlq y y
          repeat' first | ((first | refine aw_region_mix (id := 11) [.free, .free, .free, .free, .free, .free, .free, .free, .pure 0, .pure 0, .free, .free, .pure 0, .pure 0, .pure 0, .eff [false, false, true, false, false], .pure 0, .eff [false, false]] mixedF rfl (by kernel_rfl) (by kernel_rfl) ?_ | refine aw_region_mix (id := 23) [.free, .free, .free, .free, .free, .free, .free, .free, .pure 0, .pure 0, .free, .free, .pure 0, .pure 0, .pure 0, .eff [false, false, true, false, false], .pure 0, .eff [false, false]] mixedF rfl (by kernel_rfl) (by kernel_rfl) ?_ | refine callP_false (.bool false) ?_ | refine aw_region rfl ?_ | refine aw_region_draw mixedF rfl (by kernel_rfl) ?_ | refine aw_ret ?_ | refine aw_skip ?_ | refine aw_exit ?_ | refine aw_label ?_); simp only [go_sem, aopsK, aopsG, aopsPK, aopsPG, aopsMK, aopsMG, aopsN, TypeDesc.isAgg, ↓reduceIte, Nat.reduceEqDiff, Nat.reduceAdd, Nat.reduceSub, Nat.reduceMul, Nat.reduceLeDiff, Nat.reduceLT, Nat.reduceBEq, Int.reduceNeg, Int.reduceLE, Int.reduceLT, Int.reduceToNat, String.reduceEq, Option.isSome_some, Option.isSome_none, Bool.false_eq_true, Bool.true_eq_false, not_true_eq_false, not_false_eq_true, true_and, and_true, and_self, List.getElem?_toArray, List.getElem?_cons_zero, List.getElem?_cons_succ, List.getElem?_nil, List.length_map, List.append_eq, List.range_zero, List.cons_append, List.nil_append, Nat.one_ne_zero, implies_true, hset1, hset2, hw2, hw3, hli3, g1, g2, s1, s2, opC_len, opC_one]) | refine aw_seq ?_ | refine aw_block ?_ | refine aw_scope ?_ | (refine aw_cond rfl (fun h => ?_) (fun h => ?_) <;> try (exfalso; first | (simp at h; done) | (simp at h; omega))) | ((with_reducible refine And.intro ?_ ?_); focus (first | omega | (intros; simp_all; done) | (simp; omega)))
          (repeat' (with_reducible refine And.intro ?_ ?_)) <;> try (first | omega | rfl)
          repeat' first | ((first | refine aw_region_mix (id := 11) [.free, .free, .free, .free, .free, .free, .free, .free, .pure 0, .pure 0, .free, .free, .pure 0, .pure 0, .pure 0, .eff [false, false, true, false, false], .pure 0, .eff [false, false]] mixedF rfl (by kernel_rfl) (by kernel_rfl) ?_ | refine aw_region_mix (id := 23) [.free, .free, .free, .free, .free, .free, .free, .free, .pure 0, .pure 0, .free, .free, .pure 0, .pure 0, .pure 0, .eff [false, false, true, false, false], .pure 0, .eff [false, false]] mixedF rfl (by kernel_rfl) (by kernel_rfl) ?_ | refine callP_false (.bool false) ?_ | refine aw_region rfl ?_ | refine aw_region_draw mixedF rfl (by kernel_rfl) ?_ | refine aw_ret ?_ | refine aw_skip ?_ | refine aw_exit ?_ | refine aw_label ?_); simp only [go_sem, aopsK, aopsG, aopsPK, aopsPG, aopsMK, aopsMG, aopsN, TypeDesc.isAgg, ↓reduceIte, Nat.reduceEqDiff, Nat.reduceAdd, Nat.reduceSub, Nat.reduceMul, Nat.reduceLeDiff, Nat.reduceLT, Nat.reduceBEq, Int.reduceNeg, Int.reduceLE, Int.reduceLT, Int.reduceToNat, String.reduceEq, Option.isSome_some, Option.isSome_none, Bool.false_eq_true, Bool.true_eq_false, not_true_eq_false, not_false_eq_true, true_and, and_true, and_self, List.getElem?_toArray, List.getElem?_cons_zero, List.getElem?_cons_succ, List.getElem?_nil, List.length_map, List.append_eq, List.range_zero, List.cons_append, List.nil_append, Nat.one_ne_zero, implies_true, hw3]) | refine aw_seq ?_ | refine aw_block ?_ | refine aw_scope ?_ | (refine aw_cond rfl (fun h => ?_) (fun h => ?_) <;> try (exfalso; first | (simp at h; done) | (simp at h; omega))) | ((with_reducible refine And.intro ?_ ?_); focus (first | omega | (intros; simp_all; done) | (simp; omega)))
          refine ⟨t + 1, htj, by omega, by rw [hq]; rfl, ?_⟩
          rw [e2]; simp only [List.append_assoc, List.cons_append, List.nil_append]
        · have hte : t = j := by omega
          have hli3 : decide (((X.length + t : Nat) : Int) < ((X.length + j : Nat) : Int)) = false := decide_eq_false (by omega)
          repeat' first | ((first | refine aw_region_mix (id := 11) [.free, .free, .free, .free, .free, .free, .free, .free, .pure 0, .pure 0, .free, .free, .pure 0, .pure 0, .pure 0, .eff [false, false, true, false, false], .pure 0, .eff [false, false]] mixedF rfl (by kernel_rfl) (by kernel_rfl) ?_ | refine aw_region_mix (id := 23) [.free, .free, .free, .free, .free, .free, .free, .free, .pure 0, .pure 0, .free, .free, .pure 0, .pure 0, .pure 0, .eff [false, false, true, false, false], .pure 0, .eff [false, false]] mixedF rfl (by kernel_rfl) (by kernel_rfl) ?_ | refine callP_false (.bool false) ?_ | refine aw_region rfl ?_ | refine aw_region_draw mixedF rfl (by kernel_rfl) ?_ | refine aw_ret ?_ | refine aw_skip ?_ | refine aw_exit ?_ | refine aw_label ?_); simp only [go_sem, aopsK, aopsG, aopsPK, aopsPG, aopsMK, aopsMG, aopsN, TypeDesc.isAgg, ↓reduceIte, Nat.reduceEqDiff, Nat.reduceAdd, Nat.reduceSub, Nat.reduceMul, Nat.reduceLeDiff, Nat.reduceLT, Nat.reduceBEq, Int.reduceNeg, Int.reduceLE, Int.reduceLT, Int.reduceToNat, String.reduceEq, Option.isSome_some, Option.isSome_none, Bool.false_eq_true, Bool.true_eq_false, not_true_eq_false, not_false_eq_true, true_and, and_true, and_self, List.getElem?_toArray, List.getElem?_cons_zero, List.getElem?_cons_succ, List.getElem?_nil, List.length_map, List.append_eq, List.range_zero, List.cons_append, List.nil_append, Nat.one_ne_zero, implies_true, hw2, hli3]) | refine aw_seq ?_ | refine aw_block ?_ | refine aw_scope ?_ | (refine aw_cond rfl (fun h => ?_) (fun h => ?_) <;> try (exfalso; first | (simp at h; done) | (simp at h; omega))) | ((with_reducible refine And.intro ?_ ?_); focus (first | omega | (intros; simp_all; done) | (simp; omega)))
          refine doneSet (clb_fl _ _ _) _ ⟨rfl, P ++ x :: R, ?_, ?_, ?_⟩
          · have h := (Fs.swap hw (A := [x]) (B := P) (fun a ha b hb => by rw [List.mem_singleton] at ha; subst ha; exact B1 b hb)).app (.refl (lt := lt) R)
            rw [← hBB]
            simpa using h
          · rw [← hBB] at hB
            refine Sd.app hB.left (List.pairwise_cons.2 ⟨B2, hB.right⟩) fun y hy z hz => ?_
            rcases List.mem_cons.1 hz with rfl | hz
            · exact hw.asy _ _ (B1 y hy)
            · exact hB.cross y hy z hz
          · rw [hte, ← hl1, List.take_length, List.drop_length]
            simp only [List.append_assoc, List.cons_append, List.nil_append]
end Go.Proofs.Ytoffonjlfomnbaa

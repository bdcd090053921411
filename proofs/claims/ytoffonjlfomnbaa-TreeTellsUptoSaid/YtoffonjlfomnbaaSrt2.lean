/- Sorting of operations in memory: merging. No condition. -/
import Derived.Test.YtoffonjlfomnbaaSrt1
namespace Go.Proofs.Ytoffonjlfomnbaa
open Go Go.Aw Go.Gw Go.Srt
set_option linter.unusedSimpArgs false
set_option maxRecDepth 20000
set_option maxHeartbeats 4000000

theorem fl_at {D : List Opn} {k : Nat} (h : k < D.length) : List.take 7 (List.drop (k * 7) (fl D)) = opCells D[k] := by
  have e : D = D.take k ++ D[k] :: D.drop (k + 1) := by rw [← List.drop_eq_getElem_cons h, List.take_append_drop]
  have h2 := fl_get (A := D.take k) (x := D[k]) (R := D.drop (k + 1)) (k := k) (by rw [List.length_take]; omega)
  rw [← e] at h2
  exact h2

/-- Searching in what is in order. -/
theorem bs_up {lt : Opn → Opn → Bool} (hw : SWO lt) {B : List Opn} (hB : Sd lt B) {x : Opn} {h : Nat} (hh : h < B.length) (hx : lt B[h] x = true) (k : Nat) (hk : k ≤ h) : lt (B[k]'(by omega)) x = true := by
  by_cases e : k = h
  · subst e; exact hx
  · exact hw.rtr (hB.get (show k < h by omega) hh) hx
theorem bs_dn {lt : Opn → Opn → Bool} (hw : SWO lt) {B : List Opn} (hB : Sd lt B) {x : Opn} {h : Nat} (hh : h < B.length) (hx : lt B[h] x = false) (k : Nat) (hk : h ≤ k) (hkl : k < B.length) : lt B[k] x = false := by
  by_cases e : k = h
  · subst e; exact hx
  · exact hw.ntr _ _ _ (hB.get (show h < k by omega) hkl) hx
theorem bs_up' {lt : Opn → Opn → Bool} (hw : SWO lt) {B : List Opn} (hB : Sd lt B) {x : Opn} {h : Nat} (hh : h < B.length) (hx : lt x B[h] = false) (k : Nat) (hk : k ≤ h) : lt x (B[k]'(by omega)) = false := by
  by_cases e : k = h
  · subst e; exact hx
  · exact hw.ntr _ _ _ hx (hB.get (show k < h by omega) hh)
theorem bs_dn' {lt : Opn → Opn → Bool} (hw : SWO lt) {B : List Opn} (hB : Sd lt B) {x : Opn} {h : Nat} (hh : h < B.length) (hx : lt x B[h] = true) (k : Nat) (hk : h ≤ k) (hkl : k < B.length) : lt x B[k] = true := by
  by_cases e : k = h
  · subst e; exact hx
  · exact hw.ltr hx (hB.get (show h < k by omega) hkl)
theorem mem_take_get {B : List Opn} {i : Nat} {p : Opn → Prop} (hi : i ≤ B.length) (h : ∀ k (hk : k < i), p (B[k]'(by omega))) : ∀ y ∈ B.take i, p y := by
  intro y hy
  obtain ⟨k, hk, rfl⟩ := List.getElem_of_mem hy
  rw [List.length_take] at hk
  rw [List.getElem_take]; exact h k (by omega)
theorem mem_drop_get {B : List Opn} {i : Nat} {p : Opn → Prop} (h : ∀ k (_ : i ≤ k) (hk : k < B.length), p B[k]) : ∀ y ∈ B.drop i, p y := by
  intro y hy
  obtain ⟨k, hk, rfl⟩ := List.getElem_of_mem hy
  rw [List.length_drop] at hk
  rw [List.getElem_drop]; exact h _ (by omega) (by omega)

theorem symA_c {X B Y D : List Opn} {x : Opn} {n : Nat} {a m b : Int} {lt : Opn → Opn → Bool} {c : Opn → Opn → Int} (hw : SWO lt) (hc : ∀ x y, decide (c x y < 0) = lt x y)
    (hD : D = X ++ x :: (B ++ Y)) (hB : Sd lt B) (hB0 : 0 < B.length) (hn : n = D.length) (ha : a = X.length) (hm : m = (X.length + 1 : Nat)) (hb : b = (X.length + 1 + B.length : Nat)) (fn : Fn) (fs cs : List AV) (hf : CmpC Try.prog (.func fn fs cs) c) (H : AHeap) (blk v lc : Nat)
    (hh : hget H blk = .cells v (fl D)) (hl : n ≤ 1000000000) :
    ACalls Try.prog 94 [.osl 7 blk v 0 n lc, .int .i64 a, .int .i64 m, .int .i64 b, .func fn fs cs] H
      (fun r H' => r = .tup [] ∧ ∃ S, Fs lt (x :: B) S ∧ Sd lt S ∧ H' = hset H blk (.cells v (fl (X ++ (S ++ Y))))) := by
  refine acalls_of Try.func94 rfl (Nat.le_of_ble_eq_true rfl) ?_
  have hset1 := fun b => hget_of hh trivial b
  have hset2 := hset_set H blk
  have hlen : n = X.length + (1 + (B.length + Y.length)) := by rw [hn, hD]; simp only [List.length_append, List.length_cons]; omega
  have hw1 : IntKind.i64.wrap (m - a) = 1 := by subst hm ha; rw [wrap_i64 (by omega) (by omega)]; omega
  obtain ⟨M, hM⟩ : ∃ M, M = X.length + 1 := ⟨_, rfl⟩
  rw [← hM] at hm hb
  have hDM : ∀ k (hk : k < B.length), D[M + k]'(by omega) = B[k] := by
    intro k hk
    have e : D = (X ++ [x]) ++ (B ++ Y) := by rw [hD, List.append_assoc]; rfl
    have e2 : M = (X ++ [x]).length := by rw [hM, List.length_append]; rfl
    subst e e2
    rw [List.getElem_append_right (by omega), List.getElem_append_left (by omega)]
    congr 1; omega
  have gx : List.take 7 (List.drop (X.length * 7) (fl D)) = opCells x := by rw [hD]; exact fl_get rfl
  have hxn : X.length * 7 + 7 ≤ (fl D).length := by rw [fl_len]; omega
  subst hm hb ha
  repeat' first | ((first | refine callP_false (.bool false) ?_ | refine aw_region rfl ?_ | refine aw_region_draw mixedF rfl (by kernel_rfl) ?_ | refine aw_ret ?_ | refine aw_skip ?_ | refine aw_exit ?_ | refine aw_label ?_); simp only [go_sem, ↓reduceIte, Nat.reduceEqDiff, Nat.reduceAdd, Nat.reduceSub, Nat.reduceMul, Nat.reduceLeDiff, Nat.reduceLT, Nat.reduceBEq, Int.reduceNeg, Int.reduceLE, Int.reduceLT, Int.reduceToNat, String.reduceEq, hw1]) | refine aw_seq ?_ | refine aw_block ?_ | refine aw_scope ?_ | (refine aw_cond rfl (fun h => ?_) (fun h => ?_) <;> try (exfalso; first | (simp at h; done) | (simp at h; omega))) | ((with_reducible refine And.intro ?_ ?_); focus (first | omega | (intros; simp_all; done) | (simp; omega)))
  refine aw_loopS (ι := Nat × Nat) (fun s => [(0, .osl 7 blk v 0 n lc), (1, .int .i64 X.length), (4, .func fn fs cs), (10, .int .i64 (M + s.1 : Nat)), (11, .int .i64 (M + s.2 : Nat))]) (fun _ => H)
    (fun s => s.1 ≤ s.2 ∧ s.2 ≤ B.length ∧ (∀ k (hk : k < s.1) (hk2 : k < B.length), lt B[k] x = true) ∧ (∀ k (_ : s.2 ≤ k) (hk : k < B.length), lt B[k] x = false)) (fun s => s.2 - s.1) (0, B.length) ⟨Nat.zero_le _, Nat.le_refl _, fun k hk => by omega, fun k h1 h2 => by omega⟩ ?_ rfl ?_
  · simp [go_sem]
  · rintro ⟨i, j⟩ ⟨h1, h2, h3, h4⟩
    simp only at h1 h2 h3 h4 ⊢
    by_cases hij : i < j
    · obtain ⟨u, hhd⟩ : ∃ u, (M + i + (M + j)) / 2 = M + u := ⟨(M + i + (M + j)) / 2 - M, by omega⟩
      have hhl : u < B.length := by omega
      have hhf := mid_eq (i := M + i) (j := M + j) (n := M + B.length) (by omega) (by omega) (by omega)
      rw [hhd] at hhf
      obtain ⟨K, hK⟩ : ∃ K, K = M + u := ⟨_, rfl⟩
      have gK : List.take 7 (List.drop (K * 7) (fl D)) = opCells B[u] := by subst hK; rw [fl_at (by omega), hDM u hhl]
      have hKn : K * 7 + 7 ≤ (fl D).length := by rw [fl_len]; omega
      have hw2 : IntKind.i64.wrap ((K : Int) + 1) = ((M + (u + 1) : Nat) : Int) := wrap_nat (by omega) (by omega)
      rw [← hK] at hhf
      have hli : decide (((M + i : Nat) : Int) < ((M + j : Nat) : Int)) = true := decide_eq_true (by omega)
      repeat' first | ((first | refine aw_region_mix (id := 11) [.free, .free, .free, .free, .free, .free, .free, .free, .pure 0, .pure 0, .free, .free, .pure 0, .pure 0, .pure 0, .eff [false, false, true, false, false], .pure 0, .eff [false, false]] mixedF rfl (by kernel_rfl) (by kernel_rfl) ?_ | refine aw_region_mix (id := 23) [.free, .free, .free, .free, .free, .free, .free, .free, .pure 0, .pure 0, .free, .free, .pure 0, .pure 0, .pure 0, .eff [false, false, true, false, false], .pure 0, .eff [false, false]] mixedF rfl (by kernel_rfl) (by kernel_rfl) ?_ | refine callP_false (.bool false) ?_ | refine aw_region rfl ?_ | refine aw_region_draw mixedF rfl (by kernel_rfl) ?_ | refine aw_ret ?_ | refine aw_skip ?_ | refine aw_exit ?_ | refine aw_label ?_); simp only [go_sem, ↓reduceIte, Nat.reduceEqDiff, Nat.reduceAdd, Nat.reduceSub, Nat.reduceMul, Nat.reduceLeDiff, Nat.reduceLT, Nat.reduceBEq, Int.reduceNeg, Int.reduceLE, Int.reduceLT, Int.reduceToNat, String.reduceEq, hli, hhf, hh, gK, gx]) | refine aw_seq ?_ | refine aw_block ?_ | refine aw_scope ?_ | (refine aw_cond rfl (fun h => ?_) (fun h => ?_) <;> try (exfalso; first | (simp at h; done) | (simp at h; omega))) | ((with_reducible refine And.intro ?_ ?_); focus (first | omega | (intros; simp_all; done) | (simp; omega)))
      (repeat' (with_reducible refine And.intro ?_ ?_)) <;> try (first | omega | rfl)
      refine callP_cmp hf ?_
      simp only [go_sem, ↓reduceIte, Nat.reduceEqDiff, Nat.reduceAdd, Nat.reduceSub, Nat.reduceMul, Nat.reduceLeDiff, Nat.reduceLT, Nat.reduceBEq, Int.reduceNeg, Int.reduceLE, Int.reduceLT, Int.reduceToNat, String.reduceEq, hc]
      cases hxy : lt B[u] x with
      | false =>
        repeat' first | ((first | refine callP_false (.bool false) ?_ | refine aw_region rfl ?_ | refine aw_region_draw mixedF rfl (by kernel_rfl) ?_ | refine aw_ret ?_ | refine aw_skip ?_ | refine aw_exit ?_ | refine aw_label ?_); simp only [go_sem, ↓reduceIte, Nat.reduceEqDiff, Nat.reduceAdd, Nat.reduceSub, Nat.reduceMul, Nat.reduceLeDiff, Nat.reduceLT, Nat.reduceBEq, Int.reduceNeg, Int.reduceLE, Int.reduceLT, Int.reduceToNat, String.reduceEq, hxy, hw2]) | refine aw_seq ?_ | refine aw_block ?_ | refine aw_scope ?_ | (refine aw_cond rfl (fun h => ?_) (fun h => ?_) <;> try (exfalso; first | (simp at h; done) | (simp at h; omega))) | ((with_reducible refine And.intro ?_ ?_); focus (first | omega | (intros; simp_all; done) | (simp; omega)))
        exact ⟨(i, u), ⟨by simp only; omega, by simp only; omega, h3, fun k q1 q2 => bs_dn hw hB hhl hxy k q1 q2⟩, by simp only; omega, rfl, by rw [hK]⟩
      | true =>
        repeat' first | ((first | refine callP_false (.bool false) ?_ | refine aw_region rfl ?_ | refine aw_region_draw mixedF rfl (by kernel_rfl) ?_ | refine aw_ret ?_ | refine aw_skip ?_ | refine aw_exit ?_ | refine aw_label ?_); simp only [go_sem, ↓reduceIte, Nat.reduceEqDiff, Nat.reduceAdd, Nat.reduceSub, Nat.reduceMul, Nat.reduceLeDiff, Nat.reduceLT, Nat.reduceBEq, Int.reduceNeg, Int.reduceLE, Int.reduceLT, Int.reduceToNat, String.reduceEq, hxy, hw2]) | refine aw_seq ?_ | refine aw_block ?_ | refine aw_scope ?_ | (refine aw_cond rfl (fun h => ?_) (fun h => ?_) <;> try (exfalso; first | (simp at h; done) | (simp at h; omega))) | ((with_reducible refine And.intro ?_ ?_); focus (first | omega | (intros; simp_all; done) | (simp; omega)))
        exact ⟨(u + 1, j), ⟨by simp only; omega, by simp only; omega, fun k q1 q2 => bs_up hw hB hhl hxy k (by omega), h4⟩, by simp only; omega, rfl, rfl⟩
    · have hji : j = i := by omega
      subst hji
      have hli : decide (((M + j : Nat) : Int) < ((M + j : Nat) : Int)) = false := decide_eq_false (by omega)
      have hw2 : IntKind.i64.wrap (((M + j : Nat) : Int) - 1) = ((X.length + j : Nat) : Int) := wrap_nat (by omega) (by omega)
      have B1 : ∀ y ∈ B.take j, lt y x = true := mem_take_get h2 fun k hk => h3 k hk (by omega)
      have B2 : ∀ y ∈ B.drop j, lt y x = false := mem_drop_get h4
      have hBB := List.take_append_drop j B
      have hl1 : (B.take j).length = j := by rw [List.length_take]; omega
      generalize B.take j = P at *
      generalize B.drop j = R at *
      repeat' first | ((first | refine callP_false (.bool false) ?_ | refine aw_region rfl ?_ | refine aw_region_draw mixedF rfl (by kernel_rfl) ?_ | refine aw_ret ?_ | refine aw_skip ?_ | refine aw_exit ?_ | refine aw_label ?_); simp only [go_sem, ↓reduceIte, Nat.reduceEqDiff, Nat.reduceAdd, Nat.reduceSub, Nat.reduceMul, Nat.reduceLeDiff, Nat.reduceLT, Nat.reduceBEq, Int.reduceNeg, Int.reduceLE, Int.reduceLT, Int.reduceToNat, String.reduceEq, hli]) | refine aw_seq ?_ | refine aw_block ?_ | refine aw_scope ?_ | (refine aw_cond rfl (fun h => ?_) (fun h => ?_) <;> try (exfalso; first | (simp at h; done) | (simp at h; omega))) | ((with_reducible refine And.intro ?_ ?_); focus (first | omega | (intros; simp_all; done) | (simp; omega)))
      refine aw_loopS (ι := Nat) (fun t => [(0, .osl 7 blk v 0 n lc), (10, .int .i64 (M + j : Nat)), (13, .int .i64 (X.length + t : Nat))])
        (fun t => hset H blk (.cells v (fl ((X ++ P.take t) ++ x :: (P.drop t ++ (R ++ Y)))))) (fun t => t ≤ j) (fun t => j - t) 0 (Nat.zero_le _) ?_ ?_ ?_
      · simp [go_sem]
      · rw [← hBB, List.append_assoc] at hD
        simp only [List.take_zero, List.drop_zero, List.append_nil]
        rw [← hD]; exact (hset_id hh trivial).symm
      · intro t ht
        by_cases htj : t < j
        · have e1 : P.drop t = P[t]'(by omega) :: P.drop (t + 1) := List.drop_eq_getElem_cons (by omega)
          have e2 : P.take (t + 1) = P.take t ++ [P[t]'(by omega)] := List.take_succ_eq_append_getElem (by omega)
          have hdl : (P.drop (t + 1)).length = j - (t + 1) := by rw [List.length_drop, hl1]
          have htl : (P.take t).length = t := by rw [List.length_take]; omega
          have hRl : P.length + R.length = B.length := by rw [← hBB, List.length_append]
          rw [e1]
          generalize P[t]'(by omega) = y at *
          obtain ⟨p, hp⟩ : ∃ p, p = X.length + t := ⟨_, rfl⟩
          obtain ⟨q, hq⟩ : ∃ q, q = X.length + t + 1 := ⟨_, rfl⟩
          have hw3 : IntKind.i64.wrap ((p : Int) + 1) = (q : Int) := wrap_nat (by omega) (by omega)
          have hli3 : decide ((p : Int) < ((X.length + j : Nat) : Int)) = true := decide_eq_true (by omega)
          have l1 : (X ++ P.take t).length = p := by rw [List.length_append, htl, hp]
          have l2 : ∀ z, ((X ++ P.take t) ++ [z]).length = q := fun z => by rw [List.length_append, l1, List.length_singleton, hp, hq]
          have g1 := fl_get (x := x) (R := y :: (P.drop (t + 1) ++ (R ++ Y))) l1
          have g2 := fl_get (x := y) (R := P.drop (t + 1) ++ (R ++ Y)) (l2 x)
          have s1 := fl_set (x := x) (y := y) (R := y :: (P.drop (t + 1) ++ (R ++ Y))) l1
          have s2 := fl_set (x := y) (y := x) (R := P.drop (t + 1) ++ (R ++ Y)) (l2 y)
          simp only [List.append_assoc, List.cons_append, List.nil_append] at g1 g2 s1 s2
          rw [← hp]
          have hlq : ∀ z w, q * 7 + 7 ≤ (fl (X ++ (P.take t ++ z :: w :: (P.drop (t + 1) ++ (R ++ Y))))).length := fun z w => by rw [fl_len]; simp only [List.length_append, List.length_cons]; omega
          have hlp : ∀ z w, p * 7 + 7 ≤ (fl (X ++ (P.take t ++ z :: w :: (P.drop (t + 1) ++ (R ++ Y))))).length := fun z w => by rw [fl_len]; simp only [List.length_append, List.length_cons]; omega
          have a1 := hlp x y
          have a2 := hlq x y
          have a3 := hlq y y
          repeat' first | ((first | refine aw_region_mix (id := 11) [.free, .free, .free, .free, .free, .free, .free, .free, .pure 0, .pure 0, .free, .free, .pure 0, .pure 0, .pure 0, .eff [false, false, true, false, false], .pure 0, .eff [false, false]] mixedF rfl (by kernel_rfl) (by kernel_rfl) ?_ | refine aw_region_mix (id := 23) [.free, .free, .free, .free, .free, .free, .free, .free, .pure 0, .pure 0, .free, .free, .pure 0, .pure 0, .pure 0, .eff [false, false, true, false, false], .pure 0, .eff [false, false]] mixedF rfl (by kernel_rfl) (by kernel_rfl) ?_ | refine callP_false (.bool false) ?_ | refine aw_region rfl ?_ | refine aw_region_draw mixedF rfl (by kernel_rfl) ?_ | refine aw_ret ?_ | refine aw_skip ?_ | refine aw_exit ?_ | refine aw_label ?_); simp only [go_sem, ↓reduceIte, Nat.reduceEqDiff, Nat.reduceAdd, Nat.reduceSub, Nat.reduceMul, Nat.reduceLeDiff, Nat.reduceLT, Nat.reduceBEq, Int.reduceNeg, Int.reduceLE, Int.reduceLT, Int.reduceToNat, String.reduceEq, hset1, hset2, hw2, hw3, hli3, g1, g2, s1, s2, opC_len, opC_one]) | refine aw_seq ?_ | refine aw_block ?_ | refine aw_scope ?_ | (refine aw_cond rfl (fun h => ?_) (fun h => ?_) <;> try (exfalso; first | (simp at h; done) | (simp at h; omega))) | ((with_reducible refine And.intro ?_ ?_); focus (first | omega | (intros; simp_all; done) | (simp; omega)))
          (repeat' (with_reducible refine And.intro ?_ ?_)) <;> try (first | omega | rfl)
          repeat' first | ((first | refine aw_region_mix (id := 11) [.free, .free, .free, .free, .free, .free, .free, .free, .pure 0, .pure 0, .free, .free, .pure 0, .pure 0, .pure 0, .eff [false, false, true, false, false], .pure 0, .eff [false, false]] mixedF rfl (by kernel_rfl) (by kernel_rfl) ?_ | refine aw_region_mix (id := 23) [.free, .free, .free, .free, .free, .free, .free, .free, .pure 0, .pure 0, .free, .free, .pure 0, .pure 0, .pure 0, .eff [false, false, true, false, false], .pure 0, .eff [false, false]] mixedF rfl (by kernel_rfl) (by kernel_rfl) ?_ | refine callP_false (.bool false) ?_ | refine aw_region rfl ?_ | refine aw_region_draw mixedF rfl (by kernel_rfl) ?_ | refine aw_ret ?_ | refine aw_skip ?_ | refine aw_exit ?_ | refine aw_label ?_); simp only [go_sem, ↓reduceIte, Nat.reduceEqDiff, Nat.reduceAdd, Nat.reduceSub, Nat.reduceMul, Nat.reduceLeDiff, Nat.reduceLT, Nat.reduceBEq, Int.reduceNeg, Int.reduceLE, Int.reduceLT, Int.reduceToNat, String.reduceEq, hw3]) | refine aw_seq ?_ | refine aw_block ?_ | refine aw_scope ?_ | (refine aw_cond rfl (fun h => ?_) (fun h => ?_) <;> try (exfalso; first | (simp at h; done) | (simp at h; omega))) | ((with_reducible refine And.intro ?_ ?_); focus (first | omega | (intros; simp_all; done) | (simp; omega)))
          refine ⟨t + 1, htj, by omega, by rw [hq]; rfl, ?_⟩
          rw [e2]; simp only [List.append_assoc, List.cons_append, List.nil_append]
        · have hte : t = j := by omega
          have hli3 : decide (((X.length + t : Nat) : Int) < ((X.length + j : Nat) : Int)) = false := decide_eq_false (by omega)
          repeat' first | ((first | refine aw_region_mix (id := 11) [.free, .free, .free, .free, .free, .free, .free, .free, .pure 0, .pure 0, .free, .free, .pure 0, .pure 0, .pure 0, .eff [false, false, true, false, false], .pure 0, .eff [false, false]] mixedF rfl (by kernel_rfl) (by kernel_rfl) ?_ | refine aw_region_mix (id := 23) [.free, .free, .free, .free, .free, .free, .free, .free, .pure 0, .pure 0, .free, .free, .pure 0, .pure 0, .pure 0, .eff [false, false, true, false, false], .pure 0, .eff [false, false]] mixedF rfl (by kernel_rfl) (by kernel_rfl) ?_ | refine callP_false (.bool false) ?_ | refine aw_region rfl ?_ | refine aw_region_draw mixedF rfl (by kernel_rfl) ?_ | refine aw_ret ?_ | refine aw_skip ?_ | refine aw_exit ?_ | refine aw_label ?_); simp only [go_sem, ↓reduceIte, Nat.reduceEqDiff, Nat.reduceAdd, Nat.reduceSub, Nat.reduceMul, Nat.reduceLeDiff, Nat.reduceLT, Nat.reduceBEq, Int.reduceNeg, Int.reduceLE, Int.reduceLT, Int.reduceToNat, String.reduceEq, hw2, hli3]) | refine aw_seq ?_ | refine aw_block ?_ | refine aw_scope ?_ | (refine aw_cond rfl (fun h => ?_) (fun h => ?_) <;> try (exfalso; first | (simp at h; done) | (simp at h; omega))) | ((with_reducible refine And.intro ?_ ?_); focus (first | omega | (intros; simp_all; done) | (simp; omega)))
          refine doneSet (clb_fl _ _ _) _ ⟨rfl, P ++ x :: R, ?_, ?_, ?_⟩
          · have h := (Fs.swap hw (A := [x]) (B := P) (fun a ha b hb => by rw [List.mem_singleton] at ha; subst ha; exact B1 b hb)).app (.refl (lt := lt) R)
            rw [← hBB]
            simpa using h
          · rw [← hBB] at hB
            refine Sd.app hB.left (List.pairwise_cons.2 ⟨B2, hB.right⟩) fun y hy z hz => ?_
            rcases List.mem_cons.1 hz with rfl | hz
            · exact hw.asy _ _ (B1 y hy)
            · exact hB.cross y hy z hz
          · rw [hte, ← hl1, List.take_length, List.drop_length]
            simp only [List.append_assoc, List.cons_append, List.nil_append]
end Go.Proofs.Ytoffonjlfomnbaa
namespace Go.Proofs.Ytoffonjlfomnbaa
open Go Go.Aw Go.Gw Go.Srt
set_option linter.unusedSimpArgs false
set_option maxRecDepth 20000
set_option maxHeartbeats 4000000

theorem symB_c {X B Y D : List Opn} {x : Opn} {n : Nat} {a m b : Int} {lt : Opn → Opn → Bool} {c : Opn → Opn → Int} (hw : SWO lt) (hc : ∀ x y, decide (c x y < 0) = lt x y)
    (hD : D = X ++ (B ++ x :: Y)) (hB : Sd lt B) (hB0 : 1 < B.length) (hn : n = D.length) (ha : a = X.length) (hm : m = (X.length + B.length : Nat)) (hb : b = (X.length + B.length + 1 : Nat)) (fn : Fn) (fs cs : List AV) (hf : CmpC Try.prog (.func fn fs cs) c) (H : AHeap) (blk v lc : Nat)
    (hh : hget H blk = .cells v (fl D)) (hl : n ≤ 1000000000) :
    ACalls Try.prog 94 [.osl 7 blk v 0 n lc, .int .i64 a, .int .i64 m, .int .i64 b, .func fn fs cs] H
      (fun r H' => r = .tup [] ∧ ∃ S, Fs lt (B ++ [x]) S ∧ Sd lt S ∧ H' = hset H blk (.cells v (fl (X ++ (S ++ Y))))) := by
  refine acalls_of Try.func94 rfl (Nat.le_of_ble_eq_true rfl) ?_
  have hset1 := fun b => hget_of hh trivial b
  have hset2 := hset_set H blk
  have hlen : n = X.length + (B.length + (Y.length + 1)) := by rw [hn, hD]; simp only [List.length_append, List.length_cons]
  have hw1 : IntKind.i64.wrap (m - a) = (B.length : Int) := by subst hm ha; exact wrap_nat (by omega) (by omega)
  have hw0 : IntKind.i64.wrap (b - m) = 1 := by subst hm hb; rw [wrap_i64 (by omega) (by omega)]; omega
  have hl1 : decide ((B.length : Int) = 1) = false := decide_eq_false (by omega)
  obtain ⟨M, hM⟩ : ∃ M, M = X.length + B.length := ⟨_, rfl⟩
  rw [← hM] at hm hb
  have hDM : ∀ k (hk : k < B.length), D[X.length + k]'(by omega) = B[k] := by
    intro k hk
    subst hD
    rw [List.getElem_append_right (by omega), List.getElem_append_left (by omega)]
    congr 1; omega
  have gx : List.take 7 (List.drop (M * 7) (fl D)) = opCells x := by
    have e : D = (X ++ B) ++ x :: Y := by rw [hD, List.append_assoc]
    rw [e]; exact fl_get (by rw [List.length_append, hM])
  have hxn : M * 7 + 7 ≤ (fl D).length := by rw [fl_len]; omega
  subst hm hb ha
  repeat' first | ((first | refine callP_false (.bool false) ?_ | refine aw_region rfl ?_ | refine aw_region_draw mixedF rfl (by kernel_rfl) ?_ | refine aw_ret ?_ | refine aw_skip ?_ | refine aw_exit ?_ | refine aw_label ?_); simp only [go_sem, ↓reduceIte, Nat.reduceEqDiff, Nat.reduceAdd, Nat.reduceSub, Nat.reduceMul, Nat.reduceLeDiff, Nat.reduceLT, Nat.reduceBEq, Int.reduceNeg, Int.reduceLE, Int.reduceLT, Int.reduceToNat, String.reduceEq, hw1, hw0, hl1]) | refine aw_seq ?_ | refine aw_block ?_ | refine aw_scope ?_ | (refine aw_cond rfl (fun h => ?_) (fun h => ?_) <;> try (exfalso; first | (simp at h; done) | (simp at h; omega))) | ((with_reducible refine And.intro ?_ ?_); focus (first | omega | (intros; simp_all; done) | (simp; omega)))
  refine aw_loopS (ι := Nat × Nat) (fun s => [(0, .osl 7 blk v 0 n lc), (2, .int .i64 M), (4, .func fn fs cs), (14, .int .i64 (X.length + s.1 : Nat)), (15, .int .i64 (X.length + s.2 : Nat))]) (fun _ => H)
    (fun s => s.1 ≤ s.2 ∧ s.2 ≤ B.length ∧ (∀ k (hk : k < s.1) (hk2 : k < B.length), lt x B[k] = false) ∧ (∀ k (_ : s.2 ≤ k) (hk : k < B.length), lt x B[k] = true)) (fun s => s.2 - s.1) (0, B.length) ⟨Nat.zero_le _, Nat.le_refl _, fun k hk => by omega, fun k h1 h2 => by omega⟩ ?_ rfl ?_
  · simp [go_sem, hM]
  · rintro ⟨i, j⟩ ⟨h1, h2, h3, h4⟩
    simp only at h1 h2 h3 h4 ⊢
    by_cases hij : i < j
    · obtain ⟨u, hhd⟩ : ∃ u, (X.length + i + (X.length + j)) / 2 = X.length + u := ⟨(X.length + i + (X.length + j)) / 2 - X.length, by omega⟩
      have hhl : u < B.length := by omega
      have hhf := mid_eq (i := X.length + i) (j := X.length + j) (n := X.length + B.length) (by omega) (by omega) (by omega)
      rw [hhd] at hhf
      obtain ⟨K, hK⟩ : ∃ K, K = X.length + u := ⟨_, rfl⟩
      have gK : List.take 7 (List.drop (K * 7) (fl D)) = opCells B[u] := by subst hK; rw [fl_at (by omega), hDM u hhl]
      have hKn : K * 7 + 7 ≤ (fl D).length := by rw [fl_len]; omega
      have hw2 : IntKind.i64.wrap ((K : Int) + 1) = ((X.length + (u + 1) : Nat) : Int) := wrap_nat (by omega) (by omega)
      rw [← hK] at hhf
      have hli : decide (((X.length + i : Nat) : Int) < ((X.length + j : Nat) : Int)) = true := decide_eq_true (by omega)
      repeat' first | ((first | refine aw_region_mix (id := 11) [.free, .free, .free, .free, .free, .free, .free, .free, .pure 0, .pure 0, .free, .free, .pure 0, .pure 0, .pure 0, .eff [false, false, true, false, false], .pure 0, .eff [false, false]] mixedF rfl (by kernel_rfl) (by kernel_rfl) ?_ | refine aw_region_mix (id := 23) [.free, .free, .free, .free, .free, .free, .free, .free, .pure 0, .pure 0, .free, .free, .pure 0, .pure 0, .pure 0, .eff [false, false, true, false, false], .pure 0, .eff [false, false]] mixedF rfl (by kernel_rfl) (by kernel_rfl) ?_ | refine callP_false (.bool false) ?_ | refine aw_region rfl ?_ | refine aw_region_draw mixedF rfl (by kernel_rfl) ?_ | refine aw_ret ?_ | refine aw_skip ?_ | refine aw_exit ?_ | refine aw_label ?_); simp only [go_sem, ↓reduceIte, Nat.reduceEqDiff, Nat.reduceAdd, Nat.reduceSub, Nat.reduceMul, Nat.reduceLeDiff, Nat.reduceLT, Nat.reduceBEq, Int.reduceNeg, Int.reduceLE, Int.reduceLT, Int.reduceToNat, String.reduceEq, hli, hhf, hh, gK, gx]) | refine aw_seq ?_ | refine aw_block ?_ | refine aw_scope ?_ | (refine aw_cond rfl (fun h => ?_) (fun h => ?_) <;> try (exfalso; first | (simp at h; done) | (simp at h; omega))) | ((with_reducible refine And.intro ?_ ?_); focus (first | omega | (intros; simp_all; done) | (simp; omega)))
      (repeat' (with_reducible refine And.intro ?_ ?_)) <;> try (first | omega | rfl)
      refine callP_cmp hf ?_
      simp only [go_sem, ↓reduceIte, Nat.reduceEqDiff, Nat.reduceAdd, Nat.reduceSub, Nat.reduceMul, Nat.reduceLeDiff, Nat.reduceLT, Nat.reduceBEq, Int.reduceNeg, Int.reduceLE, Int.reduceLT, Int.reduceToNat, String.reduceEq, hc]
      cases hxy : lt x B[u] with
      | true =>
        repeat' first | ((first | refine callP_false (.bool false) ?_ | refine aw_region rfl ?_ | refine aw_region_draw mixedF rfl (by kernel_rfl) ?_ | refine aw_ret ?_ | refine aw_skip ?_ | refine aw_exit ?_ | refine aw_label ?_); simp only [go_sem, ↓reduceIte, Nat.reduceEqDiff, Nat.reduceAdd, Nat.reduceSub, Nat.reduceMul, Nat.reduceLeDiff, Nat.reduceLT, Nat.reduceBEq, Int.reduceNeg, Int.reduceLE, Int.reduceLT, Int.reduceToNat, String.reduceEq, hxy, hw2]) | refine aw_seq ?_ | refine aw_block ?_ | refine aw_scope ?_ | (refine aw_cond rfl (fun h => ?_) (fun h => ?_) <;> try (exfalso; first | (simp at h; done) | (simp at h; omega))) | ((with_reducible refine And.intro ?_ ?_); focus (first | omega | (intros; simp_all; done) | (simp; omega)))
        exact ⟨(i, u), ⟨by simp only; omega, by simp only; omega, h3, fun k q1 q2 => bs_dn' hw hB hhl hxy k q1 q2⟩, by simp only; omega, rfl, by rw [hK]⟩
      | false =>
        repeat' first | ((first | refine callP_false (.bool false) ?_ | refine aw_region rfl ?_ | refine aw_region_draw mixedF rfl (by kernel_rfl) ?_ | refine aw_ret ?_ | refine aw_skip ?_ | refine aw_exit ?_ | refine aw_label ?_); simp only [go_sem, ↓reduceIte, Nat.reduceEqDiff, Nat.reduceAdd, Nat.reduceSub, Nat.reduceMul, Nat.reduceLeDiff, Nat.reduceLT, Nat.reduceBEq, Int.reduceNeg, Int.reduceLE, Int.reduceLT, Int.reduceToNat, String.reduceEq, hxy, hw2]) | refine aw_seq ?_ | refine aw_block ?_ | refine aw_scope ?_ | (refine aw_cond rfl (fun h => ?_) (fun h => ?_) <;> try (exfalso; first | (simp at h; done) | (simp at h; omega))) | ((with_reducible refine And.intro ?_ ?_); focus (first | omega | (intros; simp_all; done) | (simp; omega)))
        exact ⟨(u + 1, j), ⟨by simp only; omega, by simp only; omega, fun k q1 q2 => bs_up' hw hB hhl hxy k (by omega), h4⟩, by simp only; omega, rfl, rfl⟩
    · have hji : j = i := by omega
      subst hji
      have hli : decide (((X.length + j : Nat) : Int) < ((X.length + j : Nat) : Int)) = false := decide_eq_false (by omega)
      have B1 : ∀ y ∈ B.take j, lt x y = false := mem_take_get h2 fun k hk => h3 k hk (by omega)
      have B2 : ∀ y ∈ B.drop j, lt x y = true := mem_drop_get h4
      have hBB := List.take_append_drop j B
      have hl1 : (B.take j).length = j := by rw [List.length_take]; omega
      have hl2 : (B.drop j).length = B.length - j := List.length_drop ..
      generalize B.take j = P at *
      generalize B.drop j = R at *
      repeat' first | ((first | refine callP_false (.bool false) ?_ | refine aw_region rfl ?_ | refine aw_region_draw mixedF rfl (by kernel_rfl) ?_ | refine aw_ret ?_ | refine aw_skip ?_ | refine aw_exit ?_ | refine aw_label ?_); simp only [go_sem, ↓reduceIte, Nat.reduceEqDiff, Nat.reduceAdd, Nat.reduceSub, Nat.reduceMul, Nat.reduceLeDiff, Nat.reduceLT, Nat.reduceBEq, Int.reduceNeg, Int.reduceLE, Int.reduceLT, Int.reduceToNat, String.reduceEq, hli]) | refine aw_seq ?_ | refine aw_block ?_ | refine aw_scope ?_ | (refine aw_cond rfl (fun h => ?_) (fun h => ?_) <;> try (exfalso; first | (simp at h; done) | (simp at h; omega))) | ((with_reducible refine And.intro ?_ ?_); focus (first | omega | (intros; simp_all; done) | (simp; omega)))
      refine aw_loopS (ι := Nat) (fun t => [(0, .osl 7 blk v 0 n lc), (14, .int .i64 (X.length + j : Nat)), (17, .int .i64 (X.length + j + t : Nat))])
        (fun t => hset H blk (.cells v (fl (((X ++ P) ++ R.take t) ++ x :: (R.drop t ++ Y))))) (fun t => t ≤ R.length) (fun t => t) R.length (Nat.le_refl _) ?_ ?_ ?_
      · simp [go_sem]; omega
      · rw [← hBB] at hD
        rw [List.take_length, List.drop_length, List.nil_append]
        have e : X ++ P ++ R ++ x :: Y = D := by rw [hD]; simp only [List.append_assoc]
        rw [e]; exact (hset_id hh trivial).symm
      · intro t ht
        by_cases htj : 0 < t
        · obtain ⟨t, rfl⟩ : ∃ t', t = t' + 1 := ⟨t - 1, by omega⟩
          have e1 : R.drop t = R[t]'(by omega) :: R.drop (t + 1) := List.drop_eq_getElem_cons (by omega)
          have e2 : R.take (t + 1) = R.take t ++ [R[t]'(by omega)] := List.take_succ_eq_append_getElem (by omega)
          have htl : (R.take t).length = t := by rw [List.length_take]; omega
          have hdl : (R.drop (t + 1)).length = R.length - (t + 1) := List.length_drop ..
          rw [e2]
          generalize R[t]'(by omega) = y at *
          obtain ⟨p, hp⟩ : ∃ p, p = X.length + j + t := ⟨_, rfl⟩
          obtain ⟨q, hq⟩ : ∃ q, q = X.length + j + (t + 1) := ⟨_, rfl⟩
          have hw3 : IntKind.i64.wrap ((q : Int) - 1) = (p : Int) := wrap_nat (by omega) (by omega)
          have hli3 : decide (((X.length + j : Nat) : Int) < (q : Int)) = true := decide_eq_true (by omega)
          have l1 : ((X ++ P) ++ R.take t).length = p := by rw [List.length_append, List.length_append, htl, hl1, hp]
          have l2 : ∀ z, (((X ++ P) ++ R.take t) ++ [z]).length = q := fun z => by rw [List.length_append, l1, List.length_singleton, hp, hq]; omega
          have g1 := fl_get (x := y) (R := x :: (R.drop (t + 1) ++ Y)) l1
          have g2 := fl_get (x := x) (R := R.drop (t + 1) ++ Y) (l2 y)
          have s1 := fl_set (x := x) (y := y) (R := R.drop (t + 1) ++ Y) (l2 y)
          have s2 := fl_set (x := y) (y := x) (R := y :: (R.drop (t + 1) ++ Y)) l1
          simp only [List.append_assoc, List.cons_append, List.nil_append] at g1 g2 s1 s2
          rw [← hq]
          have hlq : ∀ z w, q * 7 + 7 ≤ (fl (X ++ (P ++ (R.take t ++ z :: w :: (R.drop (t + 1) ++ Y))))).length := fun z w => by rw [fl_len]; simp only [List.length_append, List.length_cons]; omega
          have hlp : ∀ z w, p * 7 + 7 ≤ (fl (X ++ (P ++ (R.take t ++ z :: w :: (R.drop (t + 1) ++ Y))))).length := fun z w => by rw [fl_len]; simp only [List.length_append, List.length_cons]; omega
          have a1 := hlp y x
          have a2 := hlq y x
          have a3 := hlp y y
          repeat' first | ((first | refine aw_region_mix (id := 11) [.free, .free, .free, .free, .free, .free, .free, .free, .pure 0, .pure 0, .free, .free, .pure 0, .pure 0, .pure 0, .eff [false, false, true, false, false], .pure 0, .eff [false, false]] mixedF rfl (by kernel_rfl) (by kernel_rfl) ?_ | refine aw_region_mix (id := 23) [.free, .free, .free, .free, .free, .free, .free, .free, .pure 0, .pure 0, .free, .free, .pure 0, .pure 0, .pure 0, .eff [false, false, true, false, false], .pure 0, .eff [false, false]] mixedF rfl (by kernel_rfl) (by kernel_rfl) ?_ | refine callP_false (.bool false) ?_ | refine aw_region rfl ?_ | refine aw_region_draw mixedF rfl (by kernel_rfl) ?_ | refine aw_ret ?_ | refine aw_skip ?_ | refine aw_exit ?_ | refine aw_label ?_); simp only [go_sem, ↓reduceIte, Nat.reduceEqDiff, Nat.reduceAdd, Nat.reduceSub, Nat.reduceMul, Nat.reduceLeDiff, Nat.reduceLT, Nat.reduceBEq, Int.reduceNeg, Int.reduceLE, Int.reduceLT, Int.reduceToNat, String.reduceEq, hset1, hset2, hw3, hli3, g1, g2, s1, s2, opC_len, opC_one]) | refine aw_seq ?_ | refine aw_block ?_ | refine aw_scope ?_ | (refine aw_cond rfl (fun h => ?_) (fun h => ?_) <;> try (exfalso; first | (simp at h; done) | (simp at h; omega))) | ((with_reducible refine And.intro ?_ ?_); focus (first | omega | (intros; simp_all; done) | (simp; omega)))
          (repeat' (with_reducible refine And.intro ?_ ?_)) <;> try (first | omega | rfl)
          repeat' first | ((first | refine aw_region_mix (id := 11) [.free, .free, .free, .free, .free, .free, .free, .free, .pure 0, .pure 0, .free, .free, .pure 0, .pure 0, .pure 0, .eff [false, false, true, false, false], .pure 0, .eff [false, false]] mixedF rfl (by kernel_rfl) (by kernel_rfl) ?_ | refine aw_region_mix (id := 23) [.free, .free, .free, .free, .free, .free, .free, .free, .pure 0, .pure 0, .free, .free, .pure 0, .pure 0, .pure 0, .eff [false, false, true, false, false], .pure 0, .eff [false, false]] mixedF rfl (by kernel_rfl) (by kernel_rfl) ?_ | refine callP_false (.bool false) ?_ | refine aw_region rfl ?_ | refine aw_region_draw mixedF rfl (by kernel_rfl) ?_ | refine aw_ret ?_ | refine aw_skip ?_ | refine aw_exit ?_ | refine aw_label ?_); simp only [go_sem, ↓reduceIte, Nat.reduceEqDiff, Nat.reduceAdd, Nat.reduceSub, Nat.reduceMul, Nat.reduceLeDiff, Nat.reduceLT, Nat.reduceBEq, Int.reduceNeg, Int.reduceLE, Int.reduceLT, Int.reduceToNat, String.reduceEq, hw3]) | refine aw_seq ?_ | refine aw_block ?_ | refine aw_scope ?_ | (refine aw_cond rfl (fun h => ?_) (fun h => ?_) <;> try (exfalso; first | (simp at h; done) | (simp at h; omega))) | ((with_reducible refine And.intro ?_ ?_); focus (first | omega | (intros; simp_all; done) | (simp; omega)))
          refine ⟨t, by omega, by omega, by rw [hp, Nat.add_assoc], ?_⟩
          rw [e1]; rfl
        · have hte : t = 0 := by omega
          subst hte
          have hli3 : decide (((X.length + j : Nat) : Int) < ((X.length + j : Nat) : Int)) = false := decide_eq_false (by omega)
          rw [Nat.add_zero]
          repeat' first | ((first | refine aw_region_mix (id := 11) [.free, .free, .free, .free, .free, .free, .free, .free, .pure 0, .pure 0, .free, .free, .pure 0, .pure 0, .pure 0, .eff [false, false, true, false, false], .pure 0, .eff [false, false]] mixedF rfl (by kernel_rfl) (by kernel_rfl) ?_ | refine aw_region_mix (id := 23) [.free, .free, .free, .free, .free, .free, .free, .free, .pure 0, .pure 0, .free, .free, .pure 0, .pure 0, .pure 0, .eff [false, false, true, false, false], .pure 0, .eff [false, false]] mixedF rfl (by kernel_rfl) (by kernel_rfl) ?_ | refine callP_false (.bool false) ?_ | refine aw_region rfl ?_ | refine aw_region_draw mixedF rfl (by kernel_rfl) ?_ | refine aw_ret ?_ | refine aw_skip ?_ | refine aw_exit ?_ | refine aw_label ?_); simp only [go_sem, ↓reduceIte, Nat.reduceEqDiff, Nat.reduceAdd, Nat.reduceSub, Nat.reduceMul, Nat.reduceLeDiff, Nat.reduceLT, Nat.reduceBEq, Int.reduceNeg, Int.reduceLE, Int.reduceLT, Int.reduceToNat, String.reduceEq, hli3]) | refine aw_seq ?_ | refine aw_block ?_ | refine aw_scope ?_ | (refine aw_cond rfl (fun h => ?_) (fun h => ?_) <;> try (exfalso; first | (simp at h; done) | (simp at h; omega))) | ((with_reducible refine And.intro ?_ ?_); focus (first | omega | (intros; simp_all; done) | (simp; omega)))
          refine doneSet (clb_fl _ _ _) _ ⟨rfl, P ++ x :: R, ?_, ?_, ?_⟩
          · rw [← hBB]; exact ins_fs hw B2
          · rw [← hBB] at hB; exact ins_sd hw hB B2 B1
          · simp only [List.append_assoc, List.cons_append, List.nil_append, List.take_zero, List.drop_zero]
end Go.Proofs.Ytoffonjlfomnbaa
namespace Go.Proofs.Ytoffonjlfomnbaa
open Go Go.Aw Go.Gw Go.Srt
set_option linter.unusedSimpArgs false
set_option maxRecDepth 20000
set_option maxHeartbeats 4000000

/-- What a merge answers. -/
def SymR (lt : Opn → Opn → Bool) (X A B Y : List Opn) (H : AHeap) (blk v : Nat) (r : AV) (H' : AHeap) : Prop :=
  r = .tup [] ∧ ∃ S, Fs lt (A ++ B) S ∧ Sd lt S ∧ H' = hset H blk (.cells v (fl (X ++ (S ++ Y))))

theorem mid_help {X E M mid : Nat} (h : X + E ≤ 2 * mid + 1) (q : mid < M) (hE : M ≤ E) : X ≤ mid + M - E ∧ E ≤ mid + M ∧ mid + M ≤ mid + M - E + E ∧ mid + M - E ≤ mid ∧ mid + M - E + E = mid + M := by omega
theorem fs_len {lt : Opn → Opn → Bool} {a b : List Opn} (h : Fs lt a b) : b.length = a.length := h.1

theorem sym_c {lt : Opn → Opn → Bool} {c : Opn → Opn → Int} (hw : SWO lt) (hc : ∀ x y, decide (c x y < 0) = lt x y) (fn : Fn) (fs cs : List AV) (hf : CmpC Try.prog (.func fn fs cs) c) (blk v lc n : Nat) (hl : n ≤ 1000000000) :
    ∀ (k : Nat) {X A B Y D : List Opn} {a m b : Int}, A.length + B.length ≤ k → D = X ++ (A ++ (B ++ Y)) → Sd lt A → Sd lt B → 0 < A.length → 0 < B.length → n = D.length → a = X.length → m = (X.length + A.length : Nat) → b = (X.length + A.length + B.length : Nat) →
      ∀ (H : AHeap), hget H blk = .cells v (fl D) →
    ACalls Try.prog 94 [.osl 7 blk v 0 n lc, .int .i64 a, .int .i64 m, .int .i64 b, .func fn fs cs] H (SymR lt X A B Y H blk v) := by
  intro k
  induction k with
  | zero => intro X A B Y D a m b hk; omega
  | succ k ih =>
    intro X A B Y D a m b hk hD hA hB hA0 hB0 hn ha hm hb H hh
    by_cases hA1 : A.length = 1
    · obtain ⟨x, rfl⟩ := List.length_eq_one_iff.1 hA1
      exact symA_c (X := X) (B := B) (Y := Y) (x := x) hw hc (by rw [hD]; rfl) hB hB0 hn ha (by rw [hm]; rfl) (by rw [hb]; rfl) fn fs cs hf H blk v lc hh hl
    by_cases hB1 : B.length = 1
    · obtain ⟨x, rfl⟩ := List.length_eq_one_iff.1 hB1
      exact symB_c (X := X) (B := A) (Y := Y) (x := x) hw hc (by rw [hD]; rfl) hA (by omega) hn ha hm (by rw [hb]; rfl) fn fs cs hf H blk v lc hh hl
    refine acalls_of Try.func94 rfl (Nat.le_of_ble_eq_true rfl) ?_
    have hset1 := fun b => hget_of hh trivial b
    have hset2 := hset_set H blk
    have hlen : n = X.length + (A.length + (B.length + Y.length)) := by rw [hn, hD]; simp only [List.length_append]
    have hw1 : IntKind.i64.wrap (m - a) = (A.length : Int) := by subst hm ha; exact wrap_nat (by omega) (by omega)
    have hw0 : IntKind.i64.wrap (b - m) = (B.length : Int) := by subst hm hb; exact wrap_nat (by omega) (by omega)
    have hl1 : decide ((A.length : Int) = 1) = false := decide_eq_false (by omega)
    have hl2 : decide ((B.length : Int) = 1) = false := decide_eq_false (by omega)
    obtain ⟨M, hM⟩ : ∃ M, M = X.length + A.length := ⟨_, rfl⟩
    obtain ⟨E, hE⟩ : ∃ E, E = X.length + A.length + B.length := ⟨_, rfl⟩
    obtain ⟨mid, hmid⟩ : ∃ mid, mid = (X.length + E) / 2 := ⟨_, rfl⟩
    rw [← hM] at hm
    rw [← hE] at hb
    have hDA : ∀ k (hk : k < A.length), D[X.length + k]'(by omega) = A[k] := by
      intro k hk
      subst hD
      rw [List.getElem_append_right (by omega), List.getElem_append_left (by omega)]
      congr 1; omega
    have hDB : ∀ k (hk : k < B.length), D[M + k]'(by omega) = B[k] := by
      intro k hk
      subst hD
      rw [List.getElem_append_right (by omega), List.getElem_append_right (by omega), List.getElem_append_left (by omega)]
      congr 1; omega
    have hhf := mid_eq (i := X.length) (j := E) (n := E) (by omega) (by omega) (by omega)
    rw [← hmid] at hhf
    have hw2 : IntKind.i64.wrap ((mid : Int) + (M : Int)) = ((mid + M : Nat) : Int) := wrap_nat (by omega) (by omega)
    have hw4 : IntKind.i64.wrap (((mid + M : Nat) : Int) - 1) = ((mid + M - 1 : Nat) : Int) := wrap_nat (by omega) (by omega)
    subst hm hb ha
    have hm2 : 2 * mid ≤ X.length + E := by omega
    have hm3 : X.length + E ≤ 2 * mid + 1 := by omega
    have hm4 : M ≤ mid → mid + M ≤ X.length + E := fun q => by omega
    have hm5 : mid < M → X.length ≤ mid + M - E ∧ E ≤ mid + M ∧ mid + M ≤ mid + M - E + E ∧ mid + M - E ≤ mid ∧ mid + M - E + E = mid + M := fun q => mid_help hm3 q (by omega)
    have hMl : M ≤ n := by omega
    -- elements, by their places
    obtain ⟨dg, hdg⟩ : ∃ dg : Nat → Opn, ∀ k (hk : k < D.length), D[k] = dg k := ⟨fun k => D.getD k op0, fun k hk => by simp only; rw [List.getD_eq_getElem?_getD, List.getElem?_eq_getElem hk]; rfl⟩
    have hgA : ∀ k (hk : k < A.length), A[k] = dg (X.length + k) := fun k hk => by rw [← hDA k hk, hdg]
    have hgB : ∀ k (hk : k < B.length), B[k] = dg (M + k) := fun k hk => by rw [← hDB k hk, hdg]
    have gK : ∀ k, k < n → List.take 7 (List.drop (k * 7) (fl D)) = opCells (dg k) := fun k hk => by rw [fl_at (by omega), hdg]
    have mA : ∀ c d, X.length ≤ c → c ≤ d → d < M → lt (dg d) (dg c) = false := by
      intro c d h1 h2 h3
      by_cases e : c = d
      · subst e; exact hw.irr _
      · have q := hA.get (i := c - X.length) (j := d - X.length) (by omega) (by omega)
        rw [hgA, hgA] at q
        have e1 : X.length + (d - X.length) = d := by omega
        have e2 : X.length + (c - X.length) = c := by omega
        rwa [e1, e2] at q
    have mB : ∀ c d, M ≤ c → c ≤ d → d < E → lt (dg d) (dg c) = false := by
      intro c d h1 h2 h3
      by_cases e : c = d
      · subst e; exact hw.irr _
      · have q := hB.get (i := c - M) (j := d - M) (by omega) (by omega)
        rw [hgB, hgB] at q
        have e1 : M + (d - M) = d := by omega
        have e2 : M + (c - M) = c := by omega
        rwa [e1, e2] at q
    repeat' first | ((first | refine callP_false (.bool false) ?_ | refine aw_region rfl ?_ | refine aw_region_draw mixedF rfl (by kernel_rfl) ?_ | refine aw_ret ?_ | refine aw_skip ?_ | refine aw_exit ?_ | refine aw_label ?_); simp only [go_sem, ↓reduceIte, Nat.reduceEqDiff, Nat.reduceAdd, Nat.reduceSub, Nat.reduceMul, Nat.reduceLeDiff, Nat.reduceLT, Nat.reduceBEq, Int.reduceNeg, Int.reduceLE, Int.reduceLT, Int.reduceToNat, String.reduceEq, hw1, hw0, hl1, hl2, hhf, hw2, hw4]) | refine aw_seq ?_ | refine aw_block ?_ | refine aw_scope ?_ | ((with_reducible refine And.intro ?_ ?_); focus (first | omega | (intros; simp_all; done) | (simp; omega)))
    refine aw_cond rfl (fun h => by simp at h) (fun _ => ?_)
    repeat' first | ((first | refine callP_false (.bool false) ?_ | refine aw_region rfl ?_ | refine aw_region_draw mixedF rfl (by kernel_rfl) ?_ | refine aw_ret ?_ | refine aw_skip ?_ | refine aw_exit ?_ | refine aw_label ?_); simp only [go_sem, ↓reduceIte, Nat.reduceEqDiff, Nat.reduceAdd, Nat.reduceSub, Nat.reduceMul, Nat.reduceLeDiff, Nat.reduceLT, Nat.reduceBEq, Int.reduceNeg, Int.reduceLE, Int.reduceLT, Int.reduceToNat, String.reduceEq, hw1, hw0, hl1, hl2, hhf, hw2, hw4]) | refine aw_seq ?_ | refine aw_block ?_ | refine aw_scope ?_ | ((with_reducible refine And.intro ?_ ?_); focus (first | omega | (intros; simp_all; done) | (simp; omega)))
    refine aw_cond rfl (fun h => by simp at h) (fun _ => ?_)
    repeat' first | ((first | refine callP_false (.bool false) ?_ | refine aw_region rfl ?_ | refine aw_region_draw mixedF rfl (by kernel_rfl) ?_ | refine aw_ret ?_ | refine aw_skip ?_ | refine aw_exit ?_ | refine aw_label ?_); simp only [go_sem, ↓reduceIte, Nat.reduceEqDiff, Nat.reduceAdd, Nat.reduceSub, Nat.reduceMul, Nat.reduceLeDiff, Nat.reduceLT, Nat.reduceBEq, Int.reduceNeg, Int.reduceLE, Int.reduceLT, Int.reduceToNat, String.reduceEq, hw1, hw0, hl1, hl2, hhf, hw2, hw4]) | refine aw_seq ?_ | refine aw_block ?_ | refine aw_scope ?_ | ((with_reducible refine And.intro ?_ ?_); focus (first | omega | (intros; simp_all; done) | (simp; omega)))
    refine aw_cutT (ι := Nat × Nat) (fun s => [(0, .osl 7 blk v 0 n lc), (1, .int .i64 X.length), (2, .int .i64 M), (3, .int .i64 E), (4, .func fn fs cs), (18, .int .i64 mid), (19, .int .i64 (mid + M : Nat)), (20, .int .i64 s.1), (21, .int .i64 s.2)]) (fun _ => H)
      (fun s => X.length ≤ s.1 ∧ mid + M ≤ s.1 + E ∧ (s.1 = X.length ∨ s.1 + E = mid + M) ∧ s.1 ≤ s.2 ∧ s.2 ≤ M ∧ s.2 ≤ mid ∧ (s.2 = M ∨ s.2 = mid)) ?_ ?_
    · refine aw_cond rfl (fun h => ?_) (fun h => ?_)
      · rw [decide_eq_true_eq] at h
        have hw3 : IntKind.i64.wrap (((mid + M : Nat) : Int) - (E : Int)) = ((mid + M - E : Nat) : Int) := wrap_nat (by omega) (by omega)
        repeat' first | ((first | refine callP_false (.bool false) ?_ | refine aw_region rfl ?_ | refine aw_region_draw mixedF rfl (by kernel_rfl) ?_ | refine aw_ret ?_ | refine aw_skip ?_ | refine aw_exit ?_ | refine aw_label ?_); simp only [go_sem, ↓reduceIte, Nat.reduceEqDiff, Nat.reduceAdd, Nat.reduceSub, Nat.reduceMul, Nat.reduceLeDiff, Nat.reduceLT, Nat.reduceBEq, Int.reduceNeg, Int.reduceLE, Int.reduceLT, Int.reduceToNat, String.reduceEq, hw3]) | refine aw_seq ?_ | refine aw_block ?_ | refine aw_scope ?_ | (refine aw_cond rfl (fun h => ?_) (fun h => ?_) <;> try (exfalso; first | (simp at h; done) | (simp at h; omega))) | ((with_reducible refine And.intro ?_ ?_); focus (first | omega | (intros; simp_all; done) | (simp; omega)))
        have q0 : mid < M := by omega
        have q := hm5 q0
        exact ⟨(mid + M - E, mid), ⟨q.1, q.2.2.1, .inr q.2.2.2.2, q.2.2.2.1, Nat.le_of_lt q0, Nat.le_refl _, .inr rfl⟩, rfl, rfl⟩
      · rw [decide_eq_false_iff_not] at h
        repeat' first | ((first | refine callP_false (.bool false) ?_ | refine aw_region rfl ?_ | refine aw_region_draw mixedF rfl (by kernel_rfl) ?_ | refine aw_ret ?_ | refine aw_skip ?_ | refine aw_exit ?_ | refine aw_label ?_); simp only [go_sem, ↓reduceIte, Nat.reduceEqDiff, Nat.reduceAdd, Nat.reduceSub, Nat.reduceMul, Nat.reduceLeDiff, Nat.reduceLT, Nat.reduceBEq, Int.reduceNeg, Int.reduceLE, Int.reduceLT, Int.reduceToNat, String.reduceEq]) | refine aw_seq ?_ | refine aw_block ?_ | refine aw_scope ?_ | (refine aw_cond rfl (fun h => ?_) (fun h => ?_) <;> try (exfalso; first | (simp at h; done) | (simp at h; omega))) | ((with_reducible refine And.intro ?_ ?_); focus (first | omega | (intros; simp_all; done) | (simp; omega)))
        have q0 : M ≤ mid := by omega
        exact ⟨(X.length, M), ⟨Nat.le_refl _, hm4 q0, .inl rfl, by rw [hM]; exact Nat.le_add_right _ _, Nat.le_refl _, q0, .inl rfl⟩, rfl, rfl⟩
    · rintro ⟨s0, r0⟩ ⟨p1, p2, p3, p4, p5, p6, p7⟩
      simp only at p1 p2 p3 p4 p5 p6 p7 ⊢
      have mono : ∀ c d, s0 ≤ c → c ≤ d → d < r0 → lt (dg (mid + M - 1 - c)) (dg c) = true → lt (dg (mid + M - 1 - d)) (dg d) = true := by
        intro c d h1 h2 h3 h4
        have q1 := mB (mid + M - 1 - d) (mid + M - 1 - c) (by omega) (by omega) (by omega)
        have q2 := mA c d (by omega) h2 (by omega)
        exact hw.ltr (hw.rtr q1 h4) q2
      repeat' first | ((first | refine callP_false (.bool false) ?_ | refine aw_region rfl ?_ | refine aw_region_draw mixedF rfl (by kernel_rfl) ?_ | refine aw_ret ?_ | refine aw_skip ?_ | refine aw_exit ?_ | refine aw_label ?_); simp only [go_sem, ↓reduceIte, Nat.reduceEqDiff, Nat.reduceAdd, Nat.reduceSub, Nat.reduceMul, Nat.reduceLeDiff, Nat.reduceLT, Nat.reduceBEq, Int.reduceNeg, Int.reduceLE, Int.reduceLT, Int.reduceToNat, String.reduceEq, hw4]) | refine aw_seq ?_ | refine aw_block ?_ | refine aw_scope ?_ | ((with_reducible refine And.intro ?_ ?_); focus (first | omega | (intros; simp_all; done) | (simp; omega)))
      refine aw_cutB (ι := Nat) (fun i => [(0, .osl 7 blk v 0 n lc), (1, .int .i64 X.length), (2, .int .i64 M), (3, .int .i64 E), (4, .func fn fs cs), (18, .int .i64 mid), (19, .int .i64 (mid + M : Nat)), (20, .int .i64 i)]) (fun _ => H)
        (fun i => s0 ≤ i ∧ i ≤ r0 ∧ (∀ c, s0 ≤ c → c < i → lt (dg (mid + M - 1 - c)) (dg c) = false) ∧ (∀ c, i ≤ c → c < r0 → lt (dg (mid + M - 1 - c)) (dg c) = true)) ?_ ?_
      · refine aw_loopS (ι := Nat × Nat) (fun s => [(0, .osl 7 blk v 0 n lc), (1, .int .i64 X.length), (2, .int .i64 M), (3, .int .i64 E), (4, .func fn fs cs), (18, .int .i64 mid), (19, .int .i64 (mid + M : Nat)), (22, .int .i64 (mid + M - 1 : Nat)), (20, .int .i64 s.1), (21, .int .i64 s.2)]) (fun _ => H)
          (fun s => s0 ≤ s.1 ∧ s.1 ≤ s.2 ∧ s.2 ≤ r0 ∧ (∀ c, s0 ≤ c → c < s.1 → lt (dg (mid + M - 1 - c)) (dg c) = false) ∧ (∀ c, s.2 ≤ c → c < r0 → lt (dg (mid + M - 1 - c)) (dg c) = true)) (fun s => s.2 - s.1) (s0, r0) ⟨Nat.le_refl _, p4, Nat.le_refl _, fun c h1 h2 => by simp only at h2; omega, fun c h1 h2 => by simp only at h1; omega⟩ ?_ rfl ?_
        · simp [go_sem]
        · rintro ⟨i, j⟩ ⟨h1, h2, h3, h4, h5⟩
          simp only at h1 h2 h3 h4 h5 ⊢
          by_cases hij : i < j
          · obtain ⟨u, hu⟩ : ∃ u, (i + j) / 2 = u := ⟨_, rfl⟩
            have hhu := mid_eq (i := i) (j := j) (n := j) (by omega) (by omega) (by omega)
            rw [hu] at hhu
            obtain ⟨z, hz⟩ : ∃ z, z = mid + M - 1 - u := ⟨_, rfl⟩
            have hw5 : IntKind.i64.wrap (((mid + M - 1 : Nat) : Int) - (u : Int)) = (z : Int) := wrap_nat (by omega) (by omega)
            have hw6 : IntKind.i64.wrap ((u : Int) + 1) = ((u + 1 : Nat) : Int) := wrap_nat (by omega) (by omega)
            have hli : decide ((i : Int) < (j : Int)) = true := decide_eq_true (by omega)
            have g1 := gK u (by omega)
            have g2 := gK z (by omega)
            have a1 : u * 7 + 7 ≤ (fl D).length := by rw [fl_len]; omega
            have a2 : z * 7 + 7 ≤ (fl D).length := by rw [fl_len]; omega
            repeat' first | ((first | refine aw_region_mix (id := 11) [.free, .free, .free, .free, .free, .free, .free, .free, .pure 0, .pure 0, .free, .free, .pure 0, .pure 0, .pure 0, .eff [false, false, true, false, false], .pure 0, .eff [false, false]] mixedF rfl (by kernel_rfl) (by kernel_rfl) ?_ | refine aw_region_mix (id := 23) [.free, .free, .free, .free, .free, .free, .free, .free, .pure 0, .pure 0, .free, .free, .pure 0, .pure 0, .pure 0, .eff [false, false, true, false, false], .pure 0, .eff [false, false]] mixedF rfl (by kernel_rfl) (by kernel_rfl) ?_ | refine callP_false (.bool false) ?_ | refine aw_region rfl ?_ | refine aw_region_draw mixedF rfl (by kernel_rfl) ?_ | refine aw_ret ?_ | refine aw_skip ?_ | refine aw_exit ?_ | refine aw_label ?_); simp only [go_sem, ↓reduceIte, Nat.reduceEqDiff, Nat.reduceAdd, Nat.reduceSub, Nat.reduceMul, Nat.reduceLeDiff, Nat.reduceLT, Nat.reduceBEq, Int.reduceNeg, Int.reduceLE, Int.reduceLT, Int.reduceToNat, String.reduceEq, hli, hhu, hh, hw5, g1, g2]) | refine aw_seq ?_ | refine aw_block ?_ | refine aw_scope ?_ | (refine aw_cond rfl (fun h => ?_) (fun h => ?_) <;> try (exfalso; first | (simp at h; done) | (simp at h; omega))) | ((with_reducible refine And.intro ?_ ?_); focus (first | omega | (intros; simp_all; done) | (simp; omega)))
            (repeat' (with_reducible refine And.intro ?_ ?_)) <;> try (first | omega | rfl)
            refine callP_cmp hf ?_
            simp only [go_sem, ↓reduceIte, Nat.reduceEqDiff, Nat.reduceAdd, Nat.reduceSub, Nat.reduceMul, Nat.reduceLeDiff, Nat.reduceLT, Nat.reduceBEq, Int.reduceNeg, Int.reduceLE, Int.reduceLT, Int.reduceToNat, String.reduceEq, hc]
            cases hxy : lt (dg z) (dg u) with
            | true =>
              repeat' first | ((first | refine callP_false (.bool false) ?_ | refine aw_region rfl ?_ | refine aw_region_draw mixedF rfl (by kernel_rfl) ?_ | refine aw_ret ?_ | refine aw_skip ?_ | refine aw_exit ?_ | refine aw_label ?_); simp only [go_sem, ↓reduceIte, Nat.reduceEqDiff, Nat.reduceAdd, Nat.reduceSub, Nat.reduceMul, Nat.reduceLeDiff, Nat.reduceLT, Nat.reduceBEq, Int.reduceNeg, Int.reduceLE, Int.reduceLT, Int.reduceToNat, String.reduceEq, hxy, hw6]) | refine aw_seq ?_ | refine aw_block ?_ | refine aw_scope ?_ | (refine aw_cond rfl (fun h => ?_) (fun h => ?_) <;> try (exfalso; first | (simp at h; done) | (simp at h; omega))) | ((with_reducible refine And.intro ?_ ?_); focus (first | omega | (intros; simp_all; done) | (simp; omega)))
              refine ⟨(i, u), ⟨h1, by simp only; omega, by simp only; omega, h4, fun c q1 q2 => mono u c (by omega) q1 q2 (by rw [← hz]; exact hxy)⟩, by simp only; omega, rfl, rfl⟩
            | false =>
              repeat' first | ((first | refine callP_false (.bool false) ?_ | refine aw_region rfl ?_ | refine aw_region_draw mixedF rfl (by kernel_rfl) ?_ | refine aw_ret ?_ | refine aw_skip ?_ | refine aw_exit ?_ | refine aw_label ?_); simp only [go_sem, ↓reduceIte, Nat.reduceEqDiff, Nat.reduceAdd, Nat.reduceSub, Nat.reduceMul, Nat.reduceLeDiff, Nat.reduceLT, Nat.reduceBEq, Int.reduceNeg, Int.reduceLE, Int.reduceLT, Int.reduceToNat, String.reduceEq, hxy, hw6]) | refine aw_seq ?_ | refine aw_block ?_ | refine aw_scope ?_ | (refine aw_cond rfl (fun h => ?_) (fun h => ?_) <;> try (exfalso; first | (simp at h; done) | (simp at h; omega))) | ((with_reducible refine And.intro ?_ ?_); focus (first | omega | (intros; simp_all; done) | (simp; omega)))
              refine ⟨(u + 1, j), ⟨by simp only; omega, by simp only; omega, h3, fun c q1 q2 => ?_, h5⟩, by simp only; omega, rfl, rfl⟩
              cases q3 : lt (dg (mid + M - 1 - c)) (dg c) with
              | false => rfl
              | true =>
                have := mono c u q1 (by simp only at q2; omega) (by omega) q3
                rw [← hz, hxy] at this; cases this
          · have hji : j = i := by omega
            subst hji
            have hli : decide ((j : Int) < (j : Int)) = false := decide_eq_false (by omega)
            repeat' first | ((first | refine callP_false (.bool false) ?_ | refine aw_region rfl ?_ | refine aw_region_draw mixedF rfl (by kernel_rfl) ?_ | refine aw_ret ?_ | refine aw_skip ?_ | refine aw_exit ?_ | refine aw_label ?_); simp only [go_sem, ↓reduceIte, Nat.reduceEqDiff, Nat.reduceAdd, Nat.reduceSub, Nat.reduceMul, Nat.reduceLeDiff, Nat.reduceLT, Nat.reduceBEq, Int.reduceNeg, Int.reduceLE, Int.reduceLT, Int.reduceToNat, String.reduceEq, hli]) | refine aw_seq ?_ | refine aw_block ?_ | refine aw_scope ?_ | (refine aw_cond rfl (fun h => ?_) (fun h => ?_) <;> try (exfalso; first | (simp at h; done) | (simp at h; omega))) | ((with_reducible refine And.intro ?_ ?_); focus (first | omega | (intros; simp_all; done) | (simp; omega)))
            exact ⟨j, ⟨h1, h3, h4, h5⟩, rfl⟩
      · rintro i ⟨t1, t2, t3, t4⟩
        -- the four pieces
        obtain ⟨A1, hA1'⟩ : ∃ A1, A1 = A.take (i - X.length) := ⟨_, rfl⟩
        obtain ⟨A2, hA2'⟩ : ∃ A2, A2 = A.drop (i - X.length) := ⟨_, rfl⟩
        obtain ⟨B1, hB1'⟩ : ∃ B1, B1 = B.take (mid - i) := ⟨_, rfl⟩
        obtain ⟨B2, hB2'⟩ : ∃ B2, B2 = B.drop (mid - i) := ⟨_, rfl⟩
        have hAA : A1 ++ A2 = A := by rw [hA1', hA2']; exact List.take_append_drop _ _
        have hBB : B1 ++ B2 = B := by rw [hB1', hB2']; exact List.take_append_drop _ _
        have lA1 : A1.length = i - X.length := by rw [hA1', List.length_take]; omega
        have lA2 : A2.length = M - i := by rw [hA2', List.length_drop]; omega
        have lB1 : B1.length = mid - i := by rw [hB1', List.length_take]; omega
        have lB2 : B2.length = E - (mid + M - i) := by rw [hB2', List.length_drop]; omega
        have vA1 : ∀ x ∈ A1, ∃ k, X.length ≤ k ∧ k < i ∧ x = dg k := by
          rw [hA1']; exact mem_take_get (by omega) fun k hk => ⟨X.length + k, by omega, by omega, hgA k (by omega)⟩
        have vA2 : ∀ x ∈ A2, ∃ k, i ≤ k ∧ k < M ∧ x = dg k := by
          rw [hA2']; exact mem_drop_get fun k h1 hk => ⟨X.length + k, by omega, by omega, hgA k (by omega)⟩
        have vB1 : ∀ x ∈ B1, ∃ k, M ≤ k ∧ k < mid + M - i ∧ x = dg k := by
          rw [hB1']; exact mem_take_get (by omega) fun k hk => ⟨M + k, by omega, by omega, hgB k (by omega)⟩
        have vB2 : ∀ x ∈ B2, ∃ k, mid + M - i ≤ k ∧ k < E ∧ x = dg k := by
          rw [hB2']; exact mem_drop_get fun k h1 hk => ⟨M + k, by omega, by omega, hgB k (by omega)⟩
        have h21 : ∀ a ∈ A2, ∀ b ∈ B1, lt b a = true := by
          intro a ha b hb
          obtain ⟨c, c1, c2, rfl⟩ := vA2 a ha
          obtain ⟨d, d1, d2, rfl⟩ := vB1 b hb
          have q := t4 i (Nat.le_refl _) (by omega)
          have q1 := mB d (mid + M - 1 - i) d1 (by omega) (by omega)
          exact hw.ltr (hw.rtr q1 q) (mA i c (by omega) c1 c2)
        have h12 : ∀ a ∈ A1, ∀ b ∈ B2, lt b a = false := by
          intro a ha b hb
          obtain ⟨c, c1, c2, rfl⟩ := vA1 a ha
          obtain ⟨d, d1, d2, rfl⟩ := vB2 b hb
          have q := t3 (i - 1) (by omega) (by omega)
          have q1 := mB (mid + M - 1 - (i - 1)) d (by omega) (by omega) d2
          exact hw.ntr _ _ _ (hw.ntr _ _ _ q1 q) (mA c (i - 1) c1 (by omega) (by omega))
        have hA' := hA
        have hB' := hB
        rw [← hAA] at hA'
        rw [← hBB] at hB'
        obtain ⟨en, hen⟩ : ∃ en, en = mid + M - i := ⟨_, rfl⟩
        have hw7 : IntKind.i64.wrap (((mid + M : Nat) : Int) - (i : Int)) = (en : Int) := wrap_nat (by omega) (by omega)
        have eD : D = X ++ (A1 ++ (A2 ++ (B1 ++ (B2 ++ Y)))) := by rw [hD, ← hAA, ← hBB]; simp only [List.append_assoc]
        repeat' first | ((first | refine callP_false (.bool false) ?_ | refine aw_region rfl ?_ | refine aw_region_draw mixedF rfl (by kernel_rfl) ?_ | refine aw_ret ?_ | refine aw_skip ?_ | refine aw_exit ?_ | refine aw_label ?_); simp only [go_sem, ↓reduceIte, Nat.reduceEqDiff, Nat.reduceAdd, Nat.reduceSub, Nat.reduceMul, Nat.reduceLeDiff, Nat.reduceLT, Nat.reduceBEq, Int.reduceNeg, Int.reduceLE, Int.reduceLT, Int.reduceToNat, String.reduceEq, hw7]) | refine aw_seq ?_ | refine aw_block ?_ | refine aw_scope ?_ | ((with_reducible refine And.intro ?_ ?_); focus (first | omega | (intros; simp_all; done) | (simp; omega)))
        refine aw_cutT (ι := Unit) (fun s => [(0, .osl 7 blk v 0 n lc), (1, .int .i64 X.length), (3, .int .i64 E), (4, .func fn fs cs), (18, .int .i64 mid), (20, .int .i64 i), (24, .int .i64 en)]) (fun _ => hset H blk (.cells v (fl (X ++ (A1 ++ (B1 ++ (A2 ++ (B2 ++ Y)))))))) (fun _ => True) ?_ ?_
        · refine aw_cond rfl (fun h => ?_) (fun h => ?_)
          · rw [Bool.and_eq_true, decide_eq_true_eq, decide_eq_true_eq] at h
            repeat' first | ((first | refine callP_false (.bool false) ?_ | refine aw_region rfl ?_ | refine aw_region_draw mixedF rfl (by kernel_rfl) ?_ | refine aw_ret ?_ | refine aw_skip ?_ | refine aw_exit ?_ | refine aw_label ?_); simp only [go_sem, ↓reduceIte, Nat.reduceEqDiff, Nat.reduceAdd, Nat.reduceSub, Nat.reduceMul, Nat.reduceLeDiff, Nat.reduceLT, Nat.reduceBEq, Int.reduceNeg, Int.reduceLE, Int.reduceLT, Int.reduceToNat, String.reduceEq]) | refine aw_seq ?_ | refine aw_block ?_ | refine aw_scope ?_ | (refine aw_cond rfl (fun h => ?_) (fun h => ?_) <;> try (exfalso; first | (simp at h; done) | (simp at h; omega))) | ((with_reducible refine And.intro ?_ ?_); focus (first | omega | (intros; simp_all; done) | (simp; omega)))
            refine callK_of (rot_c (a := (i : Int)) (m := (M : Int)) (b := (en : Int)) (X := X ++ A1) (U := A2) (V := B1) (Y := B2 ++ Y) (by rw [eD]; simp only [List.append_assoc]) hn (by rw [List.length_append]; omega) (by rw [List.length_append]; omega) (by rw [List.length_append]; omega) (by omega) (by omega) _ _ _ _ _ hh hl) callOk96F ?_
            rintro r H' ⟨rfl, rfl⟩
            simp only [go_sem, ↓reduceIte, Nat.reduceEqDiff, Nat.reduceAdd, Nat.reduceSub, Nat.reduceMul, Nat.reduceLeDiff, Nat.reduceLT, Nat.reduceBEq, Int.reduceNeg, Int.reduceLE, Int.reduceLT, Int.reduceToNat, String.reduceEq]
            exact ⟨(), by simp only [List.append_assoc]⟩
          · rw [Bool.and_eq_false_iff, decide_eq_false_iff_not, decide_eq_false_iff_not] at h
            repeat' first | ((first | refine callP_false (.bool false) ?_ | refine aw_region rfl ?_ | refine aw_region_draw mixedF rfl (by kernel_rfl) ?_ | refine aw_ret ?_ | refine aw_skip ?_ | refine aw_exit ?_ | refine aw_label ?_); simp only [go_sem, ↓reduceIte, Nat.reduceEqDiff, Nat.reduceAdd, Nat.reduceSub, Nat.reduceMul, Nat.reduceLeDiff, Nat.reduceLT, Nat.reduceBEq, Int.reduceNeg, Int.reduceLE, Int.reduceLT, Int.reduceToNat, String.reduceEq]) | refine aw_seq ?_ | refine aw_block ?_ | refine aw_scope ?_ | (refine aw_cond rfl (fun h => ?_) (fun h => ?_) <;> try (exfalso; first | (simp at h; done) | (simp at h; omega))) | ((with_reducible refine And.intro ?_ ?_); focus (first | omega | (intros; simp_all; done) | (simp; omega)))
            have e : X ++ (A1 ++ (B1 ++ (A2 ++ (B2 ++ Y)))) = D := by
              have : A2 = [] ∨ B1 = [] := by
                rcases h with h | h
                · exact .inl (List.eq_nil_of_length_eq_zero (by omega))
                · exact .inr (List.eq_nil_of_length_eq_zero (by omega))
              rw [eD]
              rcases this with e | e <;> rw [e] <;> rfl
            rw [e]; exact ⟨(), (hset_id hh trivial).symm⟩
        · intro _ _
          repeat' first | ((first | refine callP_false (.bool false) ?_ | refine aw_region rfl ?_ | refine aw_region_draw mixedF rfl (by kernel_rfl) ?_ | refine aw_ret ?_ | refine aw_skip ?_ | refine aw_exit ?_ | refine aw_label ?_); simp only [go_sem, ↓reduceIte, Nat.reduceEqDiff, Nat.reduceAdd, Nat.reduceSub, Nat.reduceMul, Nat.reduceLeDiff, Nat.reduceLT, Nat.reduceBEq, Int.reduceNeg, Int.reduceLE, Int.reduceLT, Int.reduceToNat, String.reduceEq]) | refine aw_seq ?_ | refine aw_block ?_ | refine aw_scope ?_ | ((with_reducible refine And.intro ?_ ?_); focus (first | omega | (intros; simp_all; done) | (simp; omega)))
          refine aw_cutT (ι := List Opn) (fun s => [(0, .osl 7 blk v 0 n lc), (3, .int .i64 E), (4, .func fn fs cs), (18, .int .i64 mid), (24, .int .i64 en)]) (fun C => hset H blk (.cells v (fl (X ++ (C ++ (A2 ++ (B2 ++ Y))))))) (fun C => Fs lt (A1 ++ B1) C ∧ Sd lt C) ?_ ?_
          · refine aw_cond rfl (fun h => ?_) (fun h => ?_)
            · rw [Bool.and_eq_true, decide_eq_true_eq, decide_eq_true_eq] at h
              repeat' first | ((first | refine callP_false (.bool false) ?_ | refine aw_region rfl ?_ | refine aw_region_draw mixedF rfl (by kernel_rfl) ?_ | refine aw_ret ?_ | refine aw_skip ?_ | refine aw_exit ?_ | refine aw_label ?_); simp only [go_sem, ↓reduceIte, Nat.reduceEqDiff, Nat.reduceAdd, Nat.reduceSub, Nat.reduceMul, Nat.reduceLeDiff, Nat.reduceLT, Nat.reduceBEq, Int.reduceNeg, Int.reduceLE, Int.reduceLT, Int.reduceToNat, String.reduceEq]) | refine aw_seq ?_ | refine aw_block ?_ | refine aw_scope ?_ | (refine aw_cond rfl (fun h => ?_) (fun h => ?_) <;> try (exfalso; first | (simp at h; done) | (simp at h; omega))) | ((with_reducible refine And.intro ?_ ?_); focus (first | omega | (intros; simp_all; done) | (simp; omega)))
              refine callK_of (ih (X := X) (A := A1) (B := B1) (Y := A2 ++ (B2 ++ Y)) (a := (X.length : Int)) (m := (i : Int)) (b := (mid : Int)) (by omega) rfl hA'.left hB'.left (by omega) (by omega) (by simp only [List.length_append]; omega) rfl (by omega) (by omega) _ (hset1 _)) callOk94F ?_
              rintro r H' ⟨rfl, C, c1, c2, rfl⟩
              simp only [go_sem, ↓reduceIte, Nat.reduceEqDiff, Nat.reduceAdd, Nat.reduceSub, Nat.reduceMul, Nat.reduceLeDiff, Nat.reduceLT, Nat.reduceBEq, Int.reduceNeg, Int.reduceLE, Int.reduceLT, Int.reduceToNat, String.reduceEq, hset2]
              exact ⟨C, ⟨c1, c2⟩, rfl⟩
            · rw [Bool.and_eq_false_iff, decide_eq_false_iff_not, decide_eq_false_iff_not] at h
              repeat' first | ((first | refine callP_false (.bool false) ?_ | refine aw_region rfl ?_ | refine aw_region_draw mixedF rfl (by kernel_rfl) ?_ | refine aw_ret ?_ | refine aw_skip ?_ | refine aw_exit ?_ | refine aw_label ?_); simp only [go_sem, ↓reduceIte, Nat.reduceEqDiff, Nat.reduceAdd, Nat.reduceSub, Nat.reduceMul, Nat.reduceLeDiff, Nat.reduceLT, Nat.reduceBEq, Int.reduceNeg, Int.reduceLE, Int.reduceLT, Int.reduceToNat, String.reduceEq]) | refine aw_seq ?_ | refine aw_block ?_ | refine aw_scope ?_ | (refine aw_cond rfl (fun h => ?_) (fun h => ?_) <;> try (exfalso; first | (simp at h; done) | (simp at h; omega))) | ((with_reducible refine And.intro ?_ ?_); focus (first | omega | (intros; simp_all; done) | (simp; omega)))
              refine ⟨A1 ++ B1, ⟨.refl _, ?_⟩, by simp only [List.append_assoc]⟩
              have : A1 = [] ∨ B1 = [] := by
                rcases h with h | h
                · exact .inl (List.eq_nil_of_length_eq_zero (by omega))
                · exact .inr (List.eq_nil_of_length_eq_zero (by omega))
              rcases this with e | e <;> rw [e]
              · exact hB'.left
              · rw [List.append_nil]; exact hA'.left
          · rintro C ⟨c1, c2⟩
            have lC := c1.1
            rw [List.length_append] at lC
            have fin : ∀ S, Fs lt (A2 ++ B2) S → Sd lt S → Fs lt (A ++ B) (C ++ S) ∧ Sd lt (C ++ S) := by
              intro S s1 s2
              refine ⟨?_, merge_sd hw c2 s2 c1 s1 hA'.cross hB'.cross h21 h12⟩
              rw [← hAA, ← hBB]
              exact (merge_fs hw h21).trans (c1.app s1)
            repeat' first | ((first | refine callP_false (.bool false) ?_ | refine aw_region rfl ?_ | refine aw_region_draw mixedF rfl (by kernel_rfl) ?_ | refine aw_ret ?_ | refine aw_skip ?_ | refine aw_exit ?_ | refine aw_label ?_); simp only [go_sem, ↓reduceIte, Nat.reduceEqDiff, Nat.reduceAdd, Nat.reduceSub, Nat.reduceMul, Nat.reduceLeDiff, Nat.reduceLT, Nat.reduceBEq, Int.reduceNeg, Int.reduceLE, Int.reduceLT, Int.reduceToNat, String.reduceEq]) | refine aw_seq ?_ | refine aw_block ?_ | refine aw_scope ?_ | ((with_reducible refine And.intro ?_ ?_); focus (first | omega | (intros; simp_all; done) | (simp; omega)))
            refine aw_cond rfl (fun h => ?_) (fun h => ?_)
            · rw [Bool.and_eq_true, decide_eq_true_eq, decide_eq_true_eq] at h
              repeat' first | ((first | refine callP_false (.bool false) ?_ | refine aw_region rfl ?_ | refine aw_region_draw mixedF rfl (by kernel_rfl) ?_ | refine aw_ret ?_ | refine aw_skip ?_ | refine aw_exit ?_ | refine aw_label ?_); simp only [go_sem, ↓reduceIte, Nat.reduceEqDiff, Nat.reduceAdd, Nat.reduceSub, Nat.reduceMul, Nat.reduceLeDiff, Nat.reduceLT, Nat.reduceBEq, Int.reduceNeg, Int.reduceLE, Int.reduceLT, Int.reduceToNat, String.reduceEq]) | refine aw_seq ?_ | refine aw_block ?_ | refine aw_scope ?_ | (refine aw_cond rfl (fun h => ?_) (fun h => ?_) <;> try (exfalso; first | (simp at h; done) | (simp at h; omega))) | ((with_reducible refine And.intro ?_ ?_); focus (first | omega | (intros; simp_all; done) | (simp; omega)))
              refine callK_of (ih (X := X ++ C) (A := A2) (B := B2) (Y := Y) (a := (mid : Int)) (m := (en : Int)) (b := (E : Int)) (by omega) (by simp only [List.append_assoc]) hA'.right hB'.right (by omega) (by omega) (by simp only [List.length_append]; omega) (by rw [List.length_append]; omega) (by rw [List.length_append]; omega) (by rw [List.length_append]; omega) _ (hset1 _)) callOk94F ?_
              rintro r H' ⟨rfl, S, s1, s2, rfl⟩
              simp only [go_sem, ↓reduceIte, Nat.reduceEqDiff, Nat.reduceAdd, Nat.reduceSub, Nat.reduceMul, Nat.reduceLeDiff, Nat.reduceLT, Nat.reduceBEq, Int.reduceNeg, Int.reduceLE, Int.reduceLT, Int.reduceToNat, String.reduceEq, hset2]
              exact doneSet (clb_fl _ _ _) _ ⟨rfl, C ++ S, (fin S s1 s2).1, (fin S s1 s2).2, by simp only [List.append_assoc]⟩
            · rw [Bool.and_eq_false_iff, decide_eq_false_iff_not, decide_eq_false_iff_not] at h
              repeat' first | ((first | refine callP_false (.bool false) ?_ | refine aw_region rfl ?_ | refine aw_region_draw mixedF rfl (by kernel_rfl) ?_ | refine aw_ret ?_ | refine aw_skip ?_ | refine aw_exit ?_ | refine aw_label ?_); simp only [go_sem, ↓reduceIte, Nat.reduceEqDiff, Nat.reduceAdd, Nat.reduceSub, Nat.reduceMul, Nat.reduceLeDiff, Nat.reduceLT, Nat.reduceBEq, Int.reduceNeg, Int.reduceLE, Int.reduceLT, Int.reduceToNat, String.reduceEq]) | refine aw_seq ?_ | refine aw_block ?_ | refine aw_scope ?_ | (refine aw_cond rfl (fun h => ?_) (fun h => ?_) <;> try (exfalso; first | (simp at h; done) | (simp at h; omega))) | ((with_reducible refine And.intro ?_ ?_); focus (first | omega | (intros; simp_all; done) | (simp; omega)))
              have hs : Sd lt (A2 ++ B2) := by
                have : A2 = [] ∨ B2 = [] := by
                  rcases h with h | h
                  · exact .inl (List.eq_nil_of_length_eq_zero (by omega))
                  · exact .inr (List.eq_nil_of_length_eq_zero (by omega))
                rcases this with e | e <;> rw [e]
                · exact hB'.right
                · rw [List.append_nil]; exact hA'.right
              exact doneSet (clb_fl _ _ _) _ ⟨rfl, C ++ (A2 ++ B2), (fin _ (.refl _) hs).1, (fin _ (.refl _) hs).2, by simp only [List.append_assoc]⟩
end Go.Proofs.Ytoffonjlfomnbaa

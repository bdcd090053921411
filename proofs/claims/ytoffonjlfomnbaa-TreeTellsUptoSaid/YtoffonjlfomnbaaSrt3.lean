/- Sorting of operations in memory: SortStableFunc, CompactFunc. No condition. -/
import Derived.Test.YtoffonjlfomnbaaSrt2
import Derived.Test.YtoffonjlfomnbaaGwFoldP
namespace Go.Proofs.Ytoffonjlfomnbaa
open Go Go.Aw Go.Gw Go.Srt
set_option linter.unusedSimpArgs false
set_option maxRecDepth 20000
set_option maxHeartbeats 4000000

/-- Pieces of a length, each in order. -/
def Pcs (lt : Opn → Opn → Bool) (s : Nat) (Ps : List (List Opn)) : Prop := ∀ c ∈ Ps, c.length = s ∧ Sd lt c

structure Sta (lt : Opn → Opn → Bool) (D : List Opn) (n : Nat) (x : Nat × List (List Opn) × List Opn) : Prop where
  s1 : 1 ≤ x.1
  s2 : x.1 ≤ 2 * n + 20
  fs : Fs lt D (x.2.1.flatten ++ x.2.2)
  pc : Pcs lt x.1 x.2.1
  tl : x.2.2.length < x.1
  ts : Sd lt x.2.2

structure Stb (lt : Opn → Opn → Bool) (D : List Opn) (s : Nat) (T : List Opn) (x : List (List Opn) × List (List Opn)) : Prop where
  fs : Fs lt D (x.1.flatten ++ (x.2.flatten ++ T))
  pc : Pcs lt (2 * s) x.1
  rc : Pcs lt s x.2

theorem stable_c {lt : Opn → Opn → Bool} {c : Opn → Opn → Int} (hw : SWO lt) (hc : ∀ x y, decide (c x y < 0) = lt x y) (fn : Fn) (fs cs : List AV) (hf : CmpC Try.prog (.func fn fs cs) c) (blk v lc n : Nat) (hl : n ≤ 1000000000) (D : List Opn) (hn : n = D.length) (H : AHeap)
    (hh : hget H blk = .cells v (fl D)) :
    ACalls Try.prog 90 [.osl 7 blk v 0 n lc, .int .i64 n, .func fn fs cs] H (fun r H' => r = .tup [] ∧ ∃ S, Fs lt D S ∧ Sd lt S ∧ H' = hset H blk (.cells v (fl S))) := by
  refine acalls_of Try.func90 rfl (Nat.le_of_ble_eq_true rfl) ?_
  have hset1 := fun b => hget_of hh trivial b
  have hset2 := hset_set H blk
  repeat' first | ((first | refine callP_false (.bool false) ?_ | refine aw_region rfl ?_ | refine aw_region_draw mixedF rfl (by kernel_rfl) ?_ | refine aw_ret ?_ | refine aw_skip ?_ | refine aw_exit ?_ | refine aw_label ?_); simp only [go_sem, ↓reduceIte, Nat.reduceEqDiff, Nat.reduceAdd, Nat.reduceSub, Nat.reduceMul, Nat.reduceLeDiff, Nat.reduceLT, Nat.reduceBEq, Int.reduceNeg, Int.reduceLE, Int.reduceLT, Int.reduceToNat, String.reduceEq]) | refine aw_seq ?_ | refine aw_block ?_ | refine aw_scope ?_ | (refine aw_cond rfl (fun h => ?_) (fun h => ?_) <;> try (exfalso; first | (simp at h; done) | (simp at h; omega))) | ((with_reducible refine And.intro ?_ ?_); focus (first | omega | (intros; simp_all; done) | (simp; omega)))
  refine aw_cutB (ι := List (List Opn) × List Opn) (fun x => [(0, .osl 7 blk v 0 n lc), (1, .int .i64 n), (2, .func fn fs cs), (6, .int .i64 20), (7, .int .i64 x.1.flatten.length)]) (fun x => hset H blk (.cells v (fl (x.1.flatten ++ x.2))))
    (fun x => Fs lt D (x.1.flatten ++ x.2) ∧ Pcs lt 20 x.1 ∧ x.2.length < 20) ?_ ?_
  · refine aw_loopS (ι := List (List Opn) × List Opn) (fun x => [(0, .osl 7 blk v 0 n lc), (1, .int .i64 n), (2, .func fn fs cs), (6, .int .i64 20), (7, .int .i64 x.1.flatten.length), (8, .int .i64 (x.1.flatten.length + 20 : Nat))]) (fun x => hset H blk (.cells v (fl (x.1.flatten ++ x.2))))
      (fun x => Fs lt D (x.1.flatten ++ x.2) ∧ Pcs lt 20 x.1) (fun x => x.2.length) ([], D) ⟨.refl _, fun _ h => (by cases h)⟩ ?_ (hset_id hh trivial).symm ?_
    · simp [go_sem]
    · rintro ⟨Ps, R⟩ ⟨h1, h2⟩
      simp only at h1 h2 ⊢
      have hlen := h1.1
      rw [List.length_append, ← hn] at hlen
      by_cases h20 : R.length < 20
      · have hli : decide (((Ps.flatten.length + 20 : Nat) : Int) ≤ (n : Int)) = false := decide_eq_false (by omega)
        repeat' first | ((first | refine callP_false (.bool false) ?_ | refine aw_region rfl ?_ | refine aw_region_draw mixedF rfl (by kernel_rfl) ?_ | refine aw_ret ?_ | refine aw_skip ?_ | refine aw_exit ?_ | refine aw_label ?_); simp only [go_sem, ↓reduceIte, Nat.reduceEqDiff, Nat.reduceAdd, Nat.reduceSub, Nat.reduceMul, Nat.reduceLeDiff, Nat.reduceLT, Nat.reduceBEq, Int.reduceNeg, Int.reduceLE, Int.reduceLT, Int.reduceToNat, String.reduceEq, hli]) | refine aw_seq ?_ | refine aw_block ?_ | refine aw_scope ?_ | (refine aw_cond rfl (fun h => ?_) (fun h => ?_) <;> try (exfalso; first | (simp at h; done) | (simp at h; omega))) | ((with_reducible refine And.intro ?_ ?_); focus (first | omega | (intros; simp_all; done) | (simp; omega)))
        exact ⟨(Ps, R), ⟨h1, h2, h20⟩, rfl, rfl⟩
      · have hli : decide (((Ps.flatten.length + 20 : Nat) : Int) ≤ (n : Int)) = true := decide_eq_true (by omega)
        have lt20 : (R.take 20).length = 20 := by rw [List.length_take]; omega
        have ld20 : (R.drop 20).length = R.length - 20 := List.length_drop ..
        have hw2 : IntKind.i64.wrap (((Ps.flatten.length + 20 : Nat) : Int) + 20) = ((Ps.flatten.length + 20 + 20 : Nat) : Int) := wrap_nat (by omega) (by omega)
        repeat' first | ((first | refine callP_false (.bool false) ?_ | refine aw_region rfl ?_ | refine aw_region_draw mixedF rfl (by kernel_rfl) ?_ | refine aw_ret ?_ | refine aw_skip ?_ | refine aw_exit ?_ | refine aw_label ?_); simp only [go_sem, ↓reduceIte, Nat.reduceEqDiff, Nat.reduceAdd, Nat.reduceSub, Nat.reduceMul, Nat.reduceLeDiff, Nat.reduceLT, Nat.reduceBEq, Int.reduceNeg, Int.reduceLE, Int.reduceLT, Int.reduceToNat, String.reduceEq, hli]) | refine aw_seq ?_ | refine aw_block ?_ | refine aw_scope ?_ | (refine aw_cond rfl (fun h => ?_) (fun h => ?_) <;> try (exfalso; first | (simp at h; done) | (simp at h; omega))) | ((with_reducible refine And.intro ?_ ?_); focus (first | omega | (intros; simp_all; done) | (simp; omega)))
        refine callK_of (insSort_c (X := Ps.flatten) (M := R.take 20) (Y := R.drop 20) (a := (Ps.flatten.length : Int)) (b := ((Ps.flatten.length + 20 : Nat) : Int)) hw hc (by rw [List.take_append_drop]) (by rw [List.length_append]; exact hlen.symm) rfl (by rw [lt20]) _ _ _ hf _ _ _ _ (hset1 _) hl) callOk93F ?_
        rintro r H' ⟨rfl, S, s1, s2, rfl⟩
        simp only [go_sem, ↓reduceIte, Nat.reduceEqDiff, Nat.reduceAdd, Nat.reduceSub, Nat.reduceMul, Nat.reduceLeDiff, Nat.reduceLT, Nat.reduceBEq, Int.reduceNeg, Int.reduceLE, Int.reduceLT, Int.reduceToNat, String.reduceEq, hset2]
        repeat' first | ((first | refine callP_false (.bool false) ?_ | refine aw_region rfl ?_ | refine aw_region_draw mixedF rfl (by kernel_rfl) ?_ | refine aw_ret ?_ | refine aw_skip ?_ | refine aw_exit ?_ | refine aw_label ?_); simp only [go_sem, ↓reduceIte, Nat.reduceEqDiff, Nat.reduceAdd, Nat.reduceSub, Nat.reduceMul, Nat.reduceLeDiff, Nat.reduceLT, Nat.reduceBEq, Int.reduceNeg, Int.reduceLE, Int.reduceLT, Int.reduceToNat, String.reduceEq, hw2]) | refine aw_seq ?_ | refine aw_block ?_ | refine aw_scope ?_ | (refine aw_cond rfl (fun h => ?_) (fun h => ?_) <;> try (exfalso; first | (simp at h; done) | (simp at h; omega))) | ((with_reducible refine And.intro ?_ ?_); focus (first | omega | (intros; simp_all; done) | (simp; omega)))
        have lS := s1.1
        have e : (Ps ++ [S]).flatten = Ps.flatten ++ S := by simp
        refine ⟨(Ps ++ [S], R.drop 20), ⟨?_, ?_⟩, by simp only; omega, ?_, ?_⟩
        · simp only [e, List.append_assoc]
          refine h1.trans ?_
          have q := (Fs.refl (lt := lt) Ps.flatten).app (s1.app (.refl (R.drop 20)))
          rw [List.take_append_drop] at q
          exact q
        · intro x hx
          rcases List.mem_append.1 hx with hx | hx
          · exact h2 x hx
          · rw [List.mem_singleton] at hx; subst hx; exact ⟨by rw [lS, lt20], s2⟩
        · simp only [e, List.length_append]
          have : S.length = 20 := by omega
          rw [this]; exact ⟨rfl, rfl⟩
        · simp only [e, List.append_assoc]
  · rintro ⟨Ps, R⟩ ⟨h1, h2, h3⟩
    simp only at h1 h2 h3 ⊢
    have hlen := h1.1
    rw [List.length_append, ← hn] at hlen
    repeat' first | ((first | refine callP_false (.bool false) ?_ | refine aw_region rfl ?_ | refine aw_region_draw mixedF rfl (by kernel_rfl) ?_ | refine aw_ret ?_ | refine aw_skip ?_ | refine aw_exit ?_ | refine aw_label ?_); simp only [go_sem, ↓reduceIte, Nat.reduceEqDiff, Nat.reduceAdd, Nat.reduceSub, Nat.reduceMul, Nat.reduceLeDiff, Nat.reduceLT, Nat.reduceBEq, Int.reduceNeg, Int.reduceLE, Int.reduceLT, Int.reduceToNat, String.reduceEq]) | refine aw_seq ?_ | refine aw_block ?_ | refine aw_scope ?_ | (refine aw_cond rfl (fun h => ?_) (fun h => ?_) <;> try (exfalso; first | (simp at h; done) | (simp at h; omega))) | ((with_reducible refine And.intro ?_ ?_); focus (first | omega | (intros; simp_all; done) | (simp; omega)))
    refine callK_of (insSort_c (X := Ps.flatten) (M := R) (Y := []) (a := (Ps.flatten.length : Int)) (b := (n : Int)) hw hc (by rw [List.append_nil]) (by rw [List.length_append]; exact hlen.symm) rfl (by rw [hlen]) _ _ _ hf _ _ _ _ (hset1 _) hl) callOk93F ?_
    rintro r H' ⟨rfl, S, s1, s2, rfl⟩
    simp only [go_sem, ↓reduceIte, Nat.reduceEqDiff, Nat.reduceAdd, Nat.reduceSub, Nat.reduceMul, Nat.reduceLeDiff, Nat.reduceLT, Nat.reduceBEq, Int.reduceNeg, Int.reduceLE, Int.reduceLT, Int.reduceToNat, String.reduceEq, hset2]
    repeat' first | ((first | refine callP_false (.bool false) ?_ | refine aw_region rfl ?_ | refine aw_region_draw mixedF rfl (by kernel_rfl) ?_ | refine aw_ret ?_ | refine aw_skip ?_ | refine aw_exit ?_ | refine aw_label ?_); simp only [go_sem, ↓reduceIte, Nat.reduceEqDiff, Nat.reduceAdd, Nat.reduceSub, Nat.reduceMul, Nat.reduceLeDiff, Nat.reduceLT, Nat.reduceBEq, Int.reduceNeg, Int.reduceLE, Int.reduceLT, Int.reduceToNat, String.reduceEq]) | refine aw_seq ?_ | refine aw_block ?_ | refine aw_scope ?_ | (refine aw_cond rfl (fun h => ?_) (fun h => ?_) <;> try (exfalso; first | (simp at h; done) | (simp at h; omega))) | ((with_reducible refine And.intro ?_ ?_); focus (first | omega | (intros; simp_all; done) | (simp; omega)))
    refine aw_loopS (ι := Nat × List (List Opn) × List Opn) (fun x => [(0, .osl 7 blk v 0 n lc), (1, .int .i64 n), (2, .func fn fs cs), (6, .int .i64 x.1)]) (fun x => hset H blk (.cells v (fl (x.2.1.flatten ++ x.2.2))))
      (Sta lt D n) (fun x => n - x.1) (20, Ps, S) ⟨by simp only; omega, by simp only; omega, h1.trans ((Fs.refl (lt := lt) Ps.flatten).app s1), h2, by have := s1.1; simp only; omega, s2⟩ ?_ ?_ ?_
    · simp [go_sem]
    · rfl
    · rintro ⟨s, Ps, T⟩ ⟨g1, g2, g3, g4, g5, g6⟩
      simp only at g1 g2 g3 g4 g5 g6 ⊢
      have hlen := g3.1
      rw [List.length_append, ← hn] at hlen
      by_cases hsn : s < n
      · have hli : decide ((s : Int) < (n : Int)) = true := decide_eq_true (by omega)
        have hw2 : IntKind.i64.wrap (2 * (s : Int)) = ((2 * s : Nat) : Int) := wrap_nat (by omega) (by omega)
        have hw2' : IntKind.i64.wrap ((s : Int) * 2) = ((2 * s : Nat) : Int) := wrap_nat (by omega) (by omega)
        repeat' first | ((first | refine callP_false (.bool false) ?_ | refine aw_region rfl ?_ | refine aw_region_draw mixedF rfl (by kernel_rfl) ?_ | refine aw_ret ?_ | refine aw_skip ?_ | refine aw_exit ?_ | refine aw_label ?_); simp only [go_sem, ↓reduceIte, Nat.reduceEqDiff, Nat.reduceAdd, Nat.reduceSub, Nat.reduceMul, Nat.reduceLeDiff, Nat.reduceLT, Nat.reduceBEq, Int.reduceNeg, Int.reduceLE, Int.reduceLT, Int.reduceToNat, String.reduceEq, hli, hw2]) | refine aw_seq ?_ | refine aw_block ?_ | refine aw_scope ?_ | (refine aw_cond rfl (fun h => ?_) (fun h => ?_) <;> try (exfalso; first | (simp at h; done) | (simp at h; omega))) | ((with_reducible refine And.intro ?_ ?_); focus (first | omega | (intros; simp_all; done) | (simp; omega)))
        refine aw_loopS (ι := List (List Opn) × List (List Opn)) (fun x => [(0, .osl 7 blk v 0 n lc), (1, .int .i64 n), (2, .func fn fs cs), (6, .int .i64 s), (7, .int .i64 x.1.flatten.length), (8, .int .i64 (x.1.flatten.length + 2 * s : Nat))]) (fun x => hset H blk (.cells v (fl (x.1.flatten ++ (x.2.flatten ++ T)))))
          (Stb lt D s T) (fun x => x.2.length) ([], Ps) ⟨g3, fun _ h => (by cases h), g4⟩ ?_ rfl ?_
        · simp [go_sem]
        · rintro ⟨Qs, Rs⟩ ⟨k1, k2, k3⟩
          simp only at k1 k2 k3 ⊢
          have kl := k1.1
          rw [List.length_append, List.length_append, ← hn] at kl
          have hw3 : IntKind.i64.wrap ((Qs.flatten.length : Int) + (s : Int)) = ((Qs.flatten.length + s : Nat) : Int) := wrap_nat (by omega) (by omega)
          have hw4 : IntKind.i64.wrap (((Qs.flatten.length + 2 * s : Nat) : Int) + ((2 * s : Nat) : Int)) = ((Qs.flatten.length + 2 * s + 2 * s : Nat) : Int) := wrap_nat (by omega) (by omega)
          cases Rs with
          | nil =>
            have e0 : ([] : List (List Opn)).flatten = [] := rfl
            rw [e0, List.length_nil] at kl
            have hli2 : decide (((Qs.flatten.length + 2 * s : Nat) : Int) ≤ (n : Int)) = false := decide_eq_false (by omega)
            have hli3 : decide (((Qs.flatten.length + s : Nat) : Int) < (n : Int)) = false := decide_eq_false (by omega)
            repeat' first | ((first | refine callP_false (.bool false) ?_ | refine aw_region rfl ?_ | refine aw_region_draw mixedF rfl (by kernel_rfl) ?_ | refine aw_ret ?_ | refine aw_skip ?_ | refine aw_exit ?_ | refine aw_label ?_); simp only [go_sem, ↓reduceIte, Nat.reduceEqDiff, Nat.reduceAdd, Nat.reduceSub, Nat.reduceMul, Nat.reduceLeDiff, Nat.reduceLT, Nat.reduceBEq, Int.reduceNeg, Int.reduceLE, Int.reduceLT, Int.reduceToNat, String.reduceEq, hli2, hw3, hli3, hw2']) | refine aw_seq ?_ | refine aw_block ?_ | refine aw_scope ?_ | (refine aw_cond rfl (fun h => ?_) (fun h => ?_) <;> try (exfalso; first | (simp at h; done) | (simp at h; omega))) | ((with_reducible refine And.intro ?_ ?_); focus (first | omega | (intros; simp_all; done) | (simp; omega)))
            exact ⟨(2 * s, Qs, T), ⟨by simp only; omega, by simp only; omega, k1, k2, by simp only; omega, g6⟩, by simp only; omega, rfl, rfl⟩
          | cons r1 Rs =>
            have f1 : (r1 :: Rs).flatten = r1 ++ Rs.flatten := rfl
            obtain ⟨q1, q2⟩ := k3 r1 (by simp)
            rw [f1, List.length_append] at kl
            cases Rs with
            | nil =>
              have e0 : ([] : List (List Opn)).flatten = [] := rfl
              rw [e0, List.length_nil] at kl
              have e1 : Qs.flatten ++ ([r1].flatten ++ T) = Qs.flatten ++ (r1 ++ T) := by simp
              have hli2 : decide (((Qs.flatten.length + 2 * s : Nat) : Int) ≤ (n : Int)) = false := decide_eq_false (by omega)
              by_cases hT : T.length = 0
              · have hli3 : decide (((Qs.flatten.length + s : Nat) : Int) < (n : Int)) = false := decide_eq_false (by omega)
                have hT0 := List.eq_nil_of_length_eq_zero hT
                repeat' first | ((first | refine callP_false (.bool false) ?_ | refine aw_region rfl ?_ | refine aw_region_draw mixedF rfl (by kernel_rfl) ?_ | refine aw_ret ?_ | refine aw_skip ?_ | refine aw_exit ?_ | refine aw_label ?_); simp only [go_sem, ↓reduceIte, Nat.reduceEqDiff, Nat.reduceAdd, Nat.reduceSub, Nat.reduceMul, Nat.reduceLeDiff, Nat.reduceLT, Nat.reduceBEq, Int.reduceNeg, Int.reduceLE, Int.reduceLT, Int.reduceToNat, String.reduceEq, hli2, hw3, hli3, hw2']) | refine aw_seq ?_ | refine aw_block ?_ | refine aw_scope ?_ | (refine aw_cond rfl (fun h => ?_) (fun h => ?_) <;> try (exfalso; first | (simp at h; done) | (simp at h; omega))) | ((with_reducible refine And.intro ?_ ?_); focus (first | omega | (intros; simp_all; done) | (simp; omega)))
                refine ⟨(2 * s, Qs, r1), ⟨by simp only; omega, by simp only; omega, ?_, k2, by simp only; omega, q2⟩, by simp only; omega, rfl, ?_⟩
                · simp only; rw [e1, hT0, List.append_nil] at k1; exact k1
                · rw [e1, hT0, List.append_nil]
              · have hli3 : decide (((Qs.flatten.length + s : Nat) : Int) < (n : Int)) = true := decide_eq_true (by omega)
                rw [e1] at k1 ⊢
                repeat' first | ((first | refine callP_false (.bool false) ?_ | refine aw_region rfl ?_ | refine aw_region_draw mixedF rfl (by kernel_rfl) ?_ | refine aw_ret ?_ | refine aw_skip ?_ | refine aw_exit ?_ | refine aw_label ?_); simp only [go_sem, ↓reduceIte, Nat.reduceEqDiff, Nat.reduceAdd, Nat.reduceSub, Nat.reduceMul, Nat.reduceLeDiff, Nat.reduceLT, Nat.reduceBEq, Int.reduceNeg, Int.reduceLE, Int.reduceLT, Int.reduceToNat, String.reduceEq, hli2, hw3, hli3, hw2']) | refine aw_seq ?_ | refine aw_block ?_ | refine aw_scope ?_ | (refine aw_cond rfl (fun h => ?_) (fun h => ?_) <;> try (exfalso; first | (simp at h; done) | (simp at h; omega))) | ((with_reducible refine And.intro ?_ ?_); focus (first | omega | (intros; simp_all; done) | (simp; omega)))
                refine callK_of (sym_c hw hc _ _ _ hf blk v lc n hl _ (X := Qs.flatten) (A := r1) (B := T) (Y := []) (a := (Qs.flatten.length : Int)) (m := ((Qs.flatten.length + s : Nat) : Int)) (b := (n : Int)) (Nat.le_refl _) (by rw [List.append_nil]) q2 g6 (by omega) (by omega) (by rw [hn]; exact k1.1.symm) rfl (by rw [q1]) (by omega) _ (hset1 _)) callOk94F ?_
                rintro r H' ⟨rfl, S', s1', s2', rfl⟩
                simp only [go_sem, ↓reduceIte, Nat.reduceEqDiff, Nat.reduceAdd, Nat.reduceSub, Nat.reduceMul, Nat.reduceLeDiff, Nat.reduceLT, Nat.reduceBEq, Int.reduceNeg, Int.reduceLE, Int.reduceLT, Int.reduceToNat, String.reduceEq, hset2]
                repeat' first | ((first | refine callP_false (.bool false) ?_ | refine aw_region rfl ?_ | refine aw_region_draw mixedF rfl (by kernel_rfl) ?_ | refine aw_ret ?_ | refine aw_skip ?_ | refine aw_exit ?_ | refine aw_label ?_); simp only [go_sem, ↓reduceIte, Nat.reduceEqDiff, Nat.reduceAdd, Nat.reduceSub, Nat.reduceMul, Nat.reduceLeDiff, Nat.reduceLT, Nat.reduceBEq, Int.reduceNeg, Int.reduceLE, Int.reduceLT, Int.reduceToNat, String.reduceEq, hw2']) | refine aw_seq ?_ | refine aw_block ?_ | refine aw_scope ?_ | (refine aw_cond rfl (fun h => ?_) (fun h => ?_) <;> try (exfalso; first | (simp at h; done) | (simp at h; omega))) | ((with_reducible refine And.intro ?_ ?_); focus (first | omega | (intros; simp_all; done) | (simp; omega)))
                have := s1'.1
                rw [List.length_append] at this
                refine ⟨(2 * s, Qs, S'), ⟨by simp only; omega, by simp only; omega, ?_, k2, by simp only; omega, s2'⟩, by simp only; omega, rfl, by simp only [List.append_nil]⟩
                exact k1.trans ((Fs.refl (lt := lt) Qs.flatten).app s1')
            | cons r2 Rs =>
              have f2 : (r2 :: Rs).flatten = r2 ++ Rs.flatten := rfl
              obtain ⟨q3, q4⟩ := k3 r2 (by simp)
              rw [f2, List.length_append] at kl
              have e1 : Qs.flatten ++ ((r1 :: r2 :: Rs).flatten ++ T) = Qs.flatten ++ (r1 ++ (r2 ++ (Rs.flatten ++ T))) := by rw [f1, f2]; simp only [List.append_assoc]
              have hli2 : decide (((Qs.flatten.length + 2 * s : Nat) : Int) ≤ (n : Int)) = true := decide_eq_true (by omega)
              rw [e1] at k1 ⊢
              repeat' first | ((first | refine callP_false (.bool false) ?_ | refine aw_region rfl ?_ | refine aw_region_draw mixedF rfl (by kernel_rfl) ?_ | refine aw_ret ?_ | refine aw_skip ?_ | refine aw_exit ?_ | refine aw_label ?_); simp only [go_sem, ↓reduceIte, Nat.reduceEqDiff, Nat.reduceAdd, Nat.reduceSub, Nat.reduceMul, Nat.reduceLeDiff, Nat.reduceLT, Nat.reduceBEq, Int.reduceNeg, Int.reduceLE, Int.reduceLT, Int.reduceToNat, String.reduceEq, hli2, hw3, hw2, hw4]) | refine aw_seq ?_ | refine aw_block ?_ | refine aw_scope ?_ | (refine aw_cond rfl (fun h => ?_) (fun h => ?_) <;> try (exfalso; first | (simp at h; done) | (simp at h; omega))) | ((with_reducible refine And.intro ?_ ?_); focus (first | omega | (intros; simp_all; done) | (simp; omega)))
              refine callK_of (sym_c hw hc _ _ _ hf blk v lc n hl _ (X := Qs.flatten) (A := r1) (B := r2) (Y := Rs.flatten ++ T) (a := (Qs.flatten.length : Int)) (m := ((Qs.flatten.length + s : Nat) : Int)) (b := ((Qs.flatten.length + 2 * s : Nat) : Int)) (Nat.le_refl _) rfl q2 q4 (by omega) (by omega) (by rw [hn]; exact k1.1.symm) rfl (by rw [q1]) (by omega) _ (hset1 _)) callOk94F ?_
              rintro r H' ⟨rfl, S', s1', s2', rfl⟩
              simp only [go_sem, ↓reduceIte, Nat.reduceEqDiff, Nat.reduceAdd, Nat.reduceSub, Nat.reduceMul, Nat.reduceLeDiff, Nat.reduceLT, Nat.reduceBEq, Int.reduceNeg, Int.reduceLE, Int.reduceLT, Int.reduceToNat, String.reduceEq, hset2]
              repeat' first | ((first | refine callP_false (.bool false) ?_ | refine aw_region rfl ?_ | refine aw_region_draw mixedF rfl (by kernel_rfl) ?_ | refine aw_ret ?_ | refine aw_skip ?_ | refine aw_exit ?_ | refine aw_label ?_); simp only [go_sem, ↓reduceIte, Nat.reduceEqDiff, Nat.reduceAdd, Nat.reduceSub, Nat.reduceMul, Nat.reduceLeDiff, Nat.reduceLT, Nat.reduceBEq, Int.reduceNeg, Int.reduceLE, Int.reduceLT, Int.reduceToNat, String.reduceEq, hw2, hw4]) | refine aw_seq ?_ | refine aw_block ?_ | refine aw_scope ?_ | (refine aw_cond rfl (fun h => ?_) (fun h => ?_) <;> try (exfalso; first | (simp at h; done) | (simp at h; omega))) | ((with_reducible refine And.intro ?_ ?_); focus (first | omega | (intros; simp_all; done) | (simp; omega)))
              have lS := s1'.1
              rw [List.length_append] at lS
              have e : (Qs ++ [S']).flatten = Qs.flatten ++ S' := by simp
              refine ⟨(Qs ++ [S'], Rs), ⟨?_, ?_, fun x hx => k3 x (by simp [hx])⟩, by simp only [List.length_cons]; omega, ?_, ?_⟩
              · simp only [e, List.append_assoc]
                have q := (Fs.refl (lt := lt) Qs.flatten).app (s1'.app (.refl (Rs.flatten ++ T)))
                simp only [List.append_assoc] at q
                exact k1.trans q
              · intro x hx
                rcases List.mem_append.1 hx with hx | hx
                · exact k2 x hx
                · rw [List.mem_singleton] at hx; subst hx; exact ⟨by omega, s2'⟩
              · simp only [e, List.length_append]
                have : S'.length = 2 * s := by omega
                rw [this]; exact ⟨rfl, congrArg _ (congrArg _ (by omega))⟩
              · simp only [e, List.append_assoc]
      · have hli : decide ((s : Int) < (n : Int)) = false := decide_eq_false (by omega)
        repeat' first | ((first | refine callP_false (.bool false) ?_ | refine aw_region rfl ?_ | refine aw_region_draw mixedF rfl (by kernel_rfl) ?_ | refine aw_ret ?_ | refine aw_skip ?_ | refine aw_exit ?_ | refine aw_label ?_); simp only [go_sem, ↓reduceIte, Nat.reduceEqDiff, Nat.reduceAdd, Nat.reduceSub, Nat.reduceMul, Nat.reduceLeDiff, Nat.reduceLT, Nat.reduceBEq, Int.reduceNeg, Int.reduceLE, Int.reduceLT, Int.reduceToNat, String.reduceEq, hli]) | refine aw_seq ?_ | refine aw_block ?_ | refine aw_scope ?_ | (refine aw_cond rfl (fun h => ?_) (fun h => ?_) <;> try (exfalso; first | (simp at h; done) | (simp at h; omega))) | ((with_reducible refine And.intro ?_ ?_); focus (first | omega | (intros; simp_all; done) | (simp; omega)))
        refine doneSet (clb_fl _ _ _) _ ⟨rfl, _, g3, ?_, rfl⟩
        cases Ps with
        | nil => exact g6
        | cons p Ps =>
          obtain ⟨q1, q2⟩ := g4 p (by simp)
          have f1 : (p :: Ps).flatten = p ++ Ps.flatten := rfl
          rw [f1, List.length_append] at hlen
          have e1 := List.eq_nil_of_length_eq_zero (show Ps.flatten.length = 0 by omega)
          have e2 := List.eq_nil_of_length_eq_zero (show T.length = 0 by omega)
          rw [f1, e1, e2, List.append_nil, List.append_nil]
          exact q2

theorem sortS_c {lt : Opn → Opn → Bool} {c : Opn → Opn → Int} (hw : SWO lt) (hc : ∀ x y, decide (c x y < 0) = lt x y) (fn : Fn) (fs cs : List AV) (hf : CmpC Try.prog (.func fn fs cs) c) (blk v lc n : Nat) (hl : n ≤ 1000000000) (D : List Opn) (hn : n = D.length) (H : AHeap)
    (hh : hget H blk = .cells v (fl D)) :
    ACalls Try.prog 73 [.osl 7 blk v 0 n lc, .func fn fs cs] H (fun r H' => r = .tup [] ∧ ∃ S, Fs lt D S ∧ Sd lt S ∧ H' = hset H blk (.cells v (fl S))) := by
  refine acalls_of Try.func73 rfl (Nat.le_of_ble_eq_true rfl) ?_
  repeat' first | ((first | refine callP_false (.bool false) ?_ | refine aw_region rfl ?_ | refine aw_region_draw mixedF rfl (by kernel_rfl) ?_ | refine aw_ret ?_ | refine aw_skip ?_ | refine aw_exit ?_ | refine aw_label ?_); simp only [go_sem, ↓reduceIte, Nat.reduceEqDiff, Nat.reduceAdd, Nat.reduceSub, Nat.reduceMul, Nat.reduceLeDiff, Nat.reduceLT, Nat.reduceBEq, Int.reduceNeg, Int.reduceLE, Int.reduceLT, Int.reduceToNat, String.reduceEq, hh]) | refine aw_seq ?_ | refine aw_block ?_ | refine aw_scope ?_ | (refine aw_cond rfl (fun h => ?_) (fun h => ?_) <;> try (exfalso; first | (simp at h; done) | (simp at h; omega))) | ((with_reducible refine And.intro ?_ ?_); focus (first | omega | (intros; simp_all; done) | (simp; omega)))
  refine callK_of (stable_c hw hc _ _ _ hf blk v lc n hl D hn H hh) callOk90F ?_
  rintro r H' ⟨rfl, S, s1, s2, rfl⟩
  simp only [go_sem, ↓reduceIte, Nat.reduceEqDiff, Nat.reduceAdd, Nat.reduceSub, Nat.reduceMul, Nat.reduceLeDiff, Nat.reduceLT, Nat.reduceBEq, Int.reduceNeg, Int.reduceLE, Int.reduceLT, Int.reduceToNat, String.reduceEq]
  exact doneSet (clb_fl _ _ _) _ ⟨rfl, S, s1, s2, rfl⟩
end Go.Proofs.Ytoffonjlfomnbaa
namespace Go.Proofs.Ytoffonjlfomnbaa
open Go Go.Aw Go.Gw Go.Srt
set_option linter.unusedSimpArgs false
set_option maxRecDepth 20000
set_option maxHeartbeats 4000000

theorem compact_c (f : AV) {fn : Fn} {fs cs : List AV} (hfe : f = .func fn fs cs) (hf : TestC Try.prog f (fun a b => decide (a.at_ = b.at_))) (blk v lc n : Nat) (hlc : n ≤ lc) (hl : n ≤ 1000000000) (D : List Opn) (hn : n = D.length) (H : AHeap)
    (hh : hget H blk = .cells v (fl D)) :
    ACalls Try.prog 76 [.osl 7 blk v 0 n lc, f] H (fun r H' => r = .osl 7 blk v 0 (cpt D).length lc ∧ ∃ rest, H' = hset H blk (.cells v (fl (cpt D) ++ rest))) := by
  refine acalls_of Try.func76 rfl (Nat.le_of_ble_eq_true rfl) ?_
  have hset1 := fun b => hget_of hh trivial b
  have hset2 := hset_set H blk
  subst hfe
  have hbl : blk < H.length := hget_lt hh trivial
  have same : cpt D = D → ∃ H1 L y, H = H1 ++ L ∧ H1.length = H.length ∧ (∀ (i : Nat) (b : ABlk), H1[i]? = some b → H[i]? = some b ∨ ClB H.length b) ∧ Frz H.length H (.osl 7 blk v 0 n lc) y ∧ y = .osl 7 blk v 0 (cpt D).length lc ∧ ∃ rest, H1 = hset H blk (.cells v (fl (cpt D) ++ rest)) := by
    intro e
    refine ⟨H, [], _, (List.append_nil _).symm, rfl, fun _ _ h => .inl h, .cl _ (.osl _ _ _ _ _ _ hbl), by rw [e, hn], [], ?_⟩
    rw [e, List.append_nil]; exact (hset_id hh trivial).symm
  by_cases h2 : n < 2
  · have hli : decide ((n : Int) < 2) = true := decide_eq_true (by omega)
    repeat' first | ((first | refine callP_false (.bool false) ?_ | refine aw_region rfl ?_ | refine aw_region_draw mixedF rfl (by kernel_rfl) ?_ | refine aw_ret ?_ | refine aw_skip ?_ | refine aw_exit ?_ | refine aw_label ?_); simp only [go_sem, ↓reduceIte, Nat.reduceEqDiff, Nat.reduceAdd, Nat.reduceSub, Nat.reduceMul, Nat.reduceLeDiff, Nat.reduceLT, Nat.reduceBEq, Int.reduceNeg, Int.reduceLE, Int.reduceLT, Int.reduceToNat, String.reduceEq, hh, hli]) | refine aw_seq ?_ | refine aw_block ?_ | refine aw_scope ?_ | (refine aw_cond rfl (fun h => ?_) (fun h => ?_) <;> try (exfalso; first | (simp at h; done) | (simp at h; omega))) | ((with_reducible refine And.intro ?_ ?_); focus (first | omega | (intros; simp_all; done) | (simp; omega)))
    have e : cpt D = D := by
      match D, hn with
      | [], _ => rfl
      | [x], _ => rfl
      | _ :: _ :: _, hn => simp only [List.length_cons] at hn; omega
    exact same e
  · have hli : decide ((n : Int) < 2) = false := decide_eq_false (by omega)
    repeat' first | ((first | refine callP_false (.bool false) ?_ | refine aw_region rfl ?_ | refine aw_region_draw mixedF rfl (by kernel_rfl) ?_ | refine aw_ret ?_ | refine aw_skip ?_ | refine aw_exit ?_ | refine aw_label ?_); simp only [go_sem, ↓reduceIte, Nat.reduceEqDiff, Nat.reduceAdd, Nat.reduceSub, Nat.reduceMul, Nat.reduceLeDiff, Nat.reduceLT, Nat.reduceBEq, Int.reduceNeg, Int.reduceLE, Int.reduceLT, Int.reduceToNat, String.reduceEq, hh, hli]) | refine aw_seq ?_ | refine aw_block ?_ | refine aw_scope ?_ | (refine aw_cond rfl (fun h => ?_) (fun h => ?_) <;> try (exfalso; first | (simp at h; done) | (simp at h; omega))) | ((with_reducible refine And.intro ?_ ?_); focus (first | omega | (intros; simp_all; done) | (simp; omega)))
    refine aw_loopS (ι := Nat) (fun k => [(0, .osl 7 blk v 0 n lc), (1, .func fn fs cs), (5, .int .i64 k)]) (fun _ => H) (fun k => 1 ≤ k ∧ k ≤ n ∧ cpt (D.take k) = D.take k) (fun k => n - k) 1 ⟨Nat.le_refl _, by omega, ?_⟩ ?_ rfl ?_
    · match D, hn with
      | [], hn => rfl
      | x :: D, _ => rfl
    · simp [go_sem]
    · rintro k ⟨k1, k2, k3⟩
      by_cases hkn : k < n
      · obtain ⟨p, hp⟩ : ∃ p, p = k - 1 := ⟨_, rfl⟩
        have hw1 : IntKind.i64.wrap ((k : Int) - 1) = (p : Int) := wrap_nat (by omega) (by omega)
        have hw2 : IntKind.i64.wrap ((k : Int) + 1) = ((k + 1 : Nat) : Int) := wrap_nat (by omega) (by omega)
        have hli2 : decide ((k : Int) < (n : Int)) = true := decide_eq_true (by omega)
        have hkD : k < D.length := by omega
        have hpD : p < D.length := by omega
        have g1 := fl_at hkD
        have g2 := fl_at hpD
        have ct := cpt_take k1 hkD
        have hpe : D[k - 1]'(by omega) = D[p] := by congr 1; exact hp.symm
        rw [hpe] at ct
        have a1 : k * 7 + 7 ≤ (fl D).length := by rw [fl_len]; omega
        have a2 : p * 7 + 7 ≤ (fl D).length := by rw [fl_len]; omega
        have etk : D.take (k + 1) = D.take k ++ [D[k]] := List.take_succ_eq_append_getElem hkD
        generalize D[k] = x at *
        generalize D[p] = y at *
        repeat' first | ((first | refine callP_false (.bool false) ?_ | refine aw_region rfl ?_ | refine aw_region_draw mixedF rfl (by kernel_rfl) ?_ | refine aw_ret ?_ | refine aw_skip ?_ | refine aw_exit ?_ | refine aw_label ?_); simp only [go_sem, ↓reduceIte, Nat.reduceEqDiff, Nat.reduceAdd, Nat.reduceSub, Nat.reduceMul, Nat.reduceLeDiff, Nat.reduceLT, Nat.reduceBEq, Int.reduceNeg, Int.reduceLE, Int.reduceLT, Int.reduceToNat, String.reduceEq, hh, hli2, hw1, g1, g2]) | refine aw_seq ?_ | refine aw_block ?_ | refine aw_scope ?_ | (refine aw_cond rfl (fun h => ?_) (fun h => ?_) <;> try (exfalso; first | (simp at h; done) | (simp at h; omega))) | ((with_reducible refine And.intro ?_ ?_); focus (first | omega | (intros; simp_all; done) | (simp; omega)))
        (repeat' (with_reducible refine And.intro ?_ ?_)) <;> try (first | omega | rfl)
        refine callP_test hf ?_
        by_cases heq : x.at_ = y.at_
        · rw [if_pos heq, k3] at ct
          have hde : decide (x.at_ = y.at_) = true := decide_eq_true heq
          simp only [go_sem, ↓reduceIte, Nat.reduceEqDiff, Nat.reduceAdd, Nat.reduceSub, Nat.reduceMul, Nat.reduceLeDiff, Nat.reduceLT, Nat.reduceBEq, Int.reduceNeg, Int.reduceLE, Int.reduceLT, Int.reduceToNat, String.reduceEq, hde]
          repeat' first | ((first | refine callP_false (.bool false) ?_ | refine aw_region rfl ?_ | refine aw_region_draw mixedF rfl (by kernel_rfl) ?_ | refine aw_ret ?_ | refine aw_skip ?_ | refine aw_exit ?_ | refine aw_label ?_); simp only [go_sem, ↓reduceIte, Nat.reduceEqDiff, Nat.reduceAdd, Nat.reduceSub, Nat.reduceMul, Nat.reduceLeDiff, Nat.reduceLT, Nat.reduceBEq, Int.reduceNeg, Int.reduceLE, Int.reduceLT, Int.reduceToNat, String.reduceEq, hde, hh]) | refine aw_seq ?_ | refine aw_block ?_ | refine aw_scope ?_ | (refine aw_cond rfl (fun h => ?_) (fun h => ?_) <;> try (exfalso; first | (simp at h; done) | (simp at h; omega))) | ((with_reducible refine And.intro ?_ ?_); focus (first | omega | (intros; simp_all; done) | (simp; omega)))
          (repeat' (with_reducible refine And.intro ?_ ?_)) <;> try (first | omega | rfl)
          repeat' first | ((first | refine callP_false (.bool false) ?_ | refine aw_region rfl ?_ | refine aw_region_draw mixedF rfl (by kernel_rfl) ?_ | refine aw_ret ?_ | refine aw_skip ?_ | refine aw_exit ?_ | refine aw_label ?_); simp only [go_sem, ↓reduceIte, Nat.reduceEqDiff, Nat.reduceAdd, Nat.reduceSub, Nat.reduceMul, Nat.reduceLeDiff, Nat.reduceLT, Nat.reduceBEq, Int.reduceNeg, Int.reduceLE, Int.reduceLT, Int.reduceToNat, String.reduceEq, hde, hh]) | refine aw_seq ?_ | refine aw_block ?_ | refine aw_scope ?_ | (refine aw_cond rfl (fun h => ?_) (fun h => ?_) <;> try (exfalso; first | (simp at h; done) | (simp at h; omega))) | ((with_reducible refine And.intro ?_ ?_); focus (first | omega | (intros; simp_all; done) | (simp; omega)))
          refine aw_loopS (ι := Nat × List Opn × List Opn) (fun s => [(0, .osl 7 blk v 0 n lc), (1, .func fn fs cs), (5, .int .i64 s.2.1.length), (6, .osl 7 blk v (k * 7) (n - k) (lc - k)), (7, .int .i64 s.1)])
            (fun s => hset H blk (.cells v (fl (s.2.1 ++ (s.2.2 ++ D.drop (k + s.1 - 1)))))) (fun s => 1 ≤ s.1 ∧ k + s.1 ≤ n ∧ s.2.1 = cpt (D.take (k + s.1)) ∧ s.2.1.length + s.2.2.length = k + s.1 - 1) (fun s => n - s.1) (1, D.take k, []) ⟨Nat.le_refl _, by simp only; omega, ct.symm, by simp only [List.length_take, List.length_nil]; omega⟩ ?_ ?_ ?_
          · simp [go_sem]; omega
          · simp only [List.nil_append, Nat.add_sub_cancel, List.take_append_drop]; exact (hset_id hh trivial).symm
          · rintro ⟨t, C, W⟩ ⟨t1, t2, t3, t4⟩
            simp only at t1 t2 t3 t4 ⊢
            obtain ⟨q, hq⟩ : ∃ q, q = t - 1 := ⟨_, rfl⟩
            have hw3 : IntKind.i64.wrap ((t : Int) - 1) = (q : Int) := wrap_nat (by omega) (by omega)
            have hw4 : IntKind.i64.wrap ((t : Int) + 1) = ((t + 1 : Nat) : Int) := wrap_nat (by omega) (by omega)
            by_cases htn : k + t < n
            · have hli3 : decide ((t : Int) < ((n - k : Nat) : Int)) = true := decide_eq_true (by omega)
              have e1 : D.drop (k + t - 1) = D[k + t - 1]'(by omega) :: D[k + t]'(by omega) :: D.drop (k + (t + 1)) := by
                rw [List.drop_eq_getElem_cons (by omega)]
                congr 1
                have : k + t - 1 + 1 = k + t := by omega
                rw [this, List.drop_eq_getElem_cons (by omega)]; rfl
              have e2 : D.drop (k + (t + 1) - 1) = D[k + t]'(by omega) :: D.drop (k + (t + 1)) := by
                have : k + (t + 1) - 1 = k + t := by omega
                rw [this, List.drop_eq_getElem_cons (by omega)]; rfl
              have cs2 := cpt_take (D := D) (j := k + t) (by omega) (by omega)
              rw [← t3] at cs2
              have hdl : (D.drop (k + (t + 1))).length = n - (k + (t + 1)) := by rw [List.length_drop, hn]
              generalize D[k + t - 1]'(by omega) = b at *
              generalize D[k + t]'(by omega) = a at *
              generalize D.drop (k + (t + 1)) = Z at *
              have e3 : C ++ (W ++ D.drop (k + t - 1)) = C ++ (W ++ b :: a :: Z) := by rw [e1]
              have lE : (C ++ (W ++ b :: a :: Z)).length = n := by simp only [List.length_append, List.length_cons]; omega
              have g3 := fl_get (A := C ++ W) (x := b) (R := a :: Z) (k := k + q) (by rw [List.length_append]; omega)
              have g4 := fl_get (A := C ++ W ++ [b]) (x := a) (R := Z) (k := k + t) (by simp only [List.length_append, List.length_singleton]; omega)
              simp only [List.append_assoc, List.cons_append, List.nil_append, Nat.add_mul] at g3 g4
              have a3 : k * 7 + q * 7 + 7 ≤ (fl (C ++ (W ++ b :: a :: Z))).length := by rw [fl_len, lE]; omega
              have a4 : k * 7 + t * 7 + 7 ≤ (fl (C ++ (W ++ b :: a :: Z))).length := by rw [fl_len, lE]; omega
              rw [e3]
              repeat' first | ((first | refine callP_false (.bool false) ?_ | refine aw_region rfl ?_ | refine aw_region_draw mixedF rfl (by kernel_rfl) ?_ | refine aw_ret ?_ | refine aw_skip ?_ | refine aw_exit ?_ | refine aw_label ?_); simp only [go_sem, ↓reduceIte, Nat.reduceEqDiff, Nat.reduceAdd, Nat.reduceSub, Nat.reduceMul, Nat.reduceLeDiff, Nat.reduceLT, Nat.reduceBEq, Int.reduceNeg, Int.reduceLE, Int.reduceLT, Int.reduceToNat, String.reduceEq, hset1, hset2, hli3, hw3, g3, g4]) | refine aw_seq ?_ | refine aw_block ?_ | refine aw_scope ?_ | (refine aw_cond rfl (fun h => ?_) (fun h => ?_) <;> try (exfalso; first | (simp at h; done) | (simp at h; omega))) | ((with_reducible refine And.intro ?_ ?_); focus (first | omega | (intros; simp_all; done) | (simp; omega)))
              (repeat' (with_reducible refine And.intro ?_ ?_)) <;> try (first | omega | rfl)
              refine callP_test hf ?_
              by_cases hab : a.at_ = b.at_
              · have hde2 : decide (a.at_ = b.at_) = true := decide_eq_true hab
                simp only [go_sem, ↓reduceIte, Nat.reduceEqDiff, Nat.reduceAdd, Nat.reduceSub, Nat.reduceMul, Nat.reduceLeDiff, Nat.reduceLT, Nat.reduceBEq, Int.reduceNeg, Int.reduceLE, Int.reduceLT, Int.reduceToNat, String.reduceEq, hde2]
                rw [if_pos hab] at cs2
                repeat' first | ((first | refine callP_false (.bool false) ?_ | refine aw_region rfl ?_ | refine aw_region_draw mixedF rfl (by kernel_rfl) ?_ | refine aw_ret ?_ | refine aw_skip ?_ | refine aw_exit ?_ | refine aw_label ?_); simp only [go_sem, ↓reduceIte, Nat.reduceEqDiff, Nat.reduceAdd, Nat.reduceSub, Nat.reduceMul, Nat.reduceLeDiff, Nat.reduceLT, Nat.reduceBEq, Int.reduceNeg, Int.reduceLE, Int.reduceLT, Int.reduceToNat, String.reduceEq, hde2, hw4]) | refine aw_seq ?_ | refine aw_block ?_ | refine aw_scope ?_ | (refine aw_cond rfl (fun h => ?_) (fun h => ?_) <;> try (exfalso; first | (simp at h; done) | (simp at h; omega))) | ((with_reducible refine And.intro ?_ ?_); focus (first | omega | (intros; simp_all; done) | (simp; omega)))
                refine ⟨(t + 1, C, W ++ [b]), ⟨by simp only; omega, by simp only; omega, cs2.symm, by simp only [List.length_append, List.length_singleton]; omega⟩, by simp only; omega, ⟨rfl, rfl⟩, ?_⟩
                simp only [e2, List.append_assoc, List.cons_append, List.nil_append]
              · have hde2 : decide (a.at_ = b.at_) = false := decide_eq_false hab
                simp only [go_sem, ↓reduceIte, Nat.reduceEqDiff, Nat.reduceAdd, Nat.reduceSub, Nat.reduceMul, Nat.reduceLeDiff, Nat.reduceLT, Nat.reduceBEq, Int.reduceNeg, Int.reduceLE, Int.reduceLT, Int.reduceToNat, String.reduceEq, hde2]
                rw [if_neg hab] at cs2
                obtain ⟨w0, W0, hW⟩ : ∃ w0 W0, W ++ [b] = w0 :: W0 := by
                  cases W with
                  | nil => exact ⟨b, [], rfl⟩
                  | cons w0 W0 => exact ⟨w0, W0 ++ [b], rfl⟩
                have e4 : C ++ (W ++ b :: a :: Z) = C ++ w0 :: (W0 ++ a :: Z) := by
                  have : W ++ b :: a :: Z = (W ++ [b]) ++ a :: Z := by simp
                  rw [this, hW]; rfl
                have lW : W.length = W0.length := by
                  have h0 : (W ++ [b]).length = (w0 :: W0).length := by rw [hW]
                  simpa using h0
                have s1 := fl_set (A := C) (x := w0) (y := a) (R := W0 ++ a :: Z) rfl
                rw [← e4] at s1
                have a5 : C.length * 7 + 7 ≤ (fl (C ++ (W ++ b :: a :: Z))).length := by rw [fl_len, lE]; omega
                have hw5 : IntKind.i64.wrap ((C.length : Int) + 1) = ((C.length + 1 : Nat) : Int) := wrap_nat (by omega) (by omega)
                repeat' first | ((first | refine callP_false (.bool false) ?_ | refine aw_region rfl ?_ | refine aw_region_draw mixedF rfl (by kernel_rfl) ?_ | refine aw_ret ?_ | refine aw_skip ?_ | refine aw_exit ?_ | refine aw_label ?_); simp only [go_sem, ↓reduceIte, Nat.reduceEqDiff, Nat.reduceAdd, Nat.reduceSub, Nat.reduceMul, Nat.reduceLeDiff, Nat.reduceLT, Nat.reduceBEq, Int.reduceNeg, Int.reduceLE, Int.reduceLT, Int.reduceToNat, String.reduceEq, hde2, hset1, hset2, g4, s1, hw4, hw5, opC_len, opC_one]) | refine aw_seq ?_ | refine aw_block ?_ | refine aw_scope ?_ | (refine aw_cond rfl (fun h => ?_) (fun h => ?_) <;> try (exfalso; first | (simp at h; done) | (simp at h; omega))) | ((with_reducible refine And.intro ?_ ?_); focus (first | omega | (intros; simp_all; done) | (simp; omega)))
                (repeat' (with_reducible refine And.intro ?_ ?_)) <;> try (first | omega | rfl)
                repeat' first | ((first | refine callP_false (.bool false) ?_ | refine aw_region rfl ?_ | refine aw_region_draw mixedF rfl (by kernel_rfl) ?_ | refine aw_ret ?_ | refine aw_skip ?_ | refine aw_exit ?_ | refine aw_label ?_); simp only [go_sem, ↓reduceIte, Nat.reduceEqDiff, Nat.reduceAdd, Nat.reduceSub, Nat.reduceMul, Nat.reduceLeDiff, Nat.reduceLT, Nat.reduceBEq, Int.reduceNeg, Int.reduceLE, Int.reduceLT, Int.reduceToNat, String.reduceEq, hw4, hw5]) | refine aw_seq ?_ | refine aw_block ?_ | refine aw_scope ?_ | (refine aw_cond rfl (fun h => ?_) (fun h => ?_) <;> try (exfalso; first | (simp at h; done) | (simp at h; omega))) | ((with_reducible refine And.intro ?_ ?_); focus (first | omega | (intros; simp_all; done) | (simp; omega)))
                refine ⟨(t + 1, C ++ [a], W0), ⟨by simp only; omega, by simp only; omega, cs2.symm, by simp only [List.length_append, List.length_singleton]; omega⟩, by simp only; omega, ⟨by simp only [List.length_append, List.length_singleton], rfl⟩, ?_⟩
                simp only [e2, List.append_assoc, List.cons_append, List.nil_append]
            · have hli3 : decide ((t : Int) < ((n - k : Nat) : Int)) = false := decide_eq_false (by omega)
              have lE : (C ++ (W ++ D.drop (k + t - 1))).length = n := by simp only [List.length_append, List.length_drop]; omega
              have hkt : k + t = n := by omega
              rw [hkt, List.take_of_length_le (by omega)] at t3
              repeat' first | ((first | refine callP_false (.bool false) ?_ | refine aw_region rfl ?_ | refine aw_region_draw mixedF rfl (by kernel_rfl) ?_ | refine aw_ret ?_ | refine aw_skip ?_ | refine aw_exit ?_ | refine aw_label ?_); simp only [go_sem, ↓reduceIte, Nat.reduceEqDiff, Nat.reduceAdd, Nat.reduceSub, Nat.reduceMul, Nat.reduceLeDiff, Nat.reduceLT, Nat.reduceBEq, Int.reduceNeg, Int.reduceLE, Int.reduceLT, Int.reduceToNat, String.reduceEq, hset1, hset2, hli3]) | refine aw_seq ?_ | refine aw_block ?_ | refine aw_scope ?_ | (refine aw_cond rfl (fun h => ?_) (fun h => ?_) <;> try (exfalso; first | (simp at h; done) | (simp at h; omega))) | ((with_reducible refine And.intro ?_ ?_); focus (first | omega | (intros; simp_all; done) | (simp; omega)))
              refine ⟨by rw [fl_len, lE]; omega, ?_⟩
              repeat' first | ((first | refine callP_false (.bool false) ?_ | refine aw_region rfl ?_ | refine aw_region_draw mixedF rfl (by kernel_rfl) ?_ | refine aw_ret ?_ | refine aw_skip ?_ | refine aw_exit ?_ | refine aw_label ?_); simp only [go_sem, ↓reduceIte, Nat.reduceEqDiff, Nat.reduceAdd, Nat.reduceSub, Nat.reduceMul, Nat.reduceLeDiff, Nat.reduceLT, Nat.reduceBEq, Int.reduceNeg, Int.reduceLE, Int.reduceLT, Int.reduceToNat, String.reduceEq, hset1, hset2, hli3]) | refine aw_seq ?_ | refine aw_block ?_ | refine aw_scope ?_ | (refine aw_cond rfl (fun h => ?_) (fun h => ?_) <;> try (exfalso; first | (simp at h; done) | (simp at h; omega))) | ((with_reducible refine And.intro ?_ ?_); focus (first | omega | (intros; simp_all; done) | (simp; omega)))
              rw [fl_app, splice_app (fl_len C)]
              refine ⟨_, [], .osl 7 blk v 0 C.length lc, (List.append_nil _).symm, hset_len _ _ _, hset_cl fun z hz => ?_, .cl _ (.osl _ _ _ _ _ _ hbl), by rw [t3], _, by rw [t3]⟩
              rw [List.mem_append, List.mem_append] at hz
              rcases hz with hz | hz | hz
              · exact (pur_fl C z hz).cl _
              · obtain ⟨e, he, hz⟩ := List.mem_flatMap.1 hz
                rw [(List.mem_replicate.1 he).2] at hz
                exact Pur.cl (Pur.cells (by simp only [pur_int, pur_bool, pur_str, pur_agg, pur_tup, pur_sl, pur_iface, pur_nilI, List.mem_cons, List.not_mem_nil, false_implies, forall_eq_or_imp, List.mem_map, forall_exists_index, and_imp, forall_apply_eq_imp_iff₂, or_false, forall_eq, implies_true, and_self, and_true, true_and, Go.Gw.stA, Go.Gw.opA, Go.Gw.ndA, Go.Gw.unA, Go.Gw.enA, Go.Gw.inA, Go.Gw.lgF, Go.Gw.lgA]) z hz) _
              · exact (pur_fl _ z (List.mem_of_mem_drop hz)).cl _
        · rw [if_neg heq, k3, ← etk] at ct
          have hde : decide (x.at_ = y.at_) = false := decide_eq_false heq
          simp only [go_sem, ↓reduceIte, Nat.reduceEqDiff, Nat.reduceAdd, Nat.reduceSub, Nat.reduceMul, Nat.reduceLeDiff, Nat.reduceLT, Nat.reduceBEq, Int.reduceNeg, Int.reduceLE, Int.reduceLT, Int.reduceToNat, String.reduceEq, hde]
          repeat' first | ((first | refine callP_false (.bool false) ?_ | refine aw_region rfl ?_ | refine aw_region_draw mixedF rfl (by kernel_rfl) ?_ | refine aw_ret ?_ | refine aw_skip ?_ | refine aw_exit ?_ | refine aw_label ?_); simp only [go_sem, ↓reduceIte, Nat.reduceEqDiff, Nat.reduceAdd, Nat.reduceSub, Nat.reduceMul, Nat.reduceLeDiff, Nat.reduceLT, Nat.reduceBEq, Int.reduceNeg, Int.reduceLE, Int.reduceLT, Int.reduceToNat, String.reduceEq, hde, hw2]) | refine aw_seq ?_ | refine aw_block ?_ | refine aw_scope ?_ | (refine aw_cond rfl (fun h => ?_) (fun h => ?_) <;> try (exfalso; first | (simp at h; done) | (simp at h; omega))) | ((with_reducible refine And.intro ?_ ?_); focus (first | omega | (intros; simp_all; done) | (simp; omega)))
          exact ⟨k + 1, ⟨by omega, by omega, ct⟩, by omega, rfl⟩
      · have hke : k = n := by omega
        have hli2 : decide ((k : Int) < (n : Int)) = false := decide_eq_false (by omega)
        repeat' first | ((first | refine callP_false (.bool false) ?_ | refine aw_region rfl ?_ | refine aw_region_draw mixedF rfl (by kernel_rfl) ?_ | refine aw_ret ?_ | refine aw_skip ?_ | refine aw_exit ?_ | refine aw_label ?_); simp only [go_sem, ↓reduceIte, Nat.reduceEqDiff, Nat.reduceAdd, Nat.reduceSub, Nat.reduceMul, Nat.reduceLeDiff, Nat.reduceLT, Nat.reduceBEq, Int.reduceNeg, Int.reduceLE, Int.reduceLT, Int.reduceToNat, String.reduceEq, hh, hli2]) | refine aw_seq ?_ | refine aw_block ?_ | refine aw_scope ?_ | (refine aw_cond rfl (fun h => ?_) (fun h => ?_) <;> try (exfalso; first | (simp at h; done) | (simp at h; omega))) | ((with_reducible refine And.intro ?_ ?_); focus (first | omega | (intros; simp_all; done) | (simp; omega)))
        rw [hke, List.take_of_length_le (by omega)] at k3
        exact same k3
end Go.Proofs.Ytoffonjlfomnbaa

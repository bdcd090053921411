/- Sorting of operations in memory: sorting by insertion. No condition. -/
import Derived.Test.YtoffonjlfomnbaaSrtC
namespace Go.Proofs.Ytoffonjlfomnbaa
open Go Go.Aw Go.Gw Go.Srt
set_option linter.unusedSimpArgs false
set_option maxRecDepth 20000
set_option maxHeartbeats 4000000

/-- Behind some rounds: the first ones are in order. -/
structure InsO (lt : Opn → Opn → Bool) (X M Y : List Opn) (s : Nat × List Opn) : Prop where
  le : s.1 ≤ M.length
  ex : ∃ S, s.2 = X ++ (S ++ (M.drop s.1 ++ Y)) ∧ Fs lt (M.take s.1) S ∧ Sd lt S

theorem insSort_c {X M Y D : List Opn} {n : Nat} {a b : Int} {lt : Opn → Opn → Bool} {c : Opn → Opn → Int} (hw : SWO lt) (hc : ∀ x y, decide (c x y < 0) = lt x y)
    (hD : D = X ++ (M ++ Y)) (hn : n = D.length) (ha : a = X.length) (hb : b = (X.length + M.length : Nat)) (fn : Fn) (fs cs : List AV) (hf : CmpC Try.prog (.func fn fs cs) c) (H : AHeap) (blk v lc : Nat)
    (hh : hget H blk = .cells v (fl D)) (hl : n ≤ 1000000000) :
    ACalls Try.prog 93 [.osl 7 blk v 0 n lc, .int .i64 a, .int .i64 b, .func fn fs cs] H
      (fun r H' => r = .tup [] ∧ ∃ S, Fs lt M S ∧ Sd lt S ∧ H' = hset H blk (.cells v (fl (X ++ (S ++ Y))))) := by
  refine acalls_of Try.func93 rfl (Nat.le_of_ble_eq_true rfl) ?_
  have hset1 := fun b => hget_of hh trivial b
  have hset2 := hset_set H blk
  have hlen : n = X.length + (M.length + Y.length) := by rw [hn, hD]; simp only [List.length_append]
  cases M with
  | nil =>
    have hw1 : IntKind.i64.wrap (a + 1) = ((X.length + 1 : Nat) : Int) := by subst ha; exact wrap_i64 (by omega) (by omega)
    have hli : decide (((X.length + 1 : Nat) : Int) < b) = false := decide_eq_false (by subst hb; simp only [List.length_nil]; omega)
    repeat' first | ((first | refine callP_false (.bool false) ?_ | refine aw_region rfl ?_ | refine aw_region_draw mixedF rfl (by kernel_rfl) ?_ | refine aw_ret ?_ | refine aw_skip ?_ | refine aw_exit ?_ | refine aw_label ?_); simp only [go_sem, aopsK, aopsG, aopsPK, aopsPG, aopsMK, aopsMG, aopsN, TypeDesc.isAgg, ↓reduceIte, Nat.reduceEqDiff, Nat.reduceAdd, Nat.reduceSub, Nat.reduceMul, Nat.reduceLeDiff, Nat.reduceLT, Nat.reduceBEq, Int.reduceNeg, Int.reduceLE, Int.reduceLT, Int.reduceToNat, String.reduceEq, Option.isSome_some, Option.isSome_none, Bool.false_eq_true, Bool.true_eq_false, not_true_eq_false, not_false_eq_true, true_and, and_true, and_self, List.getElem?_toArray, List.getElem?_cons_zero, List.getElem?_cons_succ, List.getElem?_nil, List.length_map, List.append_eq, List.range_zero, List.cons_append, List.nil_append, Nat.one_ne_zero, implies_true, hw1]) | refine aw_seq ?_ | refine aw_block ?_ | refine aw_scope ?_ | (refine aw_cond rfl (fun h => ?_) (fun h => ?_) <;> try (exfalso; first | (simp at h; done) | (simp at h; omega))) | ((with_reducible refine And.intro ?_ ?_); focus (first | omega | (intros; simp_all; done) | (simp; omega)))
    refine aw_loopS (ι := Unit) (fun _ => [(2, .int .i64 b), (8, .int .i64 (X.length + 1 : Nat))]) (fun _ => H) (fun _ => True) (fun _ => 0) () trivial ?_ rfl ?_
    · simp [go_sem]
    · intro _ _
      repeat' first | ((first | refine callP_false (.bool false) ?_ | refine aw_region rfl ?_ | refine aw_region_draw mixedF rfl (by kernel_rfl) ?_ | refine aw_ret ?_ | refine aw_skip ?_ | refine aw_exit ?_ | refine aw_label ?_); simp only [go_sem, aopsK, aopsG, aopsPK, aopsPG, aopsMK, aopsMG, aopsN, TypeDesc.isAgg, ↓reduceIte, Nat.reduceEqDiff, Nat.reduceAdd, Nat.reduceSub, Nat.reduceMul, Nat.reduceLeDiff, Nat.reduceLT, Nat.reduceBEq, Int.reduceNeg, Int.reduceLE, Int.reduceLT, Int.reduceToNat, String.reduceEq, Option.isSome_some, Option.isSome_none, Bool.false_eq_true, Bool.true_eq_false, not_true_eq_false, not_false_eq_true, true_and, and_true, and_self, List.getElem?_toArray, List.getElem?_cons_zero, List.getElem?_cons_succ, List.getElem?_nil, List.length_map, List.append_eq, List.range_zero, List.cons_append, List.nil_append, Nat.one_ne_zero, implies_true, hli]) | refine aw_seq ?_ | refine aw_block ?_ | refine aw_scope ?_ | (refine aw_cond rfl (fun h => ?_) (fun h => ?_) <;> try (exfalso; first | (simp at h; done) | (simp at h; omega))) | ((with_reducible refine And.intro ?_ ?_); focus (first | omega | (intros; simp_all; done) | (simp; omega)))
      have e : H = hset H blk (.cells v (fl (X ++ ([] ++ Y)))) := by rw [← show D = X ++ ([] ++ Y) from hD]; exact (hset_id hh trivial).symm
      conv => enter [1, H1, 1, L, 1, y]; skip
      have h := doneSet (H := H) (i := blk) (b := .cells v (fl (X ++ ([] ++ Y)))) (clb_fl _ _ _) (fun r H' => r = .tup [] ∧ ∃ S, Fs lt [] S ∧ Sd lt S ∧ H' = hset H blk (.cells v (fl (X ++ (S ++ Y))))) ⟨rfl, [], .refl _, .nil, rfl⟩
      rw [← e] at h
      exact h
  | cons m0 M0 =>
    generalize hM : m0 :: M0 = M at *
    have hpos : 1 ≤ M.length := by rw [← hM]; simp
    have hw1 : IntKind.i64.wrap (a + 1) = ((X.length + 1 : Nat) : Int) := by subst ha; exact wrap_i64 (by omega) (by omega)
    repeat' first | ((first | refine callP_false (.bool false) ?_ | refine aw_region rfl ?_ | refine aw_region_draw mixedF rfl (by kernel_rfl) ?_ | refine aw_ret ?_ | refine aw_skip ?_ | refine aw_exit ?_ | refine aw_label ?_); simp only [go_sem, aopsK, aopsG, aopsPK, aopsPG, aopsMK, aopsMG, aopsN, TypeDesc.isAgg, ↓reduceIte, Nat.reduceEqDiff, Nat.reduceAdd, Nat.reduceSub, Nat.reduceMul, Nat.reduceLeDiff, Nat.reduceLT, Nat.reduceBEq, Int.reduceNeg, Int.reduceLE, Int.reduceLT, Int.reduceToNat, String.reduceEq, Option.isSome_some, Option.isSome_none, Bool.false_eq_true, Bool.true_eq_false, not_true_eq_false, not_false_eq_true, true_and, and_true, and_self, List.getElem?_toArray, List.getElem?_cons_zero, List.getElem?_cons_succ, List.getElem?_nil, List.length_map, List.append_eq, List.range_zero, List.cons_append, List.nil_append, Nat.one_ne_zero, implies_true, hw1]) | refine aw_seq ?_ | refine aw_block ?_ | refine aw_scope ?_ | (refine aw_cond rfl (fun h => ?_) (fun h => ?_) <;> try (exfalso; first | (simp at h; done) | (simp at h; omega))) | ((with_reducible refine And.intro ?_ ?_); focus (first | omega | (intros; simp_all; done) | (simp; omega)))
    refine aw_loopS (ι := Nat × List Opn) (fun s => [(0, .osl 7 blk v 0 n lc), (1, .int .i64 a), (2, .int .i64 b), (3, .func fn fs cs), (8, .int .i64 (X.length + s.1 : Nat))])
      (fun s => hset H blk (.cells v (fl s.2))) (InsO lt X M Y) (fun s => M.length - s.1) (1, D) ⟨hpos, [m0], by rw [hD, ← hM]; rfl, by rw [← hM]; exact .refl _, .one _⟩ ?_ (hset_id hh trivial).symm ?_
    · simp [go_sem]
    · rintro ⟨i, E⟩ ⟨hi, S, hE, hS1, hS2⟩
      simp only at hi hE hS1 hS2 ⊢
      have hSl : S.length = i := by have := hS1.1; rw [List.length_take] at this; omega
      by_cases hlt : i < M.length
      · have e1 : M.drop i = M[i] :: M.drop (i + 1) := List.drop_eq_getElem_cons hlt
        have e2 : M.take (i + 1) = M.take i ++ [M[i]] := List.take_succ_eq_append_getElem hlt
        rw [e1] at hE
        have hdl : (M.drop (i + 1)).length = M.length - (i + 1) := List.length_drop ..
        generalize M[i] = x at *
        generalize hR : M.drop (i + 1) = R at *
        have hli : decide (((X.length + i : Nat) : Int) < b) = true := decide_eq_true (by omega)
        have hw2 : IntKind.i64.wrap (((X.length + i : Nat) : Int) + 1) = ((X.length + (i + 1) : Nat) : Int) := wrap_nat (by omega) (by omega)
        repeat' first | ((first | refine callP_false (.bool false) ?_ | refine aw_region rfl ?_ | refine aw_region_draw mixedF rfl (by kernel_rfl) ?_ | refine aw_ret ?_ | refine aw_skip ?_ | refine aw_exit ?_ | refine aw_label ?_); simp only [go_sem, aopsK, aopsG, aopsPK, aopsPG, aopsMK, aopsMG, aopsN, TypeDesc.isAgg, ↓reduceIte, Nat.reduceEqDiff, Nat.reduceAdd, Nat.reduceSub, Nat.reduceMul, Nat.reduceLeDiff, Nat.reduceLT, Nat.reduceBEq, Int.reduceNeg, Int.reduceLE, Int.reduceLT, Int.reduceToNat, String.reduceEq, Option.isSome_some, Option.isSome_none, Bool.false_eq_true, Bool.true_eq_false, not_true_eq_false, not_false_eq_true, true_and, and_true, and_self, List.getElem?_toArray, List.getElem?_cons_zero, List.getElem?_cons_succ, List.getElem?_nil, List.length_map, List.append_eq, List.range_zero, List.cons_append, List.nil_append, Nat.one_ne_zero, implies_true, hli]) | refine aw_seq ?_ | refine aw_block ?_ | refine aw_scope ?_ | (refine aw_cond rfl (fun h => ?_) (fun h => ?_) <;> try (exfalso; first | (simp at h; done) | (simp at h; omega))) | ((with_reducible refine And.intro ?_ ?_); focus (first | omega | (intros; simp_all; done) | (simp; omega)))
        refine aw_loopS (ι := List Opn × List Opn) (fun s => [(0, .osl 7 blk v 0 n lc), (1, .int .i64 a), (2, .int .i64 b), (3, .func fn fs cs), (8, .int .i64 (X.length + i : Nat)), (9, .int .i64 (X.length + s.1.length : Nat))])
          (fun s => hset H blk (.cells v (fl ((X ++ s.1) ++ x :: (s.2 ++ (R ++ Y)))))) (fun s => s.1 ++ s.2 = S ∧ ∀ y ∈ s.2, lt x y = true) (fun s => s.1.length) (S, []) ⟨List.append_nil _, by simp⟩ ?_ ?_ ?_
        · simp [go_sem, hSl]
        · rw [hE]; simp only [List.append_assoc, List.cons_append, List.nil_append]
        · rintro ⟨S1, S2⟩ ⟨hSS, hgt⟩
          simp only at hSS hgt ⊢
          have hSSl : S1.length + S2.length = i := by rw [← hSl, ← hSS, List.length_append]
          have fin : (∀ s ∈ S1, lt x s = false) → InsO lt X M Y (i + 1, (X ++ S1) ++ x :: (S2 ++ (R ++ Y))) := fun h1 => by
            refine ⟨hlt, S1 ++ x :: S2, by simp only [hR, List.append_assoc, List.cons_append], ?_, ?_⟩
            · rw [e2]
              refine Fs.trans (hS1.app (.refl [x])) ?_
              rw [← hSS]; exact ins_fs hw hgt
            · rw [← hSS] at hS2; exact ins_sd hw hS2 hgt h1
          rcases List.eq_nil_or_concat S1 with h0 | ⟨S0, y, h0⟩
          · subst h0
            have hj : decide (a < (X.length : Int)) = false := decide_eq_false (by omega)
            rw [List.length_nil, Nat.add_zero]
            repeat' first | ((first | refine aw_region_mix (id := 6) [.free, .free, .free, .free, .free, .free, .free, .free, .pure 0, .pure 0, .free, .free, .pure 0, .pure 0, .pure 0, .eff [false, false, true, false, false], .pure 0, .eff [false, false]] mixedF rfl (by kernel_rfl) (by kernel_rfl) ?_ | refine callP_false (.bool false) ?_ | refine aw_region rfl ?_ | refine aw_region_draw mixedF rfl (by kernel_rfl) ?_ | refine aw_ret ?_ | refine aw_skip ?_ | refine aw_exit ?_ | refine aw_label ?_); simp only [go_sem, aopsK, aopsG, aopsPK, aopsPG, aopsMK, aopsMG, aopsN, TypeDesc.isAgg, ↓reduceIte, Nat.reduceEqDiff, Nat.reduceAdd, Nat.reduceSub, Nat.reduceMul, Nat.reduceLeDiff, Nat.reduceLT, Nat.reduceBEq, Int.reduceNeg, Int.reduceLE, Int.reduceLT, Int.reduceToNat, String.reduceEq, Option.isSome_some, Option.isSome_none, Bool.false_eq_true, Bool.true_eq_false, not_true_eq_false, not_false_eq_true, true_and, and_true, and_self, List.getElem?_toArray, List.getElem?_cons_zero, List.getElem?_cons_succ, List.getElem?_nil, List.length_map, List.append_eq, List.range_zero, List.cons_append, List.nil_append, Nat.one_ne_zero, implies_true, hj, hset1, hset2, hw2]) | refine aw_seq ?_ | refine aw_block ?_ | refine aw_scope ?_ | (refine aw_cond rfl (fun h => ?_) (fun h => ?_) <;> try (exfalso; first | (simp at h; done) | (simp at h; omega))) | ((with_reducible refine And.intro ?_ ?_); focus (first | omega | (intros; simp_all; done) | (simp; omega)))
            exact ⟨_, fin (by simp), by simp only; omega, rfl, by simp⟩
          · subst h0
            rw [List.concat_eq_append] at *
            obtain ⟨p, hp⟩ : ∃ p, p = X.length + S0.length := ⟨_, rfl⟩
            obtain ⟨q, hq⟩ : ∃ q, q = X.length + S0.length + 1 := ⟨_, rfl⟩
            have hq1 : X.length + (S0 ++ [y]).length = q := by rw [List.length_append, List.length_singleton]; omega
            have hj : decide (a < (q : Int)) = true := decide_eq_true (by omega)
            have hw3 : IntKind.i64.wrap ((q : Int) - 1) = (p : Int) := wrap_nat (by omega) (by omega)
            have eD : (X ++ (S0 ++ [y])) ++ x :: (S2 ++ (R ++ Y)) = (X ++ S0) ++ y :: x :: (S2 ++ (R ++ Y)) := by simp only [List.append_assoc, List.cons_append, List.nil_append]
            have l1 : (X ++ S0).length = p := by rw [List.length_append, hp]
            have l2 : (X ++ (S0 ++ [y])).length = q := by rw [List.length_append, hq1]
            have l3 : (X ++ S0 ++ [y]).length = q := by rw [List.append_assoc]; exact l2
            have g1 := fl_get (x := y) (R := x :: (S2 ++ (R ++ Y))) l1
            have g2 := fl_get (x := x) (R := S2 ++ (R ++ Y)) l3
            have s1 := fl_set (x := x) (y := y) (R := S2 ++ (R ++ Y)) l3
            have s2 := fl_set (x := y) (y := x) (R := y :: (S2 ++ (R ++ Y))) l1
            simp only [List.append_assoc, List.cons_append, List.nil_append] at g1 g2 s1 s2 eD
            simp only [List.length_append, List.length_cons] at hSSl
            rw [hq1]
            simp only [eD, List.append_assoc, List.cons_append, List.nil_append]
            have hli3 : (q : Int) < (n : Int) := by omega
            have hlq : q * 7 + 7 ≤ (fl (X ++ (S0 ++ y :: x :: (S2 ++ (R ++ Y))))).length := by rw [fl_len]; simp only [List.length_append, List.length_cons]; omega
            have hlp : p * 7 + 7 ≤ (fl (X ++ (S0 ++ y :: x :: (S2 ++ (R ++ Y))))).length := by rw [fl_len]; simp only [List.length_append, List.length_cons]; omega
            have hlp2 : p * 7 + 7 ≤ (fl (X ++ (S0 ++ y :: y :: (S2 ++ (R ++ Y))))).length := by rw [fl_len]; simp only [List.length_append, List.length_cons]; omega
            repeat' first | ((first | refine aw_region_mix (id := 6) [.free, .free, .free, .free, .free, .free, .free, .free, .pure 0, .pure 0, .free, .free, .pure 0, .pure 0, .pure 0, .eff [false, false, true, false, false], .pure 0, .eff [false, false]] mixedF rfl (by kernel_rfl) (by kernel_rfl) ?_ | refine callP_false (.bool false) ?_ | refine aw_region rfl ?_ | refine aw_region_draw mixedF rfl (by kernel_rfl) ?_ | refine aw_ret ?_ | refine aw_skip ?_ | refine aw_exit ?_ | refine aw_label ?_); simp only [go_sem, aopsK, aopsG, aopsPK, aopsPG, aopsMK, aopsMG, aopsN, TypeDesc.isAgg, ↓reduceIte, Nat.reduceEqDiff, Nat.reduceAdd, Nat.reduceSub, Nat.reduceMul, Nat.reduceLeDiff, Nat.reduceLT, Nat.reduceBEq, Int.reduceNeg, Int.reduceLE, Int.reduceLT, Int.reduceToNat, String.reduceEq, Option.isSome_some, Option.isSome_none, Bool.false_eq_true, Bool.true_eq_false, not_true_eq_false, not_false_eq_true, true_and, and_true, and_self, List.getElem?_toArray, List.getElem?_cons_zero, List.getElem?_cons_succ, List.getElem?_nil, List.length_map, List.append_eq, List.range_zero, List.cons_append, List.nil_append, Nat.one_ne_zero, implies_true, hj, hset1, hset2, hw2, hw3, g1, g2, opC_len, opC_one]) | refine aw_seq ?_ | refine aw_block ?_ | refine aw_scope ?_ | (refine aw_cond rfl (fun h => ?_) (fun h => ?_) <;> try (exfalso; first | (simp at h; done) | (simp at h; omega))) | ((with_reducible refine And.intro ?_ ?_); focus (first | omega | (intros; simp_all; done) | (simp; omega)))
            (repeat' (with_reducible refine And.intro ?_ ?_)) <;> try (first | omega | rfl)
            refine callP_cmp hf ?_
            simp only [go_sem, aopsK, aopsG, aopsPK, aopsPG, aopsMK, aopsMG, aopsN, TypeDesc.isAgg, ↓reduceIte, Nat.reduceEqDiff, Nat.reduceAdd, Nat.reduceSub, Nat.reduceMul, Nat.reduceLeDiff, Nat.reduceLT, Nat.reduceBEq, Int.reduceNeg, Int.reduceLE, Int.reduceLT, Int.reduceToNat, String.reduceEq, Option.isSome_some, Option.isSome_none, Bool.false_eq_true, Bool.true_eq_false, not_true_eq_false, not_false_eq_true, true_and, and_true, and_self, List.getElem?_toArray, List.getElem?_cons_zero, List.getElem?_cons_succ, List.getElem?_nil, List.length_map, List.append_eq, List.range_zero, List.cons_append, List.nil_append, Nat.one_ne_zero, implies_true, hc]
            cases hxy : lt x y with
            | false =>
              repeat' first | ((first | refine aw_region_mix (id := 6) [.free, .free, .free, .free, .free, .free, .free, .free, .pure 0, .pure 0, .free, .free, .pure 0, .pure 0, .pure 0, .eff [false, false, true, false, false], .pure 0, .eff [false, false]] mixedF rfl (by kernel_rfl) (by kernel_rfl) ?_ | refine callP_false (.bool false) ?_ | refine aw_region rfl ?_ | refine aw_region_draw mixedF rfl (by kernel_rfl) ?_ | refine aw_ret ?_ | refine aw_skip ?_ | refine aw_exit ?_ | refine aw_label ?_); simp only [go_sem, aopsK, aopsG, aopsPK, aopsPG, aopsMK, aopsMG, aopsN, TypeDesc.isAgg, ↓reduceIte, Nat.reduceEqDiff, Nat.reduceAdd, Nat.reduceSub, Nat.reduceMul, Nat.reduceLeDiff, Nat.reduceLT, Nat.reduceBEq, Int.reduceNeg, Int.reduceLE, Int.reduceLT, Int.reduceToNat, String.reduceEq, Option.isSome_some, Option.isSome_none, Bool.false_eq_true, Bool.true_eq_false, not_true_eq_false, not_false_eq_true, true_and, and_true, and_self, List.getElem?_toArray, List.getElem?_cons_zero, List.getElem?_cons_succ, List.getElem?_nil, List.length_map, List.append_eq, List.range_zero, List.cons_append, List.nil_append, Nat.one_ne_zero, implies_true, hxy, hset1, hset2, hw2]) | refine aw_seq ?_ | refine aw_block ?_ | refine aw_scope ?_ | (refine aw_cond rfl (fun h => ?_) (fun h => ?_) <;> try (exfalso; first | (simp at h; done) | (simp at h; omega))) | ((with_reducible refine And.intro ?_ ?_); focus (first | omega | (intros; simp_all; done) | (simp; omega)))
              refine ⟨_, fin (sd_last hw (by rw [← hSS] at hS2; exact hS2.left) hxy), by simp only; omega, rfl, ?_⟩
              simp only [List.append_assoc, List.cons_append, List.nil_append]
            | true =>
              repeat' first | ((first | refine aw_region_mix (id := 6) [.free, .free, .free, .free, .free, .free, .free, .free, .pure 0, .pure 0, .free, .free, .pure 0, .pure 0, .pure 0, .eff [false, false, true, false, false], .pure 0, .eff [false, false]] mixedF rfl (by kernel_rfl) (by kernel_rfl) ?_ | refine callP_false (.bool false) ?_ | refine aw_region rfl ?_ | refine aw_region_draw mixedF rfl (by kernel_rfl) ?_ | refine aw_ret ?_ | refine aw_skip ?_ | refine aw_exit ?_ | refine aw_label ?_); simp only [go_sem, aopsK, aopsG, aopsPK, aopsPG, aopsMK, aopsMG, aopsN, TypeDesc.isAgg, ↓reduceIte, Nat.reduceEqDiff, Nat.reduceAdd, Nat.reduceSub, Nat.reduceMul, Nat.reduceLeDiff, Nat.reduceLT, Nat.reduceBEq, Int.reduceNeg, Int.reduceLE, Int.reduceLT, Int.reduceToNat, String.reduceEq, Option.isSome_some, Option.isSome_none, Bool.false_eq_true, Bool.true_eq_false, not_true_eq_false, not_false_eq_true, true_and, and_true, and_self, List.getElem?_toArray, List.getElem?_cons_zero, List.getElem?_cons_succ, List.getElem?_nil, List.length_map, List.append_eq, List.range_zero, List.cons_append, List.nil_append, Nat.one_ne_zero, implies_true, hxy, hset1, hset2, hw3, g1, g2, s1, s2, opC_len, opC_one]) | refine aw_seq ?_ | refine aw_block ?_ | refine aw_scope ?_ | (refine aw_cond rfl (fun h => ?_) (fun h => ?_) <;> try (exfalso; first | (simp at h; done) | (simp at h; omega))) | ((with_reducible refine And.intro ?_ ?_); focus (first | omega | (intros; simp_all; done) | (simp; omega)))
              (repeat' (with_reducible refine And.intro ?_ ?_)) <;> try (first | omega | rfl)
              repeat' first | ((first | refine aw_region_mix (id := 6) [.free, .free, .free, .free, .free, .free, .free, .free, .pure 0, .pure 0, .free, .free, .pure 0, .pure 0, .pure 0, .eff [false, false, true, false, false], .pure 0, .eff [false, false]] mixedF rfl (by kernel_rfl) (by kernel_rfl) ?_ | refine callP_false (.bool false) ?_ | refine aw_region rfl ?_ | refine aw_region_draw mixedF rfl (by kernel_rfl) ?_ | refine aw_ret ?_ | refine aw_skip ?_ | refine aw_exit ?_ | refine aw_label ?_); simp only [go_sem, aopsK, aopsG, aopsPK, aopsPG, aopsMK, aopsMG, aopsN, TypeDesc.isAgg, ↓reduceIte, Nat.reduceEqDiff, Nat.reduceAdd, Nat.reduceSub, Nat.reduceMul, Nat.reduceLeDiff, Nat.reduceLT, Nat.reduceBEq, Int.reduceNeg, Int.reduceLE, Int.reduceLT, Int.reduceToNat, String.reduceEq, Option.isSome_some, Option.isSome_none, Bool.false_eq_true, Bool.true_eq_false, not_true_eq_false, not_false_eq_true, true_and, and_true, and_self, List.getElem?_toArray, List.getElem?_cons_zero, List.getElem?_cons_succ, List.getElem?_nil, List.length_map, List.append_eq, List.range_zero, List.cons_append, List.nil_append, Nat.one_ne_zero, implies_true, hw3]) | refine aw_seq ?_ | refine aw_block ?_ | refine aw_scope ?_ | (refine aw_cond rfl (fun h => ?_) (fun h => ?_) <;> try (exfalso; first | (simp at h; done) | (simp at h; omega))) | ((with_reducible refine And.intro ?_ ?_); focus (first | omega | (intros; simp_all; done) | (simp; omega)))
              refine ⟨(S0, y :: S2), ⟨by rw [← hSS, List.append_assoc]; rfl, fun z hz => ?_⟩, Nat.lt_succ_self _, by rw [hp], rfl⟩
              rcases List.mem_cons.1 hz with rfl | hz
              · exact hxy
              · exact hgt z hz
      · have hie : i = M.length := by omega
        have hli : decide (((X.length + i : Nat) : Int) < b) = false := decide_eq_false (by omega)
        repeat' first | ((first | refine callP_false (.bool false) ?_ | refine aw_region rfl ?_ | refine aw_region_draw mixedF rfl (by kernel_rfl) ?_ | refine aw_ret ?_ | refine aw_skip ?_ | refine aw_exit ?_ | refine aw_label ?_); simp only [go_sem, aopsK, aopsG, aopsPK, aopsPG, aopsMK, aopsMG, aopsN, TypeDesc.isAgg, ↓reduceIte, Nat.reduceEqDiff, Nat.reduceAdd, Nat.reduceSub, Nat.reduceMul, Nat.reduceLeDiff, Nat.reduceLT, Nat.reduceBEq, Int.reduceNeg, Int.reduceLE, Int.reduceLT, Int.reduceToNat, String.reduceEq, Option.isSome_some, Option.isSome_none, Bool.false_eq_true, Bool.true_eq_false, not_true_eq_false, not_false_eq_true, true_and, and_true, and_self, List.getElem?_toArray, List.getElem?_cons_zero, List.getElem?_cons_succ, List.getElem?_nil, List.length_map, List.append_eq, List.range_zero, List.cons_append, List.nil_append, Nat.one_ne_zero, implies_true, hli]) | refine aw_seq ?_ | refine aw_block ?_ | refine aw_scope ?_ | (refine aw_cond rfl (fun h => ?_) (fun h => ?_) <;> try (exfalso; first | (simp at h; done) | (simp at h; omega))) | ((with_reducible refine And.intro ?_ ?_); focus (first | omega | (intros; simp_all; done) | (simp; omega)))
        rw [hie, List.take_length] at hS1
        rw [hie, List.drop_length, List.nil_append] at hE
        exact doneSet (clb_fl _ _ _) _ ⟨rfl, S, hS1, hS2, by rw [hE]⟩
end Go.Proofs.Ytoffonjlfomnbaa

/- The texts 6 of 6 beneath the rows of this seat (joined by program): the abstract machine, and what the functions answer. No condition. -/
import Derived.Test.YtmknmapgfjmioaaGreatDoorWorkE
set_option linter.unusedSimpArgs false
set_option linter.unusedVariables false
set_option linter.unusedSectionVars false
/- Sorting of operations in memory: SortStableFunc, CompactFunc. No condition. -/
namespace Go.Proofs.YtmknmapgfjmioaaGreatDoor
open Go Go.Aw Go.Gw Go.Srt
set_option linter.unusedSimpArgs false
set_option maxRecDepth 20000
set_option maxHeartbeats 4000000

/-- Pieces of a length, each in order. -/
def Pcs (lt : Opn → Opn → Bool) (s : Nat) (Ps : List (List Opn)) : Prop := ∀ c ∈ Ps, c.length = s ∧ Sd lt c

structure Sta (lt : Opn → Opn → Bool) (D : List Opn) (n : Nat) (x : Nat × List (List Opn) × List Opn) : Prop where
  s1 : 1 ≤ x.1
  s2 : x.1 ≤ 2 * n + 20
  fs : Fs lt D (x.2.1.flatten ++ x.2.2)
  pc : Pcs lt x.1 x.2.1
  tl : x.2.2.length < x.1
  ts : Sd lt x.2.2

structure Stb (lt : Opn → Opn → Bool) (D : List Opn) (s : Nat) (T : List Opn) (x : List (List Opn) × List (List Opn)) : Prop where
  fs : Fs lt D (x.1.flatten ++ (x.2.flatten ++ T))
  pc : Pcs lt (2 * s) x.1
  rc : Pcs lt s x.2

theorem stable_c {lt : Opn → Opn → Bool} {c : Opn → Opn → Int} (hw : SWO lt) (hc : ∀ x y, decide (c x y < 0) = lt x y) (fn : Fn) (fs cs : List AV) (hf : CmpC Tryz.prog (.func fn fs cs) c) (blk v lc n : Nat) (hl : n ≤ 1000000000) (D : List Opn) (hn : n = D.length) (H : AHeap)
    (hh : hget H blk = .cells v (fl D)) :
    ACalls Tryz.prog 74 [.osl 7 blk v 0 n lc, .int .i64 n, .func fn fs cs] H (fun r H' => r = .tup [] ∧ ∃ S, Fs lt D S ∧ Sd lt S ∧ H' = hset H blk (.cells v (fl S))) := by
  refine acalls_of Tryz.func74 rfl (Nat.le_of_ble_eq_true rfl) ?_
  have hset1 := fun b => hget_of hh trivial b
  have hset2 := hset_set H blk
  repeat' first | ((first | refine callP_false (.bool false) ?_ | refine aw_region rfl ?_ | refine aw_region_draw mixedF rfl (by kernel_rfl) ?_ | refine aE rfl ?_); simp only [go_sem]) | refine callG_y ?_ | refine callG_p ?_ | refine aw_seq ?_ | refine aw_block ?_ | refine aw_scope ?_ | (refine aw_cond rfl (fun h => ?_) (fun h => ?_) <;> try (exfalso; first | (simp at h; done) | (simp at h; omega))) | ((with_reducible refine And.intro ?_ ?_); focus (first | omega | (intros; simp_all; done) | (simp; omega)))
  refine aw_cutB (ι := List (List Opn) × List Opn) (fun x => [(0, .osl 7 blk v 0 n lc), (1, .int .i64 n), (2, .func fn fs cs), (6, .int .i64 20), (7, .int .i64 x.1.flatten.length)]) (fun x => hset H blk (.cells v (fl (x.1.flatten ++ x.2))))
    (fun x => Fs lt D (x.1.flatten ++ x.2) ∧ Pcs lt 20 x.1 ∧ x.2.length < 20) ?_ ?_
  · refine aw_loopS (ι := List (List Opn) × List Opn) (fun x => [(0, .osl 7 blk v 0 n lc), (1, .int .i64 n), (2, .func fn fs cs), (6, .int .i64 20), (7, .int .i64 x.1.flatten.length), (8, .int .i64 (x.1.flatten.length + 20 : Nat))]) (fun x => hset H blk (.cells v (fl (x.1.flatten ++ x.2))))
      (fun x => Fs lt D (x.1.flatten ++ x.2) ∧ Pcs lt 20 x.1) (fun x => x.2.length) ([], D) ⟨.refl _, fun _ h => (by cases h)⟩ ?_ (hset_id hh trivial).symm ?_
    · simp [go_sem]
    · rintro ⟨Ps, R⟩ ⟨h1, h2⟩
      simp only at h1 h2 ⊢
      have hlen := h1.1
      rw [List.length_append, ← hn] at hlen
      by_cases h20 : R.length < 20
      · have hli : decide (((Ps.flatten.length + 20 : Nat) : Int) ≤ (n : Int)) = false := decide_eq_false (by omega)
        repeat' first | ((first | refine callP_false (.bool false) ?_ | refine aw_region rfl ?_ | refine aw_region_draw mixedF rfl (by kernel_rfl) ?_ | refine aE rfl ?_); simp only [go_sem, hli]) | refine callG_y ?_ | refine callG_p ?_ | refine aw_seq ?_ | refine aw_block ?_ | refine aw_scope ?_ | (refine aw_cond rfl (fun h => ?_) (fun h => ?_) <;> try (exfalso; first | (simp at h; done) | (simp at h; omega))) | ((with_reducible refine And.intro ?_ ?_); focus (first | omega | (intros; simp_all; done) | (simp; omega)))
        exact ⟨(Ps, R), ⟨h1, h2, h20⟩, rfl, rfl⟩
      · have hli : decide (((Ps.flatten.length + 20 : Nat) : Int) ≤ (n : Int)) = true := decide_eq_true (by omega)
        have lt20 : (R.take 20).length = 20 := by rw [List.length_take]; omega
        have ld20 : (R.drop 20).length = R.length - 20 := List.length_drop ..
        have hw2 : IntKind.i64.wrap (((Ps.flatten.length + 20 : Nat) : Int) + 20) = ((Ps.flatten.length + 20 + 20 : Nat) : Int) := wrap_nat (by omega) (by omega)
        repeat' first | ((first | refine callP_false (.bool false) ?_ | refine aw_region rfl ?_ | refine aw_region_draw mixedF rfl (by kernel_rfl) ?_ | refine aE rfl ?_); simp only [go_sem, hli]) | refine callG_y ?_ | refine callG_p ?_ | refine aw_seq ?_ | refine aw_block ?_ | refine aw_scope ?_ | (refine aw_cond rfl (fun h => ?_) (fun h => ?_) <;> try (exfalso; first | (simp at h; done) | (simp at h; omega))) | ((with_reducible refine And.intro ?_ ?_); focus (first | omega | (intros; simp_all; done) | (simp; omega)))
        refine callK_of (insSort_c (X := Ps.flatten) (M := R.take 20) (Y := R.drop 20) (a := (Ps.flatten.length : Int)) (b := ((Ps.flatten.length + 20 : Nat) : Int)) hw hc (by rw [List.take_append_drop]) (by rw [List.length_append]; exact hlen.symm) rfl (by rw [lt20]) _ _ _ hf _ _ _ _ (hset1 _) hl) callOk93F ?_
        rintro r H' ⟨rfl, S, s1, s2, rfl⟩
        simp only [go_sem, hset2]
        repeat' first | ((first | refine callP_false (.bool false) ?_ | refine aw_region rfl ?_ | refine aw_region_draw mixedF rfl (by kernel_rfl) ?_ | refine aE rfl ?_); simp only [go_sem, hw2]) | refine callG_y ?_ | refine callG_p ?_ | refine aw_seq ?_ | refine aw_block ?_ | refine aw_scope ?_ | (refine aw_cond rfl (fun h => ?_) (fun h => ?_) <;> try (exfalso; first | (simp at h; done) | (simp at h; omega))) | ((with_reducible refine And.intro ?_ ?_); focus (first | omega | (intros; simp_all; done) | (simp; omega)))
        have lS := s1.1
        have e : (Ps ++ [S]).flatten = Ps.flatten ++ S := by simp
        refine ⟨(Ps ++ [S], R.drop 20), ⟨?_, ?_⟩, by simp only; omega, ?_, ?_⟩
        · simp only [e, List.append_assoc]
          refine h1.trans ?_
          have q := (Fs.refl (lt := lt) Ps.flatten).app (s1.app (.refl (R.drop 20)))
          rw [List.take_append_drop] at q
          exact q
        · intro x hx
          rcases List.mem_append.1 hx with hx | hx
          · exact h2 x hx
          · rw [List.mem_singleton] at hx; subst hx; exact ⟨by rw [lS, lt20], s2⟩
        · simp only [e, List.length_append]
          have : S.length = 20 := by omega
          rw [this]; exact ⟨rfl, rfl⟩
        · simp only [e, List.append_assoc]
  · rintro ⟨Ps, R⟩ ⟨h1, h2, h3⟩
    simp only at h1 h2 h3 ⊢
    have hlen := h1.1
    rw [List.length_append, ← hn] at hlen
    repeat' first | ((first | refine callP_false (.bool false) ?_ | refine aw_region rfl ?_ | refine aw_region_draw mixedF rfl (by kernel_rfl) ?_ | refine aE rfl ?_); simp only [go_sem]) | refine callG_y ?_ | refine callG_p ?_ | refine aw_seq ?_ | refine aw_block ?_ | refine aw_scope ?_ | (refine aw_cond rfl (fun h => ?_) (fun h => ?_) <;> try (exfalso; first | (simp at h; done) | (simp at h; omega))) | ((with_reducible refine And.intro ?_ ?_); focus (first | omega | (intros; simp_all; done) | (simp; omega)))
    refine callK_of (insSort_c (X := Ps.flatten) (M := R) (Y := []) (a := (Ps.flatten.length : Int)) (b := (n : Int)) hw hc (by rw [List.append_nil]) (by rw [List.length_append]; exact hlen.symm) rfl (by rw [hlen]) _ _ _ hf _ _ _ _ (hset1 _) hl) callOk93F ?_
    rintro r H' ⟨rfl, S, s1, s2, rfl⟩
    simp only [go_sem, hset2]
    repeat' first | ((first | refine callP_false (.bool false) ?_ | refine aw_region rfl ?_ | refine aw_region_draw mixedF rfl (by kernel_rfl) ?_ | refine aE rfl ?_); simp only [go_sem]) | refine callG_y ?_ | refine callG_p ?_ | refine aw_seq ?_ | refine aw_block ?_ | refine aw_scope ?_ | (refine aw_cond rfl (fun h => ?_) (fun h => ?_) <;> try (exfalso; first | (simp at h; done) | (simp at h; omega))) | ((with_reducible refine And.intro ?_ ?_); focus (first | omega | (intros; simp_all; done) | (simp; omega)))
    refine aw_loopS (ι := Nat × List (List Opn) × List Opn) (fun x => [(0, .osl 7 blk v 0 n lc), (1, .int .i64 n), (2, .func fn fs cs), (6, .int .i64 x.1)]) (fun x => hset H blk (.cells v (fl (x.2.1.flatten ++ x.2.2))))
      (Sta lt D n) (fun x => n - x.1) (20, Ps, S) ⟨by simp only; omega, by simp only; omega, h1.trans ((Fs.refl (lt := lt) Ps.flatten).app s1), h2, by have := s1.1; simp only; omega, s2⟩ ?_ ?_ ?_
    · simp [go_sem]
    · rfl
    · rintro ⟨s, Ps, T⟩ ⟨g1, g2, g3, g4, g5, g6⟩
      simp only at g1 g2 g3 g4 g5 g6 ⊢
      have hlen := g3.1
      rw [List.length_append, ← hn] at hlen
      by_cases hsn : s < n
      · have hli : decide ((s : Int) < (n : Int)) = true := decide_eq_true (by omega)
        have hw2 : IntKind.i64.wrap (2 * (s : Int)) = ((2 * s : Nat) : Int) := wrap_nat (by omega) (by omega)
        have hw2' : IntKind.i64.wrap ((s : Int) * 2) = ((2 * s : Nat) : Int) := wrap_nat (by omega) (by omega)
        repeat' first | ((first | refine callP_false (.bool false) ?_ | refine aw_region rfl ?_ | refine aw_region_draw mixedF rfl (by kernel_rfl) ?_ | refine aE rfl ?_); simp only [go_sem, hli, hw2]) | refine callG_y ?_ | refine callG_p ?_ | refine aw_seq ?_ | refine aw_block ?_ | refine aw_scope ?_ | (refine aw_cond rfl (fun h => ?_) (fun h => ?_) <;> try (exfalso; first | (simp at h; done) | (simp at h; omega))) | ((with_reducible refine And.intro ?_ ?_); focus (first | omega | (intros; simp_all; done) | (simp; omega)))
        refine aw_loopS (ι := List (List Opn) × List (List Opn)) (fun x => [(0, .osl 7 blk v 0 n lc), (1, .int .i64 n), (2, .func fn fs cs), (6, .int .i64 s), (7, .int .i64 x.1.flatten.length), (8, .int .i64 (x.1.flatten.length + 2 * s : Nat))]) (fun x => hset H blk (.cells v (fl (x.1.flatten ++ (x.2.flatten ++ T)))))
          (Stb lt D s T) (fun x => x.2.length) ([], Ps) ⟨g3, fun _ h => (by cases h), g4⟩ ?_ rfl ?_
        · simp [go_sem]
        · rintro ⟨Qs, Rs⟩ ⟨k1, k2, k3⟩
          simp only at k1 k2 k3 ⊢
          have kl := k1.1
          rw [List.length_append, List.length_append, ← hn] at kl
          have hw3 : IntKind.i64.wrap ((Qs.flatten.length : Int) + (s : Int)) = ((Qs.flatten.length + s : Nat) : Int) := wrap_nat (by omega) (by omega)
          have hw4 : IntKind.i64.wrap (((Qs.flatten.length + 2 * s : Nat) : Int) + ((2 * s : Nat) : Int)) = ((Qs.flatten.length + 2 * s + 2 * s : Nat) : Int) := wrap_nat (by omega) (by omega)
          cases Rs with
          | nil =>
            have e0 : ([] : List (List Opn)).flatten = [] := rfl
            rw [e0, List.length_nil] at kl
            have hli2 : decide (((Qs.flatten.length + 2 * s : Nat) : Int) ≤ (n : Int)) = false := decide_eq_false (by omega)
            have hli3 : decide (((Qs.flatten.length + s : Nat) : Int) < (n : Int)) = false := decide_eq_false (by omega)
            repeat' first | ((first | refine callP_false (.bool false) ?_ | refine aw_region rfl ?_ | refine aw_region_draw mixedF rfl (by kernel_rfl) ?_ | refine aE rfl ?_); simp only [go_sem, hli2, hw3, hli3, hw2']) | refine callG_y ?_ | refine callG_p ?_ | refine aw_seq ?_ | refine aw_block ?_ | refine aw_scope ?_ | (refine aw_cond rfl (fun h => ?_) (fun h => ?_) <;> try (exfalso; first | (simp at h; done) | (simp at h; omega))) | ((with_reducible refine And.intro ?_ ?_); focus (first | omega | (intros; simp_all; done) | (simp; omega)))
            exact ⟨(2 * s, Qs, T), ⟨by simp only; omega, by simp only; omega, k1, k2, by simp only; omega, g6⟩, by simp only; omega, rfl, rfl⟩
          | cons r1 Rs =>
            have f1 : (r1 :: Rs).flatten = r1 ++ Rs.flatten := rfl
            obtain ⟨q1, q2⟩ := k3 r1 (by simp)
            rw [f1, List.length_append] at kl
            cases Rs with
            | nil =>
              have e0 : ([] : List (List Opn)).flatten = [] := rfl
              rw [e0, List.length_nil] at kl
              have e1 : Qs.flatten ++ ([r1].flatten ++ T) = Qs.flatten ++ (r1 ++ T) := by simp
              have hli2 : decide (((Qs.flatten.length + 2 * s : Nat) : Int) ≤ (n : Int)) = false := decide_eq_false (by omega)
              by_cases hT : T.length = 0
              · have hli3 : decide (((Qs.flatten.length + s : Nat) : Int) < (n : Int)) = false := decide_eq_false (by omega)
                have hT0 := List.eq_nil_of_length_eq_zero hT
                repeat' first | ((first | refine callP_false (.bool false) ?_ | refine aw_region rfl ?_ | refine aw_region_draw mixedF rfl (by kernel_rfl) ?_ | refine aE rfl ?_); simp only [go_sem, hli2, hw3, hli3, hw2']) | refine callG_y ?_ | refine callG_p ?_ | refine aw_seq ?_ | refine aw_block ?_ | refine aw_scope ?_ | (refine aw_cond rfl (fun h => ?_) (fun h => ?_) <;> try (exfalso; first | (simp at h; done) | (simp at h; omega))) | ((with_reducible refine And.intro ?_ ?_); focus (first | omega | (intros; simp_all; done) | (simp; omega)))
                refine ⟨(2 * s, Qs, r1), ⟨by simp only; omega, by simp only; omega, ?_, k2, by simp only; omega, q2⟩, by simp only; omega, rfl, ?_⟩
                · simp only; rw [e1, hT0, List.append_nil] at k1; exact k1
                · rw [e1, hT0, List.append_nil]
              · have hli3 : decide (((Qs.flatten.length + s : Nat) : Int) < (n : Int)) = true := decide_eq_true (by omega)
                rw [e1] at k1 ⊢
                repeat' first | ((first | refine callP_false (.bool false) ?_ | refine aw_region rfl ?_ | refine aw_region_draw mixedF rfl (by kernel_rfl) ?_ | refine aE rfl ?_); simp only [go_sem, hli2, hw3, hli3, hw2']) | refine callG_y ?_ | refine callG_p ?_ | refine aw_seq ?_ | refine aw_block ?_ | refine aw_scope ?_ | (refine aw_cond rfl (fun h => ?_) (fun h => ?_) <;> try (exfalso; first | (simp at h; done) | (simp at h; omega))) | ((with_reducible refine And.intro ?_ ?_); focus (first | omega | (intros; simp_all; done) | (simp; omega)))
                refine callK_of (sym_c hw hc _ _ _ hf blk v lc n hl _ (X := Qs.flatten) (A := r1) (B := T) (Y := []) (a := (Qs.flatten.length : Int)) (m := ((Qs.flatten.length + s : Nat) : Int)) (b := (n : Int)) (Nat.le_refl _) (by rw [List.append_nil]) q2 g6 (by omega) (by omega) (by rw [hn]; exact k1.1.symm) rfl (by rw [q1]) (by omega) _ (hset1 _)) callOk94F ?_
                rintro r H' ⟨rfl, S', s1', s2', rfl⟩
                simp only [go_sem, hset2]
                repeat' first | ((first | refine callP_false (.bool false) ?_ | refine aw_region rfl ?_ | refine aw_region_draw mixedF rfl (by kernel_rfl) ?_ | refine aE rfl ?_); simp only [go_sem, hw2']) | refine callG_y ?_ | refine callG_p ?_ | refine aw_seq ?_ | refine aw_block ?_ | refine aw_scope ?_ | (refine aw_cond rfl (fun h => ?_) (fun h => ?_) <;> try (exfalso; first | (simp at h; done) | (simp at h; omega))) | ((with_reducible refine And.intro ?_ ?_); focus (first | omega | (intros; simp_all; done) | (simp; omega)))
                have := s1'.1
                rw [List.length_append] at this
                refine ⟨(2 * s, Qs, S'), ⟨by simp only; omega, by simp only; omega, ?_, k2, by simp only; omega, s2'⟩, by simp only; omega, rfl, by simp only [List.append_nil]⟩
                exact k1.trans ((Fs.refl (lt := lt) Qs.flatten).app s1')
            | cons r2 Rs =>
              have f2 : (r2 :: Rs).flatten = r2 ++ Rs.flatten := rfl
              obtain ⟨q3, q4⟩ := k3 r2 (by simp)
              rw [f2, List.length_append] at kl
              have e1 : Qs.flatten ++ ((r1 :: r2 :: Rs).flatten ++ T) = Qs.flatten ++ (r1 ++ (r2 ++ (Rs.flatten ++ T))) := by rw [f1, f2]; simp only [List.append_assoc]
              have hli2 : decide (((Qs.flatten.length + 2 * s : Nat) : Int) ≤ (n : Int)) = true := decide_eq_true (by omega)
              rw [e1] at k1 ⊢
              repeat' first | ((first | refine callP_false (.bool false) ?_ | refine aw_region rfl ?_ | refine aw_region_draw mixedF rfl (by kernel_rfl) ?_ | refine aE rfl ?_); simp only [go_sem, hli2, hw3, hw2, hw4]) | refine callG_y ?_ | refine callG_p ?_ | refine aw_seq ?_ | refine aw_block ?_ | refine aw_scope ?_ | (refine aw_cond rfl (fun h => ?_) (fun h => ?_) <;> try (exfalso; first | (simp at h; done) | (simp at h; omega))) | ((with_reducible refine And.intro ?_ ?_); focus (first | omega | (intros; simp_all; done) | (simp; omega)))
              refine callK_of (sym_c hw hc _ _ _ hf blk v lc n hl _ (X := Qs.flatten) (A := r1) (B := r2) (Y := Rs.flatten ++ T) (a := (Qs.flatten.length : Int)) (m := ((Qs.flatten.length + s : Nat) : Int)) (b := ((Qs.flatten.length + 2 * s : Nat) : Int)) (Nat.le_refl _) rfl q2 q4 (by omega) (by omega) (by rw [hn]; exact k1.1.symm) rfl (by rw [q1]) (by omega) _ (hset1 _)) callOk94F ?_
              rintro r H' ⟨rfl, S', s1', s2', rfl⟩
              simp only [go_sem, hset2]
              repeat' first | ((first | refine callP_false (.bool false) ?_ | refine aw_region rfl ?_ | refine aw_region_draw mixedF rfl (by kernel_rfl) ?_ | refine aE rfl ?_); simp only [go_sem, hw2, hw4]) | refine callG_y ?_ | refine callG_p ?_ | refine aw_seq ?_ | refine aw_block ?_ | refine aw_scope ?_ | (refine aw_cond rfl (fun h => ?_) (fun h => ?_) <;> try (exfalso; first | (simp at h; done) | (simp at h; omega))) | ((with_reducible refine And.intro ?_ ?_); focus (first | omega | (intros; simp_all; done) | (simp; omega)))
              have lS := s1'.1
              rw [List.length_append] at lS
              have e : (Qs ++ [S']).flatten = Qs.flatten ++ S' := by simp
              refine ⟨(Qs ++ [S'], Rs), ⟨?_, ?_, fun x hx => k3 x (by simp [hx])⟩, by simp only [List.length_cons]; omega, ?_, ?_⟩
              · simp only [e, List.append_assoc]
                have q := (Fs.refl (lt := lt) Qs.flatten).app (s1'.app (.refl (Rs.flatten ++ T)))
                simp only [List.append_assoc] at q
                exact k1.trans q
              · intro x hx
                rcases List.mem_append.1 hx with hx | hx
                · exact k2 x hx
                · rw [List.mem_singleton] at hx; subst hx; exact ⟨by omega, s2'⟩
              · simp only [e, List.length_append]
                have : S'.length = 2 * s := by omega
                rw [this]; exact ⟨rfl, congrArg _ (congrArg _ (by omega))⟩
              · simp only [e, List.append_assoc]
      · have hli : decide ((s : Int) < (n : Int)) = false := decide_eq_false (by omega)
        repeat' first | ((first | refine callP_false (.bool false) ?_ | refine aw_region rfl ?_ | refine aw_region_draw mixedF rfl (by kernel_rfl) ?_ | refine aE rfl ?_); simp only [go_sem, hli]) | refine callG_y ?_ | refine callG_p ?_ | refine aw_seq ?_ | refine aw_block ?_ | refine aw_scope ?_ | (refine aw_cond rfl (fun h => ?_) (fun h => ?_) <;> try (exfalso; first | (simp at h; done) | (simp at h; omega))) | ((with_reducible refine And.intro ?_ ?_); focus (first | omega | (intros; simp_all; done) | (simp; omega)))
        refine doneSet (clb_fl _ _ _) _ ⟨rfl, _, g3, ?_, rfl⟩
        cases Ps with
        | nil => exact g6
        | cons p Ps =>
          obtain ⟨q1, q2⟩ := g4 p (by simp)
          have f1 : (p :: Ps).flatten = p ++ Ps.flatten := rfl
          rw [f1, List.length_append] at hlen
          have e1 := List.eq_nil_of_length_eq_zero (show Ps.flatten.length = 0 by omega)
          have e2 := List.eq_nil_of_length_eq_zero (show T.length = 0 by omega)
          rw [f1, e1, e2, List.append_nil, List.append_nil]
          exact q2

theorem sortS_c {lt : Opn → Opn → Bool} {c : Opn → Opn → Int} (hw : SWO lt) (hc : ∀ x y, decide (c x y < 0) = lt x y) (fn : Fn) (fs cs : List AV) (hf : CmpC Tryz.prog (.func fn fs cs) c) (blk v lc n : Nat) (hl : n ≤ 1000000000) (D : List Opn) (hn : n = D.length) (H : AHeap)
    (hh : hget H blk = .cells v (fl D)) :
    ACalls Tryz.prog 47 [.osl 7 blk v 0 n lc, .func fn fs cs] H (fun r H' => r = .tup [] ∧ ∃ S, Fs lt D S ∧ Sd lt S ∧ H' = hset H blk (.cells v (fl S))) := by
  refine acalls_of Tryz.func47 rfl (Nat.le_of_ble_eq_true rfl) ?_
  repeat' first | ((first | refine callP_false (.bool false) ?_ | refine aw_region rfl ?_ | refine aw_region_draw mixedF rfl (by kernel_rfl) ?_ | refine aE rfl ?_); simp only [go_sem, hh]) | refine callG_y ?_ | refine callG_p ?_ | refine aw_seq ?_ | refine aw_block ?_ | refine aw_scope ?_ | (refine aw_cond rfl (fun h => ?_) (fun h => ?_) <;> try (exfalso; first | (simp at h; done) | (simp at h; omega))) | ((with_reducible refine And.intro ?_ ?_); focus (first | omega | (intros; simp_all; done) | (simp; omega)))
  refine callK_of (stable_c hw hc _ _ _ hf blk v lc n hl D hn H hh) callOk74F ?_
  rintro r H' ⟨rfl, S, s1, s2, rfl⟩
  simp only [go_sem]
  exact doneSet (clb_fl _ _ _) _ ⟨rfl, S, s1, s2, rfl⟩
end Go.Proofs.YtmknmapgfjmioaaGreatDoor
namespace Go.Proofs.YtmknmapgfjmioaaGreatDoor
open Go Go.Aw Go.Gw Go.Srt
set_option linter.unusedSimpArgs false
set_option maxRecDepth 20000
set_option maxHeartbeats 4000000

theorem compact_c (f : AV) {fn : Fn} {fs cs : List AV} (hfe : f = .func fn fs cs) (hf : TestC Tryz.prog f (fun a b => decide (a.at_ = b.at_))) (blk v lc n : Nat) (hlc : n ≤ lc) (hl : n ≤ 1000000000) (D : List Opn) (hn : n = D.length) (H : AHeap)
    (hh : hget H blk = .cells v (fl D)) :
    ACalls Tryz.prog 50 [.osl 7 blk v 0 n lc, f] H (fun r H' => r = .osl 7 blk v 0 (cpt D).length lc ∧ ∃ rest, H' = hset H blk (.cells v (fl (cpt D) ++ rest))) := by
  refine acalls_of Tryz.func50 rfl (Nat.le_of_ble_eq_true rfl) ?_
  have hset1 := fun b => hget_of hh trivial b
  have hset2 := hset_set H blk
  subst hfe
  have hbl : blk < H.length := hget_lt hh trivial
  have same : cpt D = D → ∃ H1 L y, H = H1 ++ L ∧ H1.length = H.length ∧ (∀ (i : Nat) (b : ABlk), H1[i]? = some b → H[i]? = some b ∨ ClB H.length b) ∧ Frz H.length H (.osl 7 blk v 0 n lc) y ∧ y = .osl 7 blk v 0 (cpt D).length lc ∧ ∃ rest, H1 = hset H blk (.cells v (fl (cpt D) ++ rest)) := by
    intro e
    refine ⟨H, [], _, (List.append_nil _).symm, rfl, fun _ _ h => .inl h, .cl _ (.osl _ _ _ _ _ _ hbl), by rw [e, hn], [], ?_⟩
    rw [e, List.append_nil]; exact (hset_id hh trivial).symm
  by_cases h2 : n < 2
  · have hli : decide ((n : Int) < 2) = true := decide_eq_true (by omega)
    repeat' first | ((first | refine callP_false (.bool false) ?_ | refine aw_region rfl ?_ | refine aw_region_draw mixedF rfl (by kernel_rfl) ?_ | refine aE rfl ?_); simp only [go_sem, hh, hli]) | refine callG_y ?_ | refine callG_p ?_ | refine aw_seq ?_ | refine aw_block ?_ | refine aw_scope ?_ | (refine aw_cond rfl (fun h => ?_) (fun h => ?_) <;> try (exfalso; first | (simp at h; done) | (simp at h; omega))) | ((with_reducible refine And.intro ?_ ?_); focus (first | omega | (intros; simp_all; done) | (simp; omega)))
    have e : cpt D = D := by
      match D, hn with
      | [], _ => rfl
      | [x], _ => rfl
      | _ :: _ :: _, hn => simp only [List.length_cons] at hn; omega
    exact same e
  · have hli : decide ((n : Int) < 2) = false := decide_eq_false (by omega)
    repeat' first | ((first | refine callP_false (.bool false) ?_ | refine aw_region rfl ?_ | refine aw_region_draw mixedF rfl (by kernel_rfl) ?_ | refine aE rfl ?_); simp only [go_sem, hh, hli]) | refine callG_y ?_ | refine callG_p ?_ | refine aw_seq ?_ | refine aw_block ?_ | refine aw_scope ?_ | (refine aw_cond rfl (fun h => ?_) (fun h => ?_) <;> try (exfalso; first | (simp at h; done) | (simp at h; omega))) | ((with_reducible refine And.intro ?_ ?_); focus (first | omega | (intros; simp_all; done) | (simp; omega)))
    refine aw_loopS (ι := Nat) (fun k => [(0, .osl 7 blk v 0 n lc), (1, .func fn fs cs), (5, .int .i64 k)]) (fun _ => H) (fun k => 1 ≤ k ∧ k ≤ n ∧ cpt (D.take k) = D.take k) (fun k => n - k) 1 ⟨Nat.le_refl _, by omega, ?_⟩ ?_ rfl ?_
    · match D, hn with
      | [], hn => rfl
      | x :: D, _ => rfl
    · simp [go_sem]
    · rintro k ⟨k1, k2, k3⟩
      by_cases hkn : k < n
      · obtain ⟨p, hp⟩ : ∃ p, p = k - 1 := ⟨_, rfl⟩
        have hw1 : IntKind.i64.wrap ((k : Int) - 1) = (p : Int) := wrap_nat (by omega) (by omega)
        have hw2 : IntKind.i64.wrap ((k : Int) + 1) = ((k + 1 : Nat) : Int) := wrap_nat (by omega) (by omega)
        have hli2 : decide ((k : Int) < (n : Int)) = true := decide_eq_true (by omega)
        have hkD : k < D.length := by omega
        have hpD : p < D.length := by omega
        have g1 := fl_at hkD
        have g2 := fl_at hpD
        have ct := cpt_take k1 hkD
        have hpe : D[k - 1]'(by omega) = D[p] := by congr 1; exact hp.symm
        rw [hpe] at ct
        have a1 : k * 7 + 7 ≤ (fl D).length := by rw [fl_len]; omega
        have a2 : p * 7 + 7 ≤ (fl D).length := by rw [fl_len]; omega
        have etk : D.take (k + 1) = D.take k ++ [D[k]] := List.take_succ_eq_append_getElem hkD
        generalize D[k] = x at *
        generalize D[p] = y at *
        repeat' first | ((first | refine callP_false (.bool false) ?_ | refine aw_region rfl ?_ | refine aw_region_draw mixedF rfl (by kernel_rfl) ?_ | refine aE rfl ?_); simp only [go_sem, hh, hli2, hw1, g1, g2]) | refine callG_y ?_ | refine callG_p ?_ | refine aw_seq ?_ | refine aw_block ?_ | refine aw_scope ?_ | (refine aw_cond rfl (fun h => ?_) (fun h => ?_) <;> try (exfalso; first | (simp at h; done) | (simp at h; omega))) | ((with_reducible refine And.intro ?_ ?_); focus (first | omega | (intros; simp_all; done) | (simp; omega)))
        (repeat' (with_reducible refine And.intro ?_ ?_)) <;> try (first | omega | rfl)
        refine callP_test hf ?_
        by_cases heq : x.at_ = y.at_
        · rw [if_pos heq, k3] at ct
          have hde : decide (x.at_ = y.at_) = true := decide_eq_true heq
          simp only [go_sem, hde]
          repeat' first | ((first | refine callP_false (.bool false) ?_ | refine aw_region rfl ?_ | refine aw_region_draw mixedF rfl (by kernel_rfl) ?_ | refine aE rfl ?_); simp only [go_sem, hde, hh]) | refine callG_y ?_ | refine callG_p ?_ | refine aw_seq ?_ | refine aw_block ?_ | refine aw_scope ?_ | (refine aw_cond rfl (fun h => ?_) (fun h => ?_) <;> try (exfalso; first | (simp at h; done) | (simp at h; omega))) | ((with_reducible refine And.intro ?_ ?_); focus (first | omega | (intros; simp_all; done) | (simp; omega)))
          (repeat' (with_reducible refine And.intro ?_ ?_)) <;> try (first | omega | rfl)
          repeat' first | ((first | refine callP_false (.bool false) ?_ | refine aw_region rfl ?_ | refine aw_region_draw mixedF rfl (by kernel_rfl) ?_ | refine aE rfl ?_); simp only [go_sem, hde, hh]) | refine callG_y ?_ | refine callG_p ?_ | refine aw_seq ?_ | refine aw_block ?_ | refine aw_scope ?_ | (refine aw_cond rfl (fun h => ?_) (fun h => ?_) <;> try (exfalso; first | (simp at h; done) | (simp at h; omega))) | ((with_reducible refine And.intro ?_ ?_); focus (first | omega | (intros; simp_all; done) | (simp; omega)))
          refine aw_loopS (ι := Nat × List Opn × List Opn) (fun s => [(0, .osl 7 blk v 0 n lc), (1, .func fn fs cs), (5, .int .i64 s.2.1.length), (6, .osl 7 blk v (k * 7) (n - k) (lc - k)), (7, .int .i64 s.1)])
            (fun s => hset H blk (.cells v (fl (s.2.1 ++ (s.2.2 ++ D.drop (k + s.1 - 1)))))) (fun s => 1 ≤ s.1 ∧ k + s.1 ≤ n ∧ s.2.1 = cpt (D.take (k + s.1)) ∧ s.2.1.length + s.2.2.length = k + s.1 - 1) (fun s => n - s.1) (1, D.take k, []) ⟨Nat.le_refl _, by simp only; omega, ct.symm, by simp only [List.length_take, List.length_nil]; omega⟩ ?_ ?_ ?_
          · simp [go_sem]; omega
          · simp only [List.nil_append, Nat.add_sub_cancel, List.take_append_drop]; exact (hset_id hh trivial).symm
          · rintro ⟨t, C, W⟩ ⟨t1, t2, t3, t4⟩
            simp only at t1 t2 t3 t4 ⊢
            obtain ⟨q, hq⟩ : ∃ q, q = t - 1 := ⟨_, rfl⟩
            have hw3 : IntKind.i64.wrap ((t : Int) - 1) = (q : Int) := wrap_nat (by omega) (by omega)
            have hw4 : IntKind.i64.wrap ((t : Int) + 1) = ((t + 1 : Nat) : Int) := wrap_nat (by omega) (by omega)
            by_cases htn : k + t < n
            · have hli3 : decide ((t : Int) < ((n - k : Nat) : Int)) = true := decide_eq_true (by omega)
              have e1 : D.drop (k + t - 1) = D[k + t - 1]'(by omega) :: D[k + t]'(by omega) :: D.drop (k + (t + 1)) := by
                rw [List.drop_eq_getElem_cons (by omega)]
                congr 1
                have : k + t - 1 + 1 = k + t := by omega
                rw [this, List.drop_eq_getElem_cons (by omega)]; rfl
              have e2 : D.drop (k + (t + 1) - 1) = D[k + t]'(by omega) :: D.drop (k + (t + 1)) := by
                have : k + (t + 1) - 1 = k + t := by omega
                rw [this, List.drop_eq_getElem_cons (by omega)]; rfl
              have cs2 := cpt_take (D := D) (j := k + t) (by omega) (by omega)
              rw [← t3] at cs2
              have hdl : (D.drop (k + (t + 1))).length = n - (k + (t + 1)) := by rw [List.length_drop, hn]
              generalize D[k + t - 1]'(by omega) = b at *
              generalize D[k + t]'(by omega) = a at *
              generalize D.drop (k + (t + 1)) = Z at *
              have e3 : C ++ (W ++ D.drop (k + t - 1)) = C ++ (W ++ b :: a :: Z) := by rw [e1]
              have lE : (C ++ (W ++ b :: a :: Z)).length = n := by simp only [List.length_append, List.length_cons]; omega
              have g3 := fl_get (A := C ++ W) (x := b) (R := a :: Z) (k := k + q) (by rw [List.length_append]; omega)
              have g4 := fl_get (A := C ++ W ++ [b]) (x := a) (R := Z) (k := k + t) (by simp only [List.length_append, List.length_singleton]; omega)
              simp only [List.append_assoc, List.cons_append, List.nil_append, Nat.add_mul] at g3 g4
              have a3 : k * 7 + q * 7 + 7 ≤ (fl (C ++ (W ++ b :: a :: Z))).length := by rw [fl_len, lE]; omega
              have a4 : k * 7 + t * 7 + 7 ≤ (fl (C ++ (W ++ b :: a :: Z))).length := by rw [fl_len, lE]; omega
              rw [e3]
              repeat' first | ((first | refine callP_false (.bool false) ?_ | refine aw_region rfl ?_ | refine aw_region_draw mixedF rfl (by kernel_rfl) ?_ | refine aE rfl ?_); simp only [go_sem, hset1, hset2, hli3, hw3, g3, g4]) | refine callG_y ?_ | refine callG_p ?_ | refine aw_seq ?_ | refine aw_block ?_ | refine aw_scope ?_ | (refine aw_cond rfl (fun h => ?_) (fun h => ?_) <;> try (exfalso; first | (simp at h; done) | (simp at h; omega))) | ((with_reducible refine And.intro ?_ ?_); focus (first | omega | (intros; simp_all; done) | (simp; omega)))
              (repeat' (with_reducible refine And.intro ?_ ?_)) <;> try (first | omega | rfl)
              refine callP_test hf ?_
              by_cases hab : a.at_ = b.at_
              · have hde2 : decide (a.at_ = b.at_) = true := decide_eq_true hab
                simp only [go_sem, hde2]
                rw [if_pos hab] at cs2
                repeat' first | ((first | refine callP_false (.bool false) ?_ | refine aw_region rfl ?_ | refine aw_region_draw mixedF rfl (by kernel_rfl) ?_ | refine aE rfl ?_); simp only [go_sem, hde2, hw4]) | refine callG_y ?_ | refine callG_p ?_ | refine aw_seq ?_ | refine aw_block ?_ | refine aw_scope ?_ | (refine aw_cond rfl (fun h => ?_) (fun h => ?_) <;> try (exfalso; first | (simp at h; done) | (simp at h; omega))) | ((with_reducible refine And.intro ?_ ?_); focus (first | omega | (intros; simp_all; done) | (simp; omega)))
                refine ⟨(t + 1, C, W ++ [b]), ⟨by simp only; omega, by simp only; omega, cs2.symm, by simp only [List.length_append, List.length_singleton]; omega⟩, by simp only; omega, ⟨rfl, rfl⟩, ?_⟩
                simp only [e2, List.append_assoc, List.cons_append, List.nil_append]
              · have hde2 : decide (a.at_ = b.at_) = false := decide_eq_false hab
                simp only [go_sem, hde2]
                rw [if_neg hab] at cs2
                obtain ⟨w0, W0, hW⟩ : ∃ w0 W0, W ++ [b] = w0 :: W0 := by
                  cases W with
                  | nil => exact ⟨b, [], rfl⟩
                  | cons w0 W0 => exact ⟨w0, W0 ++ [b], rfl⟩
                have e4 : C ++ (W ++ b :: a :: Z) = C ++ w0 :: (W0 ++ a :: Z) := by
                  have : W ++ b :: a :: Z = (W ++ [b]) ++ a :: Z := by simp
                  rw [this, hW]; rfl
                have lW : W.length = W0.length := by
                  have h0 : (W ++ [b]).length = (w0 :: W0).length := by rw [hW]
                  simpa using h0
                have s1 := fl_set (A := C) (x := w0) (y := a) (R := W0 ++ a :: Z) rfl
                rw [← e4] at s1
                have a5 : C.length * 7 + 7 ≤ (fl (C ++ (W ++ b :: a :: Z))).length := by rw [fl_len, lE]; omega
                have hw5 : IntKind.i64.wrap ((C.length : Int) + 1) = ((C.length + 1 : Nat) : Int) := wrap_nat (by omega) (by omega)
                repeat' first | ((first | refine callP_false (.bool false) ?_ | refine aw_region rfl ?_ | refine aw_region_draw mixedF rfl (by kernel_rfl) ?_ | refine aE rfl ?_); simp only [go_sem, hde2, hset1, hset2, g4, s1, hw4, hw5, opC_len, opC_one]) | refine callG_y ?_ | refine callG_p ?_ | refine aw_seq ?_ | refine aw_block ?_ | refine aw_scope ?_ | (refine aw_cond rfl (fun h => ?_) (fun h => ?_) <;> try (exfalso; first | (simp at h; done) | (simp at h; omega))) | ((with_reducible refine And.intro ?_ ?_); focus (first | omega | (intros; simp_all; done) | (simp; omega)))
                (repeat' (with_reducible refine And.intro ?_ ?_)) <;> try (first | omega | rfl)
                repeat' first | ((first | refine callP_false (.bool false) ?_ | refine aw_region rfl ?_ | refine aw_region_draw mixedF rfl (by kernel_rfl) ?_ | refine aE rfl ?_); simp only [go_sem, hw4, hw5]) | refine callG_y ?_ | refine callG_p ?_ | refine aw_seq ?_ | refine aw_block ?_ | refine aw_scope ?_ | (refine aw_cond rfl (fun h => ?_) (fun h => ?_) <;> try (exfalso; first | (simp at h; done) | (simp at h; omega))) | ((with_reducible refine And.intro ?_ ?_); focus (first | omega | (intros; simp_all; done) | (simp; omega)))
                refine ⟨(t + 1, C ++ [a], W0), ⟨by simp only; omega, by simp only; omega, cs2.symm, by simp only [List.length_append, List.length_singleton]; omega⟩, by simp only; omega, ⟨by simp only [List.length_append, List.length_singleton], rfl⟩, ?_⟩
                simp only [e2, List.append_assoc, List.cons_append, List.nil_append]
            · have hli3 : decide ((t : Int) < ((n - k : Nat) : Int)) = false := decide_eq_false (by omega)
              have lE : (C ++ (W ++ D.drop (k + t - 1))).length = n := by simp only [List.length_append, List.length_drop]; omega
              have hkt : k + t = n := by omega
              rw [hkt, List.take_of_length_le (by omega)] at t3
              repeat' first | ((first | refine callP_false (.bool false) ?_ | refine aw_region rfl ?_ | refine aw_region_draw mixedF rfl (by kernel_rfl) ?_ | refine aE rfl ?_); simp only [go_sem, hset1, hset2, hli3]) | refine callG_y ?_ | refine callG_p ?_ | refine aw_seq ?_ | refine aw_block ?_ | refine aw_scope ?_ | (refine aw_cond rfl (fun h => ?_) (fun h => ?_) <;> try (exfalso; first | (simp at h; done) | (simp at h; omega))) | ((with_reducible refine And.intro ?_ ?_); focus (first | omega | (intros; simp_all; done) | (simp; omega)))
              refine ⟨by rw [fl_len, lE]; omega, ?_⟩
              repeat' first | ((first | refine callP_false (.bool false) ?_ | refine aw_region rfl ?_ | refine aw_region_draw mixedF rfl (by kernel_rfl) ?_ | refine aE rfl ?_); simp only [go_sem, hset1, hset2, hli3]) | refine callG_y ?_ | refine callG_p ?_ | refine aw_seq ?_ | refine aw_block ?_ | refine aw_scope ?_ | (refine aw_cond rfl (fun h => ?_) (fun h => ?_) <;> try (exfalso; first | (simp at h; done) | (simp at h; omega))) | ((with_reducible refine And.intro ?_ ?_); focus (first | omega | (intros; simp_all; done) | (simp; omega)))
              rw [fl_app, splice_app (fl_len C)]
              refine ⟨_, [], .osl 7 blk v 0 C.length lc, (List.append_nil _).symm, hset_len _ _ _, hset_cl fun z hz => ?_, .cl _ (.osl _ _ _ _ _ _ hbl), by rw [t3], _, by rw [t3]⟩
              rw [List.mem_append, List.mem_append] at hz
              rcases hz with hz | hz | hz
              · exact (pur_fl C z hz).cl _
              · obtain ⟨e, he, hz⟩ := List.mem_flatMap.1 hz
                rw [(List.mem_replicate.1 he).2] at hz
                exact Pur.cl (Pur.cells (by simp only [go_sem]) z hz) _
              · exact (pur_fl _ z (List.mem_of_mem_drop hz)).cl _
        · rw [if_neg heq, k3, ← etk] at ct
          have hde : decide (x.at_ = y.at_) = false := decide_eq_false heq
          simp only [go_sem, hde]
          repeat' first | ((first | refine callP_false (.bool false) ?_ | refine aw_region rfl ?_ | refine aw_region_draw mixedF rfl (by kernel_rfl) ?_ | refine aE rfl ?_); simp only [go_sem, hde, hw2]) | refine callG_y ?_ | refine callG_p ?_ | refine aw_seq ?_ | refine aw_block ?_ | refine aw_scope ?_ | (refine aw_cond rfl (fun h => ?_) (fun h => ?_) <;> try (exfalso; first | (simp at h; done) | (simp at h; omega))) | ((with_reducible refine And.intro ?_ ?_); focus (first | omega | (intros; simp_all; done) | (simp; omega)))
          exact ⟨k + 1, ⟨by omega, by omega, ct⟩, by omega, rfl⟩
      · have hke : k = n := by omega
        have hli2 : decide ((k : Int) < (n : Int)) = false := decide_eq_false (by omega)
        repeat' first | ((first | refine callP_false (.bool false) ?_ | refine aw_region rfl ?_ | refine aw_region_draw mixedF rfl (by kernel_rfl) ?_ | refine aE rfl ?_); simp only [go_sem, hh, hli2]) | refine callG_y ?_ | refine callG_p ?_ | refine aw_seq ?_ | refine aw_block ?_ | refine aw_scope ?_ | (refine aw_cond rfl (fun h => ?_) (fun h => ?_) <;> try (exfalso; first | (simp at h; done) | (simp at h; omega))) | ((with_reducible refine And.intro ?_ ?_); focus (first | omega | (intros; simp_all; done) | (simp; omega)))
        rw [hke, List.take_of_length_le (by omega)] at k3
        exact same k3
end Go.Proofs.YtmknmapgfjmioaaGreatDoor
/- What the functions of the logs answer: All, Of, Ops. No condition. -/
namespace Go.Proofs.YtmknmapgfjmioaaGreatDoor
open Go Go.Aw Go.Gw
set_option linter.unusedSimpArgs false
set_option maxRecDepth 20000
set_option maxHeartbeats 1000000

theorem cells_op (l : List Opn) : ∀ e ∈ l.map opA, e.cells.length = 7 := fun e he => by
  obtain ⟨x, _, rfl⟩ := List.mem_map.1 he; rfl
end Go.Proofs.YtmknmapgfjmioaaGreatDoor
/- What operations make: the program's Fold. No condition but the length of what comes in. -/
namespace Go.Proofs.YtmknmapgfjmioaaGreatDoor
open Go Go.Aw Go.Gw Go.Srt
set_option linter.unusedSimpArgs false
set_option maxRecDepth 20000
set_option maxHeartbeats 4000000

theorem opless_o (a b : Opn) (H : AHeap) : FnC Tryz.prog 49 [opA a, opA b] H (.bool (oLess a b)) := opless_c a b H
def cmpO (a b : Opn) : Int := if oLess a b = true then -1 else if oLess b a = true then 1 else 0
theorem cmpO_lt (a b : Opn) : decide (cmpO a b < 0) = oLess a b := by
  unfold cmpO
  cases h1 : oLess a b with
  | true => rfl
  | false => cases h2 : oLess b a <;> rfl
theorem cmpO_c (a b : Opn) (H : AHeap) : FnC Tryz.prog 48 [opA a, opA b] H (.int .i64 (cmpO a b)) := by
  refine fnC_of Tryz.func48 rfl (Nat.le_of_ble_eq_true rfl) ?_
  have h1 := opless_o a b
  have h2 := opless_o b a
  simp only [opA] at h1 h2 ⊢
  cases e1 : oLess a b with
  | true =>
    rw [e1] at h1
    have e : cmpO a b = -1 := by rw [cmpO, if_pos e1]
    have ct0 := ct h1 callOk49F; repeat' first | ((first | refine cK (by assumption) ?_ | refine cP (by assumption) ?_ | refine cM (by assumption) ?_ | refine callP_false (.bool false) ?_ | refine aw_region rfl ?_ | refine aw_region_draw mixedF rfl (by kernel_rfl) ?_ | refine aE rfl ?_); simp only [go_sem]) | refine callG_y ?_ | refine callG_p ?_ | refine aw_seq ?_ | refine aw_block ?_ | refine aw_scope ?_ | (refine aw_cond rfl (fun h => ?_) (fun h => ?_) <;> try (exfalso; first | (simp at h; done) | (simp at h; omega))) | ((with_reducible refine And.intro ?_ ?_); focus (first | omega | (intros; simp_all; done) | (simp; omega)))
    rw [e]; exact done (by simp only [go_sem]) (.refl _)
  | false =>
    rw [e1] at h1
    cases e2 : oLess b a with
    | true =>
      rw [e2] at h2
      have e : cmpO a b = 1 := by rw [cmpO, if_neg (by rw [e1]; decide), if_pos e2]
      have ct0 := ct h1 callOk49F; have ct1 := ct h2 callOk49F; repeat' first | ((first | refine cK (by assumption) ?_ | refine cP (by assumption) ?_ | refine cM (by assumption) ?_ | refine callP_false (.bool false) ?_ | refine aw_region rfl ?_ | refine aw_region_draw mixedF rfl (by kernel_rfl) ?_ | refine aE rfl ?_); simp only [go_sem]) | refine callG_y ?_ | refine callG_p ?_ | refine aw_seq ?_ | refine aw_block ?_ | refine aw_scope ?_ | (refine aw_cond rfl (fun h => ?_) (fun h => ?_) <;> try (exfalso; first | (simp at h; done) | (simp at h; omega))) | ((with_reducible refine And.intro ?_ ?_); focus (first | omega | (intros; simp_all; done) | (simp; omega)))
      rw [e]; exact done (by simp only [go_sem]) (.refl _)
    | false =>
      rw [e2] at h2
      have e : cmpO a b = 0 := by rw [cmpO, if_neg (by rw [e1]; decide), if_neg (by rw [e2]; decide)]
      have ct0 := ct h1 callOk49F; have ct1 := ct h2 callOk49F; repeat' first | ((first | refine cK (by assumption) ?_ | refine cP (by assumption) ?_ | refine cM (by assumption) ?_ | refine callP_false (.bool false) ?_ | refine aw_region rfl ?_ | refine aw_region_draw mixedF rfl (by kernel_rfl) ?_ | refine aE rfl ?_); simp only [go_sem]) | refine callG_y ?_ | refine callG_p ?_ | refine aw_seq ?_ | refine aw_block ?_ | refine aw_scope ?_ | (refine aw_cond rfl (fun h => ?_) (fun h => ?_) <;> try (exfalso; first | (simp at h; done) | (simp at h; omega))) | ((with_reducible refine And.intro ?_ ?_); focus (first | omega | (intros; simp_all; done) | (simp; omega)))
      rw [e]; exact done (by simp only [go_sem]) (.refl _)
theorem eqO_c (a b : Opn) (H : AHeap) : FnC Tryz.prog 51 [opA a, opA b] H (.bool (decide (a.at_ = b.at_))) := by
  refine fnC_of Tryz.func51 rfl (Nat.le_of_ble_eq_true rfl) ?_
  simp only [opA, ← stm_eq]
  repeat' first | ((first | refine callP_false (.bool false) ?_ | refine aw_region rfl ?_ | refine aw_region_draw mixedF rfl (by kernel_rfl) ?_ | refine aE rfl ?_); simp only [go_sem]) | refine callG_y ?_ | refine callG_p ?_ | refine aw_seq ?_ | refine aw_block ?_ | refine aw_scope ?_ | (refine aw_cond rfl (fun h => ?_) (fun h => ?_) <;> try (exfalso; first | (simp at h; done) | (simp at h; omega))) | ((with_reducible refine And.intro ?_ ?_); focus (first | omega | (intros; simp_all; done) | (simp; omega)))
  exact done (by simp only [go_sem]) (.refl _)
theorem cmpO_C : CmpC Tryz.prog (.func (.func 48) [] []) cmpO := fun a b H => Or.inl ⟨callOk48F, cmpO_c a b H⟩
theorem eqO_C : TestC Tryz.prog (.func (.func 51) [] []) (fun a b => decide (a.at_ = b.at_)) := fun a b H => Or.inl ⟨callOk51F, eqO_c a b H⟩

theorem fold_c (b : Bool) (l : List Opn) (hs : ∀ o ∈ l, OpS o) (hn : l.length ≤ 1000000) (H : AHeap) : FnC Tryz.prog 24 [.sl b (l.map opA)] H (.sl false ((foldL l).map ndA)) := by
  refine fnC_of Tryz.func24 rfl (Nat.le_of_ble_eq_true rfl) ?_
  repeat' first | ((first | refine callP_false (.bool false) ?_ | refine aw_region rfl ?_ | refine aw_region_draw mixedF rfl (by kernel_rfl) ?_ | refine aE rfl ?_); simp only [go_sem]) | refine callG_y ?_ | refine callG_p ?_ | refine aw_seq ?_ | refine aw_block ?_ | refine aw_scope ?_ | (refine aw_cond rfl (fun h => ?_) (fun h => ?_) <;> try (exfalso; first | (simp at h; done) | (simp at h; omega))) | ((with_reducible refine And.intro ?_ ?_); focus (first | omega | (intros; simp_all; done) | (simp; omega)))
  refine aw_void 3 7 rfl ?_
  refine aw_cutB (ι := AHeap × Nat) (fun x => [(3, .osl 7 H.length x.2 0 (l.filter opOk).length (l.filter opOk).length)]) (fun x => x.1) (fun x => hget x.1 H.length = .cells x.2 (fl (l.filter opOk)) ∧ x.2 ≠ 0 ∧ ∃ M, x.1 = H ++ M) ?_ ?_
  · refine aw_loopS (ι := Nat × AHeap × Nat) (fun x => [(3, .osl 7 H.length x.2.2 0 ((l.take x.1).filter opOk).length ((l.take x.1).filter opOk).length), (9, .sl b (l.map opA)), (10, .int .i64 l.length), (11, .int .i64 x.1)])
      (fun x => x.2.1) (fun x => x.1 ≤ l.length ∧ hget x.2.1 H.length = .cells x.2.2 (fl ((l.take x.1).filter opOk)) ∧ x.2.2 ≠ 0 ∧ ∃ M, x.2.1 = H ++ M) (fun x => l.length - x.1) (0, H ++ [.cells 1 []], 1) ⟨Nat.zero_le _, by simp only [go_sem]; rfl, Nat.one_ne_zero, ⟨_, rfl⟩⟩ ?_ rfl ?_
    · simp [go_sem]
    · rintro ⟨i, X, ver⟩ ⟨hi, r1, rv, rP⟩
      simp only at hi r1 rv rP ⊢
      have hX1 : H.length < X.length := hget_lt r1 trivial
      have r1' := fun M => hget_appL r1 trivial M
      have qs := fun M b => hset_appL hX1 M b
      by_cases hlt : i < l.length
      · have hp := getD_map opA hlt
        have hli : decide ((i : Int) < (l.length : Int)) = true := decide_eq_true (by omega)
        have htk : l.take (i + 1) = l.take i ++ [l[i]] := List.take_succ_eq_append_getElem hlt
        have hck := opOk_c l[i] (hs _ (List.getElem_mem hlt))
        have hfl := List.length_filter_le opOk (l.take i)
        rw [List.length_take] at hfl
        have hf : (l.take (i + 1)).filter opOk = (l.take i).filter opOk ++ (if opOk l[i] = true then [l[i]] else []) := by
          rw [htk, List.filter_append]; cases h : opOk l[i] <;> simp [h]
        have hcl := fl_len ((l.take i).filter opOk)
        simp only [opA] at hck
        generalize l[i] = o at *
        generalize hF : (l.take i).filter opOk = F at *
        cases hok : opOk o with
        | false =>
          rw [hok] at hck
          rw [hok, if_neg (by decide), List.append_nil] at hf
          have ct0 := ct hck callOk46F; repeat' first | ((first | refine cK (by assumption) ?_ | refine cP (by assumption) ?_ | refine cM (by assumption) ?_ | refine callP_false (.bool false) ?_ | refine aw_region rfl ?_ | refine aw_region_draw mixedF rfl (by kernel_rfl) ?_ | refine aE rfl ?_); simp only [go_sem, hp, opA, hli]) | refine callG_y ?_ | refine callG_p ?_ | refine aw_seq ?_ | refine aw_block ?_ | refine aw_scope ?_ | (refine aw_cond rfl (fun h => ?_) (fun h => ?_) <;> try (exfalso; first | (simp at h; done) | (simp at h; omega))) | ((with_reducible refine And.intro ?_ ?_); focus (first | omega | (intros; simp_all; done) | (simp; omega)))
          exact ⟨(i + 1, _, ver), ⟨hlt, by simp only; rw [hf]; exact r1' _, rv, pre_app rP _⟩, by simp only; omega, ⟨by simp only [hf], congrArg _ (wrap_succ hlt (by omega))⟩, rfl⟩
        | true =>
          rw [hok] at hck
          rw [hok, if_pos rfl] at hf
          have ct0 := ct hck callOk46F; repeat' first | ((first | refine cK (by assumption) ?_ | refine cP (by assumption) ?_ | refine cM (by assumption) ?_ | refine callP_false (.bool false) ?_ | refine aw_region rfl ?_ | refine aw_region_draw mixedF rfl (by kernel_rfl) ?_ | refine aE rfl ?_); simp only [go_sem, hp, opA, hli, r1', qs, hcl]) | refine callG_y ?_ | refine callG_p ?_ | refine aw_seq ?_ | refine aw_block ?_ | refine aw_scope ?_ | (refine aw_cond rfl (fun h => ?_) (fun h => ?_) <;> try (exfalso; first | (simp at h; done) | (simp at h; omega))) | ((with_reducible refine And.intro ?_ ?_); focus (first | omega | (intros; simp_all; done) | (simp; omega)))
          refine ⟨⟨rv, fun e he => by rw [he]; rfl, by omega⟩, ?_⟩
          repeat' first | ((first | refine callP_false (.bool false) ?_ | refine aw_region rfl ?_ | refine aw_region_draw mixedF rfl (by kernel_rfl) ?_ | refine aE rfl ?_); simp only [go_sem]) | refine callG_y ?_ | refine callG_p ?_ | refine aw_seq ?_ | refine aw_block ?_ | refine aw_scope ?_ | (refine aw_cond rfl (fun h => ?_) (fun h => ?_) <;> try (exfalso; first | (simp at h; done) | (simp at h; omega))) | ((with_reducible refine And.intro ?_ ?_); focus (first | omega | (intros; simp_all; done) | (simp; omega)))
          refine ⟨(i + 1, _, ver + 1), ⟨hlt, ?_, Nat.succ_ne_zero _, pre_app (pre_set rP (Nat.le_refl _) _) _⟩, by simp only; omega, ⟨by simp only [hf, List.length_append, List.length_singleton], congrArg _ (wrap_succ hlt (by omega))⟩, rfl⟩
          simp only
          rw [hf, fl_app]
          exact hget_appL (b := .cells (ver + 1) (fl F ++ fl [o])) (hget_set_eq hX1 _) trivial _
      · have hie : i = l.length := by omega
        have hli : decide ((i : Int) < (l.length : Int)) = false := decide_eq_false (by omega)
        rw [hie, List.take_length] at r1 ⊢
        rw [hie] at hli
        repeat' first | ((first | refine callP_false (.bool false) ?_ | refine aw_region rfl ?_ | refine aw_region_draw mixedF rfl (by kernel_rfl) ?_ | refine aE rfl ?_); simp only [go_sem, hli]) | refine callG_y ?_ | refine callG_p ?_ | refine aw_seq ?_ | refine aw_block ?_ | refine aw_scope ?_ | (refine aw_cond rfl (fun h => ?_) (fun h => ?_) <;> try (exfalso; first | (simp at h; done) | (simp at h; omega))) | ((with_reducible refine And.intro ?_ ?_); focus (first | omega | (intros; simp_all; done) | (simp; omega)))
        exact ⟨(X, ver), ⟨r1, rv, rP⟩, rfl, rfl⟩
  · rintro ⟨X, ver⟩ ⟨r1, rv, rP⟩
    simp only at r1 rv rP ⊢
    have hfl := List.length_filter_le opOk l
    repeat' first | ((first | refine callP_false (.bool false) ?_ | refine aw_region rfl ?_ | refine aw_region_draw mixedF rfl (by kernel_rfl) ?_ | refine aE rfl ?_); simp only [go_sem]) | refine callG_y ?_ | refine callG_p ?_ | refine aw_seq ?_ | refine aw_block ?_ | refine aw_scope ?_ | (refine aw_cond rfl (fun h => ?_) (fun h => ?_) <;> try (exfalso; first | (simp at h; done) | (simp at h; omega))) | ((with_reducible refine And.intro ?_ ?_); focus (first | omega | (intros; simp_all; done) | (simp; omega)))
    refine callK_of (sortS_c oLess_swo cmpO_lt _ _ _ cmpO_C H.length ver _ _ (by omega) (l.filter opOk) rfl X r1) callOk47F ?_
    rintro r H' ⟨rfl, S, s1, s2, rfl⟩
    simp only [go_sem]
    repeat' first | ((first | refine callP_false (.bool false) ?_ | refine aw_region rfl ?_ | refine aw_region_draw mixedF rfl (by kernel_rfl) ?_ | refine aE rfl ?_); simp only [go_sem]) | refine callG_y ?_ | refine callG_p ?_ | refine aw_seq ?_ | refine aw_block ?_ | refine aw_scope ?_ | (refine aw_cond rfl (fun h => ?_) (fun h => ?_) <;> try (exfalso; first | (simp at h; done) | (simp at h; omega))) | ((with_reducible refine And.intro ?_ ?_); focus (first | omega | (intros; simp_all; done) | (simp; omega)))
    have sl := s1.1
    rw [← sl]
    refine callK_of (compact_c _ rfl eqO_C H.length ver _ _ (Nat.le_refl _) (by omega) S rfl _ (hget_of r1 trivial _)) callOk50F ?_
    rintro r H' ⟨rfl, rest, rfl⟩
    have hcr := cpt_rSort s1 s2
    have hcl := cpt_len S
    rw [hcr] at hcl
    simp only [go_sem, hcr]
    generalize hX : hset (hset X H.length (.cells ver (fl S))) H.length (.cells ver (fl (rSort l) ++ rest)) = Z
    have rZ : hget Z H.length = .cells ver (fl (rSort l) ++ rest) := by rw [← hX, hset_set]; exact hget_of r1 trivial _
    have hZP : ∃ M, Z = H ++ M := by rw [← hX]; exact pre_set (pre_set rP (Nat.le_refl _) _) (Nat.le_refl _) _
    refine aw_freezeR [3] ((rSort l).map opA) rest (v := ver) (lc := S.length) (i := H.length) (s := 7) (cs := fl (rSort l) ++ rest) (by intro t ht; simp only [List.mem_singleton] at ht; subst ht; rw [List.length_map]; first | rfl | simp only [go_sem]) rZ rv rfl (cells_op _) ?_
    have hops : ∀ o ∈ rSort l, OpS o := fun o ho => by
      have := ((rSort_mem l).2 o).1 ho
      exact hs o (List.mem_filter.1 (List.mem_of_find?_eq_some this)).1
    have hfold : foldL l = (rSort l).foldl doL [] := rfl
    rw [hfold]
    have hZP2 := pre_set hZP (Nat.le_refl _) .gone
    generalize hset Z H.length .gone = X2 at *
    generalize rSort l = R at *
    repeat' first | ((first | refine callP_false (.bool false) ?_ | refine aw_region rfl ?_ | refine aw_region_draw mixedF rfl (by kernel_rfl) ?_ | refine aE rfl ?_); simp only [go_sem]) | refine callG_y ?_ | refine callG_p ?_ | refine aw_seq ?_ | refine aw_block ?_ | refine aw_scope ?_ | (refine aw_cond rfl (fun h => ?_) (fun h => ?_) <;> try (exfalso; first | (simp at h; done) | (simp at h; omega))) | ((with_reducible refine And.intro ?_ ?_); focus (first | omega | (intros; simp_all; done) | (simp; omega)))
    refine aw_loopS (ι := Nat × AHeap × Bool) (fun x => [(6, .sl x.2.2 (((R.take x.1).foldl doL []).map ndA)), (26, .sl false (R.map opA)), (27, .int .i64 R.length), (28, .int .i64 x.1)])
      (fun x => x.2.1) (fun x => x.1 ≤ R.length ∧ ∃ M, x.2.1 = H ++ M) (fun x => R.length - x.1) (0, X2, true) ⟨Nat.zero_le _, hZP2⟩ ?_ rfl ?_
    · simp [go_sem]
    · rintro ⟨i, Y, f⟩ ⟨hi, hP⟩
      simp only at hi hP ⊢
      by_cases hlt : i < R.length
      · have hp := getD_map opA hlt
        have hli : decide ((i : Int) < (R.length : Int)) = true := decide_eq_true (by omega)
        have htk : R.take (i + 1) = R.take i ++ [R[i]] := List.take_succ_eq_append_getElem hlt
        have hfl2 := foldl_len (R.take i) []
        rw [List.length_take, List.length_nil] at hfl2
        have hdo := do_c f ((R.take i).foldl doL []) R[i] (hops _ (List.getElem_mem hlt)) (by omega)
        have hF : (R.take (i + 1)).foldl doL [] = doL ((R.take i).foldl doL []) R[i] := by rw [htk, List.foldl_append]; rfl
        generalize R[i] = o at *
        generalize (R.take i).foldl doL [] = nn at *
        simp only [opA, unA] at hdo
        have ct0 := ct hdo callOk52F; repeat' first | ((first | refine cK (by assumption) ?_ | refine cP (by assumption) ?_ | refine cM (by assumption) ?_ | refine callP_false (.bool false) ?_ | refine aw_region rfl ?_ | refine aw_region_draw mixedF rfl (by kernel_rfl) ?_ | refine aE rfl ?_); simp only [go_sem, hp, opA, hli]) | refine callG_y ?_ | refine callG_p ?_ | refine aw_seq ?_ | refine aw_block ?_ | refine aw_scope ?_ | (refine aw_cond rfl (fun h => ?_) (fun h => ?_) <;> try (exfalso; first | (simp at h; done) | (simp at h; omega))) | ((with_reducible refine And.intro ?_ ?_); focus (first | omega | (intros; simp_all; done) | (simp; omega)))
        exact ⟨(i + 1, _, false), ⟨hlt, pre_app hP _⟩, by simp only; omega, ⟨by simp only [hF], congrArg _ (wrap_succ hlt (by omega))⟩, rfl⟩
      · have hie : i = R.length := by omega
        subst hie
        have hli : decide ((R.length : Int) < (R.length : Int)) = false := by simp
        rw [List.take_length]
        repeat' first | ((first | refine callP_false (.bool false) ?_ | refine aw_region rfl ?_ | refine aw_region_draw mixedF rfl (by kernel_rfl) ?_ | refine aE rfl ?_); simp only [go_sem, hli]) | refine callG_y ?_ | refine callG_p ?_ | refine aw_seq ?_ | refine aw_block ?_ | refine aw_scope ?_ | (refine aw_cond rfl (fun h => ?_) (fun h => ?_) <;> try (exfalso; first | (simp at h; done) | (simp at h; omega))) | ((with_reducible refine And.intro ?_ ?_); focus (first | omega | (intros; simp_all; done) | (simp; omega)))
        obtain ⟨M, hM⟩ := hP
        subst hM
        exact done (by simp only [go_sem]) (.sl _ _)
end Go.Proofs.YtmknmapgfjmioaaGreatDoor
/- The Plan laws' opening: calls whose answers are fixed. No condition. -/
namespace Go.Gw
open Go Go.Aw Go.Proofs.YtmknmapgfjmioaaGreatDoor
def mv20 (c n p : Int) (s : Txt) : Opn := ⟨⟨c, 0⟩, 1, n, p, s, []⟩
def awP : List Nd := [⟨128, 0, [97], ⟨1, 0⟩, [], st0⟩, ⟨256, 128, [98], ⟨2, 0⟩, [], st0⟩]
def awC : Cal := ⟨1, [47, 97, 47, 102], [], [], 0⟩
def awM2 : Cal := ⟨5, [47, 97, 47, 98, 47, 120], [47, 97, 47, 121], [], 0⟩
def awU : List Trn := [⟨1, 0⟩, ⟨1, 128⟩, ⟨2, 0⟩, ⟨3, 0⟩, ⟨2, 128⟩, ⟨5, 0⟩, ⟨0, 0⟩]
def awT : Nat → Thr
  | 0 => th0 awC
  | k + 1 => afterT (awT k) (awU.getD k ⟨0, 0⟩)
theorem awP_eq : foldL [mv20 1 128 0 [97], mv20 2 256 128 [98]] = awP := by decide +kernel
theorem awN_eq20 : (∀ k, k < 7 → nextT awP (awT k) = awU.getD k ⟨0, 0⟩) := by decide +kernel
theorem awT_S : ∀ k, k < 7 → (awT k).call.path.length ≤ 1048576 ∧ (awT k).call.to.length ≤ 1048576 ∧ (awT k).has.length ≤ 1048576 ∧ (awT k).ans.names.length ≤ 1048576 ∧ (awT k).ans.events.length ≤ 1048576 := by decide +kernel
theorem awT_call : (awT 7).call = awC := by decide +kernel
theorem awT_end : (awT 7).ended = true := by decide +kernel
theorem awK_eq : turnsK awC = false := by decide +kernel
theorem awW_eq : walksK awC = true := by decide +kernel
theorem awS_eq : wnames awC = [[97]] := by decide +kernel
theorem awL_eq20 : locksT awP awM2 = [1, 128, 256] := by decide +kernel
theorem awK2_eq : turnsK awM2 = true := by decide +kernel
end Go.Gw
namespace Go.Proofs.YtmknmapgfjmioaaGreatDoor
open Go Go.Aw Go.Gw
set_option linter.unusedSimpArgs false
set_option linter.unusedVariables false
set_option maxRecDepth 20000
set_option maxHeartbeats 8000000

theorem mv20_c (a b c : Int) (s : Txt) (H : AHeap) : FnC Tryz.prog 27 [.int .i64 a, .int .i64 b, .int .i64 c, .str s] H (opA (mv20 a b c s)) := by
  refine fnC_of Tryz.func27 rfl (Nat.le_of_ble_eq_true rfl) ?_
  repeat' first | ((first | refine callP_false (.bool false) ?_ | refine aw_region rfl ?_ | refine aw_region_draw mixedF rfl (by kernel_rfl) ?_ | refine aE rfl ?_); simp only [go_sem]) | refine callG_y ?_ | refine callG_p ?_ | refine aw_seq ?_ | refine aw_block ?_ | refine aw_scope ?_ | (refine aw_cond rfl (fun h => ?_) (fun h => ?_) <;> try (exfalso; first | (simp at h; done) | (simp at h; omega))) | ((with_reducible refine And.intro ?_ ?_); focus (first | omega | (intros; simp_all; done) | (simp; omega)))
  exact done (by simp only [go_sem]) (.refl _)

/-- Two blocks that a loop keeps: one that stays, one that is written over. -/
structure LH (H X : AHeap) (A B : List AV) : Prop where
  pre : ∃ M, X = H ++ M
  a : hget X H.length = .cells 0 A
  b : hget X (H.length + 1) = .cells 0 B
theorem LH.next {H X : AHeap} {A B : List AV} (h : LH H X A B) (C : List AV) (L : AHeap) : LH H (hset X (H.length + 1) (.cells 0 C) ++ L) A C := by
  have hl : H.length + 1 < X.length := hget_lt h.b trivial
  obtain ⟨M, hM⟩ := h.pre
  refine ⟨?_, hget_appL ((hget_ne h.a (by omega) _)) trivial L, hget_appL (hget_eq hl (.cells 0 C)) trivial L⟩
  rw [hM, show H.length + 1 = H.length + 1 from rfl, hset_app, List.append_assoc]
  exact ⟨_, rfl⟩
theorem LH.app {H X : AHeap} {A B : List AV} (h : LH H X A B) (L : AHeap) : LH H (X ++ L) A B := by
  obtain ⟨M, hM⟩ := h.pre
  exact ⟨⟨M ++ L, by rw [hM, List.append_assoc]⟩, hget_appL h.a trivial L, hget_appL h.b trivial L⟩
/-- One block that a loop writes over. -/
structure LH1 (H X : AHeap) (B : List AV) : Prop where
  pre : ∃ M, X = H ++ M
  b : hget X H.length = .cells 0 B
theorem LH1.next {H X : AHeap} {B : List AV} (h : LH1 H X B) (C : List AV) (L : AHeap) : LH1 H (hset X H.length (.cells 0 C) ++ L) C := by
  have hl : H.length < X.length := hget_lt h.b trivial
  obtain ⟨M, hM⟩ := h.pre
  refine ⟨?_, hget_appL (hget_eq hl (.cells 0 C)) trivial L⟩
  rw [hM, hset_app0, List.append_assoc]
  exact ⟨_, rfl⟩
theorem doneL {H X M : AHeap} {n : Nat} {v x : AV} (h : ∃ L, X = H ++ L) (hp : Pur v) (hs : Sim v x) : ∃ L' y, X ++ M = H ++ L' ∧ Frz n (X ++ M) v y ∧ y = x := by
  obtain ⟨L, rfl⟩ := h
  exact ⟨L ++ M, x, by rw [List.append_assoc], hs.frz hp, rfl⟩
theorem awake20_c (H : AHeap) : FnC Tryz.prog 5 [] H (.bool true) := by
  refine fnC_of Tryz.func5 rfl (Nat.le_of_ble_eq_true rfl) ?_
  have hmv := mv20_c
  have hfold := fold_c true [mv20 1 128 0 [97], mv20 2 256 128 [98]] (fun o ho => by
    simp only [List.mem_cons, List.not_mem_nil, or_false] at ho
    rcases ho with rfl | rfl <;> exact ⟨by decide, by decide⟩) (by decide)
  rw [awP_eq] at hfold
  simp only [opA, mv20] at hmv
  simp only [mv20, List.map_cons, List.map_nil, opA] at hfold
  have ct0 := ct hfold callOk24F; repeat' first | ((first | refine cK (by assumption) ?_ | refine cP (by assumption) ?_ | refine cM (by assumption) ?_ | refine callK_fn (hmv _ _ _ _ _) callOk27F ?_ | refine callP_fn (hmv _ _ _ _ _) callOk27F ?_ | refine callM_fn (fun _ => hmv _ _ _ _ _) callOk27F ?_ | refine callP_false (.bool false) ?_ | refine aw_region rfl ?_ | refine aw_region_draw mixedF rfl (by kernel_rfl) ?_ | refine aE rfl ?_); simp only [go_sem]) | ((with_reducible refine And.intro ?_ ?_); focus (exact callAt_of (hmv _ _ _ _ _) callOk27F)) | ((with_reducible refine And.intro (And.intro ?_ ?_) ?_); focus (exact callAt_of (hmv _ _ _ _ _) callOk27F)) | (exact callAt_of (hmv _ _ _ _ _) callOk27F) | refine callG_y ?_ | refine callG_p ?_ | refine aw_seq ?_ | refine aw_block ?_ | refine aw_scope ?_ | (refine aw_cond rfl (fun h => ?_) (fun h => ?_) <;> try (exfalso; first | (simp at h; done) | (simp at h; omega))) | ((with_reducible refine And.intro ?_ ?_); focus (first | omega | (intros; simp_all; done) | (simp; omega)))
  refine aw_loopS (ι := Nat × Bool × AHeap) (fun x => [(1, .sl false (awP.map ndA)), (2, .ref H.length 0 0), (3, .sl true (awU.map trA)), (4, .int .i64 x.1)]) (fun x => x.2.2) (fun x => x.1 ≤ 7 ∧ LH1 H x.2.2 (thA x.2.1 x.2.1 x.2.1 (awT x.1)).cells) (fun x => 7 - x.1)
    (0, true, _) ⟨Nat.zero_le _, ⟨⟨_, rfl⟩, by simp only [go_sem]; rfl⟩⟩ ?_ rfl ?_
  · simp [go_sem, awU, trA]
  · rintro ⟨k, f, X⟩ ⟨hk, hX⟩
    simp only at hk hX ⊢
    obtain ⟨hpre, r1⟩ := id hX
    by_cases hlt : k < 7
    · obtain ⟨s1, s2, s3, s4, s5⟩ := awT_S k hlt
      have hnx := next_c false f f f awP (awT k) s1 s2 (by decide)
      rw [awN_eq20 k hlt] at hnx
      have haf := after_c f f f (awT k) (awU.getD k ⟨0, 0⟩) ⟨s1, s3, s4, s5⟩
      have hT : afterT (awT k) (awU.getD k ⟨0, 0⟩) = awT (k + 1) := rfl
      rw [hT] at haf
      have hg : (awU.map trA).getD k .top = trA (awU.getD k ⟨0, 0⟩) := by
        have e : k < awU.length := hlt
        rw [getD_map trA e, List.getD_eq_getElem?_getD, List.getElem?_eq_getElem e]; rfl
      have hli : ((k : Int) < ((awU.length : Nat) : Int)) = True := eq_true (by have : awU.length = 7 := rfl; omega)
      have hself : ∀ x : Int, decide (x = x) = true := fun x => decide_eq_true rfl
      have hw : IntKind.i64.wrap ((k : Int) + 1) = ((k + 1 : Nat) : Int) := by rw [wrap_i64 (by omega) (by omega)]; rfl
      have hnt := fun L => hX.next (thA false false false (awT (k + 1))).cells L
      obtain ⟨t', ht'⟩ : ∃ t', awT (k + 1) = t' := ⟨_, rfl⟩
      rw [ht'] at haf hnt
      generalize awT k = t at *
      generalize awU.getD k ⟨0, 0⟩ = u at *
      simp only [thA, thF, trA, AV.cells] at hnx haf r1
      have r2 := fun M => hget_appL r1 trivial M
      have r3 := fun M b => hset_appL (hget_lt r1 trivial) M b
      have ct0 := ct hnx callOk14F; have ct1 := ct haf callOk17F; repeat' first | ((first | refine cK (by assumption) ?_ | refine cP (by assumption) ?_ | refine cM (by assumption) ?_ | refine callP_false (.bool false) ?_ | refine aw_region rfl ?_ | refine aw_region_draw mixedF rfl (by kernel_rfl) ?_ | refine aE rfl ?_); simp only [go_sem, r1, r2, r3, hg, hli, hself, trA]) | refine callG_y ?_ | refine callG_p ?_ | refine aw_seq ?_ | refine aw_block ?_ | refine aw_scope ?_ | (refine aw_cond rfl (fun h => ?_) (fun h => ?_) <;> try (exfalso; first | (simp at h; done) | (simp at h; omega))) | ((with_reducible refine And.intro ?_ ?_); focus (first | omega | (intros; simp_all; done) | (simp; omega)))
      exact ⟨(k + 1, false, _), ⟨hlt, by simp only [ht']; exact hnt _⟩, by simp only; omega, congrArg _ hw, rfl⟩
    · have hk7 : k = 7 := by omega
      have hli : ((k : Int) < ((awU.length : Nat) : Int)) = False := eq_false (by have : awU.length = 7 := rfl; omega)
      subst hk7
      have hcall := awT_call
      have hend := awT_end
      generalize awT 7 = t at *
      have hnm := pnames_c awC (by decide)
      have hl1 := plocks_c false awP awM2 (by decide) (by decide) (by decide)
      have hl2 := plocks_c false awP awC (by decide) (by decide) (by decide)
      have hag := again_c true true true ⟨ca0, [1], 3, true, false, 0, 0, 0, 0, an0⟩ ⟨by decide, by decide, by decide, by decide⟩
      have hs1 := same1_c false true [[97]] [[97]]
      have hs2 := nums6_c false true [1, 128, 256] [1, 128, 256]
      rw [if_pos ⟨awK_eq, awW_eq⟩, awS_eq] at hnm
      rw [awK2_eq, if_pos rfl, awL_eq20] at hl1
      rw [awK_eq, if_neg (fun h => by cases h)] at hl2
      rw [decide_eq_true rfl] at hs1 hs2
      simp only [caA, awC, List.map_cons, List.map_nil] at hnm hl2
      simp only [caA, awM2, List.map_cons, List.map_nil, inA] at hl1
      simp only [thA, thF, againT, ca0, an0, List.map_cons, List.map_nil, inA] at hag
      simp only [List.map_cons, List.map_nil, inA] at hs1 hs2
      simp only [thA, thF, AV.cells, hcall, hend, awC] at r1
      have r2 := fun M => hget_appL r1 trivial M
      have ct0 := ct hnm callOk8F; have ct1 := ct hl1 callOk10F; have ct2 := ct hl2 callOk10F; have ct3 := ct hag callOk19F; have ct4 := ct hs1 callOk12F; have ct5 := ct hs2 callOk13F; repeat' first | ((first | refine cK (by assumption) ?_ | refine cP (by assumption) ?_ | refine cM (by assumption) ?_ | refine callP_false (.bool false) ?_ | refine aw_region rfl ?_ | refine aw_region_draw mixedF rfl (by kernel_rfl) ?_ | refine aE rfl ?_); simp only [go_sem, r1, r2, hli]) | refine callG_y ?_ | refine callG_p ?_ | refine aw_seq ?_ | refine aw_block ?_ | refine aw_scope ?_ | (refine aw_cond rfl (fun h => ?_) (fun h => ?_) <;> try (exfalso; first | (simp at h; done) | (simp at h; omega))) | ((with_reducible refine And.intro ?_ ?_); focus (first | omega | (intros; simp_all; done) | (simp; omega)))
      exact doneL hpre (by simp only [go_sem]) (.refl _)
end Go.Proofs.YtmknmapgfjmioaaGreatDoor
/- More of what is done and taken back, in plain Lean. No condition. -/
namespace Go.Gw
open Go Go.Aw Go.Proofs.YtmknmapgfjmioaaGreatDoor

theorem fewOpn_S {l : List Opn} {n : Int} (h : fewOpn l n = true) : (∀ o ∈ l, OpS o) ∧ (l.length : Int) ≤ n := by
  rw [fewOpn, Bool.and_eq_true] at h
  refine ⟨fun o ho => ?_, of_decide_eq_true h.2⟩
  have := List.all_eq_true.1 h.1 o ho
  simp [longOpn] at this
  exact ⟨by omega, by omega⟩
end Go.Gw
/- What is above what, in plain Lean: of the nodes that operations make none is above itself. No condition. -/
namespace Go.Gw
open Go Go.Aw Go.Proofs.YtmknmapgfjmioaaGreatDoor

theorem rSortLen (l : List Opn) : (rSort l).length ≤ l.length := by
  suffices h : ∀ (l acc : List Opn), (l.foldl rIns acc).length ≤ acc.length + l.length by have := h l []; simpa [rSort] using this
  intro l
  induction l with
  | nil => intro acc; exact Nat.le_refl _
  | cons o l ih =>
    intro acc
    have h1 := ih (rIns acc o)
    have h2 : (rIns acc o).length ≤ acc.length + 1 := by
      unfold rIns
      split
      · omega
      · rw [List.length_append, List.length_cons, List.length_take, List.length_drop]; omega
    rw [List.foldl_cons, List.length_cons]; omega
/-- What a number's node is in. -/
def par (l : List Nd) (id : Int) : Option Int := match fnd l id with | none => none | some n => if n.parent = -1 then none else some n.parent
theorem aboveN_succ (l : List Nd) (k : Nat) (id : Int) : aboveN l (k + 1) id = match par l id with | none => [] | some p => p :: aboveN l k p := by
  rw [aboveN, par]
  cases fnd l id with
  | none => rfl
  | some n => simp only; by_cases h : n.parent = -1 <;> simp [h]
/-- Nothing is above itself. -/
def Wfr (l : List Nd) : Prop := ∃ r : Int → Nat, ∀ x p, par l x = some p → r p < r x

theorem dir_pos {n : Int} (h : dirI n = true) : n ≠ -1 := by
  intro e; subst e; revert h; decide
/-- What holds of the nodes that operations make. -/
structure Frs (l : List Nd) : Prop where
  chk : chk l = true
  wf : Wfr l
  dir : ∀ n ∈ l, n.parent = -1 ∨ dirI n.parent = true
theorem fnd_mem {l : List Nd} (hs : chk l = true) {n : Nd} (hn : n ∈ l) : fnd l n.id = some n := by
  have hp := ((chk_iff l).1 hs).2
  cases h : fnd l n.id with
  | none =>
    have := List.find?_eq_none.1 h n hn
    simp at this
  | some m =>
    have h1 := List.mem_of_find?_eq_some h
    have h2 : m.id = n.id := by have := List.find?_some h; simpa using this
    obtain ⟨i, hi, rfl⟩ := List.getElem_of_mem h1
    obtain ⟨j, hj, rfl⟩ := List.getElem_of_mem hn
    rcases Nat.lt_trichotomy i j with q | q | q
    · have := List.pairwise_iff_getElem.1 hp i j hi hj q; omega
    · subst q; rfl
    · have := List.pairwise_iff_getElem.1 hp j i hj hi q; omega

end Go.Gw
/- What a call does that is alone, turn by turn, in plain Lean. No condition. -/
namespace Go.Gw
open Go Go.Aw Go.Proofs.YtmknmapgfjmioaaGreatDoor

theorem fold_len20 (l : List Opn) : (foldL l).length ≤ l.length := by
  have h1 := foldl_len (rSort l) []
  have h2 := rSortLen l
  unfold foldL
  simp only [List.length_nil] at h1
  omega
/-- So many turns, with so many that do, of a thread that is alone. -/
inductive Runs (G : Thr → Prop) (l : List Nd) : Thr → Nat → Nat → Thr → Prop
  | nil (t : Thr) : Runs G l t 0 0 t
  | cons {t t' : Thr} {n d : Nat} (h : G t) (r : Runs G l (afterT t (nextT l t)) n d t') : Runs G l t (n + 1) ((if (nextT l t).kind = 3 then 1 else 0) + d) t'
theorem Runs.trans {G : Thr → Prop} {l : List Nd} {a b c : Thr} {n d m e : Nat} (h : Runs G l a n d b) (k : Runs G l b m e c) : Runs G l a (n + m) (d + e) c := by
  induction h with
  | nil t => simpa using k
  | @cons t t' n d h r ih => have := Runs.cons h (ih k); rw [← Nat.add_assoc] at this; rw [show n + 1 + m = n + m + 1 by omega]; exact this
theorem Runs.mono {G K : Thr → Prop} (hg : ∀ t, G t → K t) {l : List Nd} {a b : Thr} {n d : Nat} (h : Runs G l a n d b) : Runs K l a n d b := by
  induction h with
  | nil t => exact .nil t
  | cons h r ih => exact .cons (hg _ h) ih
theorem Runs.one {G : Thr → Prop} {l : List Nd} {t t' : Thr} {u : Trn} (h : G t) (hu : nextT l t = u) (ht : afterT t u = t') : Runs G l t 1 (if u.kind = 3 then 1 else 0) t' := by
  subst hu; subst ht; exact .cons h (.nil _)

def goodA (l : List Nd) (t : Thr) : Prop := (nextT l t).kind ≠ 4 ∧ (nextT l t).kind ≠ 0 ∧ ((nextT l t).kind = 1 → t.has.contains (nextT l t).lock = false) ∧ ((nextT l t).kind = 2 → t.has.contains (nextT l t).lock = true)
def goodH (l : List Nd) (names : List Txt) (t : Thr) : Prop := t.done = false ∧
  ((nextT l t).kind = 3 → t.has.length = 1 ∧ ((findN l names).2 = 0 → dirI (findN l names).1 = true → t.has = [(findN l names).1])) ∧
  (afterT t (nextT l t)).has.length ≤ 2 ∧ ∀ a b, (afterT t (nextT l t)).has = [a, b] → ∃ n, findI l b = some n ∧ n.parent = a
def tw (c : Cal) (k : Int) (h : List Int) (d e : Bool) : Thr := { th0 c with at_ := k, has := h, done := d, ended := e }
theorem tw0 (c : Cal) : th0 c = tw c 0 [] false false := rfl
theorem goodA_of {l : List Nd} {t : Thr} {u : Trn} (h : nextT l t = u) (h1 : u.kind ≠ 4) (h2 : u.kind ≠ 0) (h3 : u.kind = 1 → t.has.contains u.lock = false) (h4 : u.kind = 2 → t.has.contains u.lock = true) : goodA l t := by
  subst h; exact ⟨h1, h2, h3, h4⟩
theorem goodH_of {l : List Nd} {names : List Txt} {t t' : Thr} {u : Trn} (h : nextT l t = u) (ht : afterT t u = t') (h0 : t.done = false)
    (h1 : u.kind = 3 → t.has.length = 1 ∧ ((findN l names).2 = 0 → dirI (findN l names).1 = true → t.has = [(findN l names).1])) (h2 : t'.has.length ≤ 2) (h3 : ∀ a b, t'.has = [a, b] → ∃ n, findI l b = some n ∧ n.parent = a) : goodH l names t := by
  subst h; subst ht; exact ⟨h0, h1, h2, h3⟩

/-! ### What is seen -/
theorem setN_mem {s : Txt} {n : Nd} {m : List (Txt × Nd)} {p : Txt × Nd} (h : p ∈ setN s n m) : p.2 = n ∨ p ∈ m := by
  induction m with
  | nil => simp [setN] at h; left; rw [h]
  | cons q m ih =>
    obtain ⟨k, x⟩ := q
    unfold setN at h
    split at h
    · rcases List.mem_cons.1 h with rfl | h
      · exact .inl rfl
      · exact .inr (List.mem_cons_of_mem _ h)
    · rcases List.mem_cons.1 h with rfl | h
      · exact .inr (by simp)
      · rcases ih h with h | h
        · exact .inl h
        · exact .inr (List.mem_cons_of_mem _ h)
theorem lookN_mem {s : Txt} {n : Nd} {m : List (Txt × Nd)} (h : lookN s m = some n) : ∃ p ∈ m, p.2 = n := by
  induction m with
  | nil => cases h
  | cons q m ih =>
    obtain ⟨k, x⟩ := q
    unfold lookN at h
    split at h
    · exact ⟨(k, x), by simp, by simpa using h⟩
    · obtain ⟨p, hp, e⟩ := ih h; exact ⟨p, List.mem_cons_of_mem _ hp, e⟩
theorem seenN_mem (l : List Nd) (dir : Int) : ∀ p ∈ seenN l dir, p.2 ∈ l ∧ inD dir p.2 = true := by
  suffices h : ∀ (k l : List Nd) (m : List (Txt × Nd)), (∀ p ∈ m, p.2 ∈ l ∧ inD dir p.2 = true) → (∀ n ∈ k, n ∈ l) → ∀ p ∈ k.foldl (seeN dir) m, p.2 ∈ l ∧ inD dir p.2 = true from h l l [] (fun p hp => by cases hp) (fun n hn => hn)
  intro k
  induction k with
  | nil => intro l m hm _; exact hm
  | cons x k ih =>
    intro l m hm hk
    refine ih l (seeN dir m x) (fun p hp => ?_) (fun n hn => hk n (List.mem_cons_of_mem _ hn))
    unfold seeN at hp
    split at hp
    · rename_i hx
      unfold putV at hp
      have hs : ∀ p ∈ setN x.name x m, p.2 ∈ l ∧ inD dir p.2 = true := fun p hp => by
        rcases setN_mem hp with e | h
        · rw [e]; exact ⟨hk x (by simp), hx⟩
        · exact hm p h
      split at hp
      · exact hs p hp
      · split at hp
        · exact hm p hp
        · exact hs p hp
    · exact hm p hp
theorem child_mem {l : List Nd} {dir : Int} {s : Txt} {n : Nd} (h : childN l dir s = some n) : chk l = true ∧ n ∈ l ∧ n.parent = dir := by
  unfold childN at h
  split at h
  · rename_i hc
    obtain ⟨p, hp, e⟩ := lookN_mem h
    obtain ⟨h1, h2⟩ := seenN_mem l dir p hp
    rw [e] at h1 h2
    unfold inD at h2
    rw [Bool.and_eq_true, decide_eq_true_eq] at h2
    exact ⟨hc, h1, h2.1⟩
  · cases h
theorem child_ne {l : List Nd} (hF : Frs l) {dir : Int} {s : Txt} {n : Nd} (hd : dirI dir = true) (h : childN l dir s = some n) : n.id ≠ dir ∧ findI l n.id = some n := by
  obtain ⟨hc, hm, hp⟩ := child_mem h
  have hf := fnd_mem hc hm
  refine ⟨fun e => ?_, by rw [findI, if_pos hc]; exact hf⟩
  obtain ⟨r, hr⟩ := hF.wf
  have hpar : par l n.id = some dir := by
    rw [par, hf]
    simp only [hp]
    rw [if_neg (dir_pos hd)]
  have := hr _ _ hpar
  rw [e] at this
  omega

/-! ### Giving back, and the end -/
theorem filt_tail {x : Int} {xs : List Int} (h : x ∉ xs) : (x :: xs).filter (fun k => !decide (k = x)) = xs := by
  rw [List.filter_cons_of_neg (by simp)]
  exact List.filter_eq_self.2 fun y hy => by simp; exact fun e => h (e ▸ hy)
theorem next_free (l : List Nd) (c : Cal) (k x : Int) (xs : List Int) : nextT l (tw c k (x :: xs) true false) = ⟨2, x⟩ := by
  simp [nextT, tw]
theorem after_free (c : Cal) (k x : Int) {xs : List Int} (h : x ∉ xs) : afterT (tw c k (x :: xs) true false) ⟨2, x⟩ = tw c k xs true false := by
  unfold afterT tw
  simp only [filt_tail h]
  simp
theorem run_free (l : List Nd) (c : Cal) (k : Int) (h : List Int) (hn : h.Nodup) : Runs (goodA l) l (tw c k h true false) h.length 0 (tw c k [] true false) := by
  induction h with
  | nil => exact .nil _
  | cons x xs ih =>
    have hx := (List.nodup_cons.1 hn)
    have h1 := next_free l c k x xs
    have := (Runs.one (G := goodA l) (goodA_of h1 (by simp) (by simp) (by simp) (fun _ => by simp [tw])) h1 (after_free c k x hx.1)).trans (ih hx.2)
    rw [List.length_cons, Nat.add_comm]
    simpa using this
theorem run_end (l : List Nd) (c : Cal) (k : Int) : ∃ n t', n ≤ 1 ∧ Runs (goodA l) l (tw c k [] true false) n 0 t' ∧ ((nextT l t').kind = 4 ∨ (nextT l t').kind = 0) ∧ t'.done = true ∧ t'.has = [] ∧ t'.ended = !decide (c.kind = 12) := by
  by_cases hk : c.kind = 12
  · refine ⟨0, _, by omega, .nil _, .inl ?_, rfl, rfl, by simp [tw, hk]⟩
    simp [nextT, tw, th0, hk]
  · have h1 : nextT l (tw c k [] true false) = ⟨5, 0⟩ := by simp [nextT, tw, th0, hk]
    refine ⟨1, tw c k [] true true, by omega, ?_, .inr ?_, rfl, rfl, by simp [tw, hk]⟩
    · have := Runs.one (G := goodA l) (t' := tw c k [] true true) (goodA_of h1 (by simp) (by simp) (by simp) (by simp)) h1 (by simp [afterT, tw])
      simpa using this
    · simp [nextT, tw]
theorem run_do {l : List Nd} {c : Cal} {k : Int} {h : List Int} (hn : h.Nodup) (h1 : nextT l (tw c k h false false) = ⟨3, 0⟩) : ∃ n t', n ≤ h.length + 2 ∧ Runs (goodA l) l (tw c k h false false) n 1 t' ∧ ((nextT l t').kind = 4 ∨ (nextT l t').kind = 0) ∧ t'.done = true ∧ t'.has = [] ∧ t'.ended = !decide (c.kind = 12) := by
  have r1 := Runs.one (G := goodA l) (t' := tw c k h true false) (goodA_of h1 (by simp) (by simp) (by simp) (by simp)) h1 (by simp [afterT, tw])
  have r2 := run_free l c k h hn
  obtain ⟨n, t', hn, r3, hE⟩ := run_end l c k
  refine ⟨1 + (h.length + n), t', by omega, ?_, hE⟩
  have := r1.trans (r2.trans r3)
  simpa using this

/-! ### Who turns the tree -/
theorem turnN_pre {has : List Int} (ps : List Int) (rest : List Int) (h : ∀ y ∈ ps, y ∈ has) : turnN has (ps ++ rest) = turnN has rest := by
  induction ps with
  | nil => rfl
  | cons p ps ih => rw [List.cons_append, turnN_skip (by simp; exact h p (by simp))]; exact ih fun y hy => h y (by simp [hy])
theorem turns_walks {c : Cal} (h : turnsK c = true) : walksK c = false := by
  unfold turnsK at h
  simp only [Bool.or_eq_true, decide_eq_true_eq] at h
  unfold walksK
  rcases h with (h | h) | h <;> rw [h] <;> rfl
theorem next_turn {l : List Nd} {c : Cal} (hc : turnsK c = true) (h : List Int) : nextT l (tw c 0 h false false) = turnN h (locksT l c) := by
  unfold nextT tw th0
  simp [hc]
theorem run_turn {l : List Nd} {c : Cal} (hc : turnsK c = true) (rest : List Int) : ∀ (ps : List Int), locksT l c = ps ++ rest → (ps ++ rest).Nodup → Runs (goodA l) l (tw c 0 ps false false) rest.length 0 (tw c 0 (ps ++ rest) false false) := by
  induction rest with
  | nil => intro ps _ _; rw [List.append_nil]; exact .nil _
  | cons x xs ih =>
    intro ps he hn
    have hx : x ∉ ps := fun hm => by
      have := (List.nodup_append.1 hn).2.2 x hm x (by simp)
      exact this rfl
    have hxc : ps.contains x = false := by simpa using hx
    have h1 : nextT l (tw c 0 ps false false) = ⟨1, x⟩ := by
      rw [next_turn hc, he, turnN_pre ps _ (fun y hy => hy), turnN_here hxc]
    have h2 : afterT (tw c 0 ps false false) ⟨1, x⟩ = tw c 0 (ps ++ [x]) false false := by
      unfold afterT tw th0
      simp [turns_walks hc]
    have h3 := ih (ps ++ [x]) (by rw [he]; simp) (by simpa using hn)
    have := (Runs.one (G := goodA l) (goodA_of h1 (by simp) (by simp) (fun _ => hxc) (by simp)) h1 h2).trans h3
    rw [List.length_cons, Nat.add_comm]
    simpa using this
theorem addD_nodup {ds : List Int} {o : Option Int} (h : ds.Nodup) : (addD ds o).Nodup := by
  unfold addD
  split
  · split
    · exact h
    · rename_i d hd
      rw [List.nodup_append]
      refine ⟨h, by simp, fun a ha b hb => ?_⟩
      simp at hb hd
      subst hb
      exact fun e => hd (e ▸ ha)
  · exact h
theorem addD_mem {ds : List Int} {o : Option Int} {x : Int} (h : x ∈ addD ds o) : x ∈ ds ∨ o = some x := by
  unfold addD at h
  split at h
  · split at h
    · exact .inl h
    · simp at h; rcases h with h | h
      · exact .inl h
      · exact .inr (by rw [h])
  · exact .inl h
theorem dirOf_dir {l : List Nd} {p : Txt} {d : Int} (h : dirOf l p = some d) : dirI d = true := by
  unfold dirOf at h
  split at h
  · split at h
    · rename_i q; cases h; exact q.2
    · cases h
  · cases h
theorem locksD_ok (l : List Nd) (c : Cal) : (locksD l c).Nodup ∧ ∀ x ∈ locksD l c, ∃ p ∈ pathsK c, dirOf l p = some x := by
  suffices h : ∀ (ps : List Txt) (ds : List Int), ds.Nodup → (∀ x ∈ ds, ∃ p ∈ pathsK c, dirOf l p = some x) → (∀ p ∈ ps, p ∈ pathsK c) → (ps.foldl (fun ds p => addD ds (dirOf l p)) ds).Nodup ∧ ∀ x ∈ ps.foldl (fun ds p => addD ds (dirOf l p)) ds, ∃ p ∈ pathsK c, dirOf l p = some x from
    h (pathsK c) [] List.nodup_nil (fun x hx => by cases hx) (fun p hp => hp)
  intro ps
  induction ps with
  | nil => intro ds h1 h2 _; exact ⟨h1, h2⟩
  | cons p ps ih =>
    intro ds h1 h2 h3
    refine ih _ (addD_nodup h1) (fun x hx => ?_) (fun q hq => h3 q (by simp [hq]))
    rcases addD_mem hx with hx | hx
    · exact h2 x hx
    · exact ⟨p, h3 p (by simp), hx⟩
theorem locksO_perm (l : List Nd) (ds : List Int) : (locksO l ds).Perm ds := by
  unfold locksO
  split
  · split
    · exact .swap _ _ _
    · exact .refl _
  · exact .refl _
theorem locksT_nodup (l : List Nd) (c : Cal) : (locksT l c).Nodup := by
  obtain ⟨h1, h2⟩ := locksD_ok l c
  rw [locksT, List.nodup_cons]
  refine ⟨fun h => ?_, (locksO_perm l _).nodup_iff.2 h1⟩
  obtain ⟨p, _, hp⟩ := h2 1 ((locksO_perm l _).mem_iff.1 h)
  have := dirOf_dir hp
  revert this; decide

/-! ### Who walks -/
theorem next_walk {l : List Nd} {c : Cal} (hc : turnsK c = false) (hw : walksK c = true) (k : Int) (h : List Int) : nextT l (tw c k h false false) = walkN l (wnames c) (tw c k h false false) := by
  unfold nextT
  rw [if_neg (by simp [tw]), if_neg (by simp [tw]), if_neg (by simp [tw, th0, hc]), if_pos (by simp [tw, th0, hw])]
  rfl
def goodW (l : List Nd) (names : List Txt) (t : Thr) : Prop := goodA l t ∧ goodH l names t
theorem goodW_of {l : List Nd} {names : List Txt} {t t' : Thr} {u : Trn} (h : nextT l t = u) (ht : afterT t u = t') (h0 : t.done = false) (h1 : u.kind = 1 ∨ u.kind = 2)
    (h3 : u.kind = 1 → t.has.contains u.lock = false) (h4 : u.kind = 2 → t.has.contains u.lock = true) (h2 : t'.has.length ≤ 2) (h5 : ∀ a b, t'.has = [a, b] → ∃ n, findI l b = some n ∧ n.parent = a) : goodW l names t :=
  ⟨goodA_of h (by omega) (by omega) h3 h4, goodH_of h ht h0 (fun e => by omega) h2 h5⟩
/-- It comes to a directory, and there does what it is to do. -/
theorem run_walk {l : List Nd} {names : List Txt} (hF : Frs l) {c : Cal} (hc : turnsK c = false) (hw : walksK c = true) (m : Nat) : ∀ (k : Nat) (here : Int), wnames c = names → m = names.length - k → k ≤ names.length → names.length ≤ 16 → dirI here = true → findN l names = pathN l here (names.drop k) →
    ∃ n k' d, n ≤ 2 * m ∧ Runs (goodW l names) l (tw c (k : Int) [here] false false) n 0 (tw c k' [d] false false) ∧ nextT l (tw c k' [d] false false) = ⟨3, 0⟩ ∧ ((findN l names).2 = 0 → dirI (findN l names).1 = true → d = (findN l names).1) := by
  induction m with
  | zero =>
    intro k here hnm hm hk hn hd hf
    have hkl : k = names.length := by omega
    subst hkl
    rw [List.drop_length] at hf
    have hf' : findN l names = (here, 0) := hf
    refine ⟨0, _, here, by omega, .nil _, ?_, fun _ _ => by rw [hf']⟩
    rw [next_walk hc hw, hnm]
    simp [walkN, tw, hf']
  | succ m ih =>
    intro k here hnm hm hk hn hd hf
    have hlt : k < names.length := by omega
    rw [List.drop_eq_getElem_cons hlt] at hf
    have hf1 : findN l names = (match childN l here names[k] with | some n => pathN l n.id (names.drop (k + 1)) | none => (0, 80)) := by rw [hf, pathN, if_pos hd]; rfl
    have hwn : ∀ (r : Trn), (match childN l here names[k] with
        | some n => if dirI n.id = true then (⟨1, n.id⟩ : Trn) else if (findN l names).2 = 0 ∧ dirI (findN l names).1 = true ∧ (findN l names).1 ≠ here then ⟨2, here⟩ else ⟨3, 0⟩
        | none => if (findN l names).2 = 0 ∧ dirI (findN l names).1 = true ∧ (findN l names).1 ≠ here then ⟨2, here⟩ else ⟨3, 0⟩) = r → nextT l (tw c (k : Int) [here] false false) = r := by
      intro r hr
      have e : (if (0 : Int) ≤ (k : Int) then names[(k : Int).toNat]? else none).bind (childN l here) = childN l here names[k] := by rw [if_pos (by omega), Int.toNat_natCast, List.getElem?_eq_getElem hlt]; rfl
      rw [next_walk hc hw, hnm, ← hr, ← e]
      rfl
    cases hch : childN l here names[k] with
    | none =>
      rw [hch] at hf1 hwn
      refine ⟨0, _, here, by omega, .nil _, ?_, fun h => by rw [hf1] at h; cases h⟩
      refine hwn _ ?_
      simp only [hf1]
      rw [if_neg (by rintro ⟨h, _⟩; cases h)]
    | some n =>
      rw [hch] at hf1 hwn
      simp only at hf1
      obtain ⟨hne, hfi⟩ := child_ne hF hd hch
      have hpar := (child_mem hch).2.2
      cases hdn : dirI n.id with
      | true =>
        obtain ⟨n', k', d, hn', hr, h3, h4⟩ := ih (k + 1) n.id hnm (by omega) (by omega) hn hdn hf1
        refine ⟨1 + (1 + n'), k', d, by omega, ?_, h3, h4⟩
        have e1 : nextT l (tw c (k : Int) [here] false false) = ⟨1, n.id⟩ := hwn _ (by simp only [hdn]; rfl)
        have e2 : afterT (tw c (k : Int) [here] false false) ⟨1, n.id⟩ = tw c ((k + 1 : Nat) : Int) [here, n.id] false false := by
          unfold afterT tw th0
          simp only [if_true, List.length_cons, List.length_nil]
          rw [if_pos ⟨trivial, hw⟩, wrap_i64 (by omega) (by omega)]
          rfl
        have e3 : nextT l (tw c ((k + 1 : Nat) : Int) [here, n.id] false false) = ⟨2, here⟩ := by
          rw [next_walk hc hw]; rfl
        have e4 : afterT (tw c ((k + 1 : Nat) : Int) [here, n.id] false false) ⟨2, here⟩ = tw c ((k + 1 : Nat) : Int) [n.id] false false := by
          unfold afterT tw th0
          simp only [filt_tail (show here ∉ [n.id] by simp; exact fun e => hne e.symm)]
          simp
        have r1 := Runs.one (G := goodW l names) (goodW_of e1 e2 rfl (.inl rfl) (fun _ => by simp [tw]; exact fun e => hne e) (fun h => by cases h) (by simp [tw]) (fun a b h => by
          simp [tw] at h; obtain ⟨rfl, rfl⟩ := h; exact ⟨n, hfi, hpar⟩)) e1 e2
        have r2 := Runs.one (G := goodW l names) (goodW_of e3 e4 rfl (.inr rfl) (fun h => by cases h) (fun _ => by simp [tw]) (by simp [tw]) (fun a b h => by
          simp [tw] at h)) e3 e4
        have := r1.trans (r2.trans hr)
        simpa using this
      | false =>
        refine ⟨0, _, here, by omega, .nil _, ?_, fun h1 h2 => ?_⟩
        · refine hwn _ ?_
          simp only [hdn]
          rw [if_neg (by simp), if_neg ?_]
          rw [hf1]
          rintro ⟨h1, h2, -⟩
          cases hdr : names.drop (k + 1) with
          | nil => rw [hdr] at h2; simp only [pathN] at h2; rw [hdn] at h2; cases h2
          | cons s r => rw [hdr, pathN, if_neg (by rw [hdn]; simp)] at h1; cases h1
        · rw [hf1] at h1 h2
          cases hdr : names.drop (k + 1) with
          | nil => rw [hdr] at h2; simp only [pathN] at h2; rw [hdn] at h2; cases h2
          | cons s r => rw [hdr, pathN, if_neg (by rw [hdn]; simp)] at h1; cases h1
theorem run_walks {l : List Nd} (hF : Frs l) {c : Cal} (hc : turnsK c = false) (hw : walksK c = true) :
    ∃ n k' d, n ≤ 33 ∧ Runs (goodW l (wnames c)) l (th0 c) n 0 (tw c k' [d] false false) ∧ nextT l (tw c k' [d] false false) = ⟨3, 0⟩ ∧ ((findN l (wnames c)).2 = 0 → dirI (findN l (wnames c)).1 = true → d = (findN l (wnames c)).1) := by
  have h16 := wnames_len c
  obtain ⟨n, k', d, hn, hr, h3, h4⟩ := run_walk hF hc hw _ 0 0 rfl rfl (Nat.zero_le _) h16 (by decide) rfl
  have e1 : nextT l (tw c 0 [] false false) = ⟨1, 0⟩ := by rw [next_walk hc hw]; rfl
  have e2 : afterT (tw c 0 [] false false) ⟨1, 0⟩ = tw c ((0 : Nat) : Int) [0] false false := by
    unfold afterT tw th0
    simp
  have r1 := Runs.one (G := goodW l (wnames c)) (goodW_of e1 e2 rfl (.inl rfl) (fun _ => by simp [tw]) (fun h => by cases h) (by simp [tw]) (fun a b h => by simp [tw] at h)) e1 e2
  refine ⟨1 + n, k', d, by omega, ?_, h3, h4⟩
  have := r1.trans hr
  rw [tw0]
  simpa using this

theorem alone {l : List Nd} (hF : Frs l) (c : Cal) : ∃ n t', n ≤ 45 ∧ Runs (goodA l) l (th0 c) n 1 t' ∧ ((nextT l t').kind = 4 ∨ (nextT l t').kind = 0) ∧ t'.done = true ∧ t'.has = [] ∧ t'.ended = !decide (c.kind = 12) := by
  cases hc : turnsK c with
  | true =>
    have hnd := locksT_nodup l c
    have hle := locksT_len l c
    have r1 := run_turn hc (locksT l c) [] rfl (by simpa using hnd)
    rw [List.nil_append] at r1
    have h3 : nextT l (tw c 0 (locksT l c) false false) = ⟨3, 0⟩ := by
      rw [next_turn hc]
      have := turnN_pre (has := locksT l c) (locksT l c) [] (fun y hy => hy)
      rw [List.append_nil] at this
      rw [this]; rfl
    obtain ⟨n, t', hn, r2, h⟩ := run_do hnd h3
    refine ⟨(locksT l c).length + n, t', by omega, ?_, h⟩
    rw [tw0]
    have := r1.trans r2
    simpa using this
  | false =>
    cases hw : walksK c with
    | true =>
      obtain ⟨n, k', d, hn, hr, h3, -⟩ := run_walks hF hc hw
      obtain ⟨m, t', hm, r2, h⟩ := run_do (by simp) h3
      refine ⟨n + m, t', by simp at hm; omega, ?_, h⟩
      have := (hr.mono fun t h => h.1).trans r2
      simpa using this
    | false =>
      have h3 : nextT l (tw c 0 [] false false) = ⟨3, 0⟩ := by
        unfold nextT tw th0
        simp [hc, hw]
      obtain ⟨n, t', hn, r2, h⟩ := run_do (by simp) h3
      exact ⟨n, t', by simp at hn; omega, r2, h⟩
end Go.Gw
/- Directories that are found at paths lie beneath the root, in plain Lean: none of two is above the other one, and beneath it. No condition. -/
namespace Go.Gw
open Go Go.Aw Go.Proofs.YtmknmapgfjmioaaGreatDoor
/-- So many steps up to the root. -/
inductive Dep (l : List Nd) : Nat → Int → Prop
  | root : Dep l 0 0
  | step {k : Nat} {x p : Int} (h : par l x = some p) (d : Dep l k p) : Dep l (k + 1) x
theorem par_root {l : List Nd} (hc : chk l = true) : par l 0 = none := by
  have : fnd l 0 = none := by
    unfold fnd
    rw [List.find?_eq_none]
    intro n hn h
    have h0 : n.id = 0 := by simpa using h
    have := ((chk_iff l).1 hc).1 n hn
    rw [h0] at this
    revert this; decide
  rw [par, this]
theorem Dep.up {l : List Nd} (hc : chk l = true) {k : Nat} {x p : Int} (h : Dep l k x) (hp : par l x = some p) : ∃ j, k = j + 1 ∧ Dep l j p := by
  cases h with
  | root => rw [par_root hc] at hp; cases hp
  | step h d => rw [h] at hp; cases hp; exact ⟨_, rfl, d⟩
theorem Dep.uniq {l : List Nd} (hc : chk l = true) {k : Nat} {x : Int} (h : Dep l k x) : ∀ {j : Nat}, Dep l j x → k = j := by
  induction h with
  | root =>
    intro j hj
    cases hj with
    | root => rfl
    | step h d => rw [par_root hc] at h; cases h
  | step h d ih =>
    intro j hj
    obtain ⟨i, rfl, hi⟩ := hj.up hc h
    rw [ih hi]
theorem dep_above {l : List Nd} (hc : chk l = true) (n : Nat) : ∀ {k : Nat} {x y : Int}, Dep l k x → y ∈ aboveN l n x → ∃ j, j < k ∧ Dep l j y := by
  induction n with
  | zero => intro k x y _ h; cases h
  | succ n ih =>
    intro k x y hd h
    rw [aboveN_succ] at h
    cases hp : par l x with
    | none => rw [hp] at h; cases h
    | some p =>
      rw [hp] at h
      obtain ⟨j, rfl, hj⟩ := hd.up hc hp
      rcases List.mem_cons.1 h with rfl | h
      · exact ⟨j, by omega, hj⟩
      · obtain ⟨i, hi, hy⟩ := ih hj h
        exact ⟨i, by omega, hy⟩
theorem dep_path {l : List Nd} (hc : chk l = true) (names : List Txt) : ∀ {k : Nat} {x d : Int}, Dep l k x → pathN l x names = (d, 0) → ∃ j, Dep l j d := by
  induction names with
  | nil => intro k x d hx h; cases h; exact ⟨k, hx⟩
  | cons s names ih =>
    intro k x d hx h
    rw [pathN] at h
    split at h
    · rename_i hd
      cases hch : childN l x s with
      | none => rw [hch] at h; cases h
      | some n =>
        rw [hch] at h
        obtain ⟨-, hm, hp⟩ := child_mem hch
        refine ih (.step (p := x) ?_ hx) h
        rw [par, fnd_mem hc hm]
        simp only [hp]
        rw [if_neg (dir_pos hd)]
    · cases h
theorem dep_dir {l : List Nd} (hc : chk l = true) {p : Txt} {d : Int} (h : dirOf l p = some d) : ∃ k, Dep l k d := by
  unfold dirOf at h
  split at h
  · rename_i x xs _
    split at h
    · rename_i q
      cases h
      refine dep_path hc (x :: xs).dropLast .root ?_
      have : findN l (x :: xs).dropLast = ((findN l (x :: xs).dropLast).1, (findN l (x :: xs).dropLast).2) := rfl
      rw [q.1] at this
      exact this
    · cases h
  · cases h
theorem above_one {l : List Nd} {p q : Txt} {a b : Int} (ha : dirOf l p = some a) (hb : dirOf l q = some b) (h : aboveB l a b = true) : aboveB l b a = false := by
  cases hc : chk l with
  | false => rw [aboveB, aboveC, if_neg (by rw [hc]; simp)]; rfl
  | true =>
    obtain ⟨ka, da⟩ := dep_dir hc ha
    obtain ⟨kb, db⟩ := dep_dir hc hb
    cases h2 : aboveB l b a with
    | false => rfl
    | true =>
      rw [aboveB, aboveC, if_pos hc] at h h2
      obtain ⟨i, hi, di⟩ := dep_above hc _ db (by simpa [aboveI] using h)
      obtain ⟨j, hj, dj⟩ := dep_above hc _ da (by simpa [aboveI] using h2)
      have e1 := da.uniq hc di
      have e2 := db.uniq hc dj
      omega
theorem dir_nn {d : Int} (h : dirI d = true) : 0 ≤ d := by
  unfold dirI ofOk at h
  simp only [Bool.or_eq_true, Bool.and_eq_true, decide_eq_true_eq] at h
  omega
/-- The locks of a call that turns the tree. -/
theorem locks_law {l : List Nd} {c : Cal} (ht : turnsK c = true) : ∃ ds, locksT l c = 1 :: ds ∧ ds.length ≤ 2 ∧ (∀ x ∈ ds, 0 ≤ x ∧ (x = (dirOf l c.path).getD (-1) ∨ x = (dirOf l c.to).getD (-1))) ∧
    (∀ x y, ds = [x, y] → aboveB l y x = false ∧ x ≠ y) ∧ ((dirOf l c.path).getD (-1) < 0 ∨ c.kind = 13 ∨ (dirOf l c.path).getD (-1) ∈ ds) := by
  refine ⟨_, rfl, ?_⟩
  have hlen := locksT_len l c
  rw [locksT, List.length_cons] at hlen
  refine ⟨by omega, ?_⟩
  have hk : c.kind = 5 ∨ c.kind = 6 ∨ c.kind = 13 := by
    unfold turnsK at ht
    simpa [or_assoc] using ht
  have hp : ∀ {p : Txt} {d : Int}, dirOf l p = some d → 0 ≤ d := fun h => dir_nn (dirOf_dir h)
  rcases hk with hk | hk | hk
  · have hD : locksD l c = addD (addD [] (dirOf l c.path)) (dirOf l c.to) := by simp [locksD, pathsK, hk]
    rw [hD]
    cases ha : dirOf l c.path with
    | none =>
      cases hb : dirOf l c.to with
      | none => simp [addD, locksO]
      | some b =>
        have := hp hb
        simp [addD, locksO]; omega
    | some a =>
      have ha0 := hp ha
      cases hb : dirOf l c.to with
      | none => simp [addD, locksO]; omega
      | some b =>
        have hb0 := hp hb
        by_cases hab : b = a
        · subst hab; simp [addD, locksO]; omega
        · have e : addD (addD [] (some a)) (some b) = [a, b] := by simp [addD, hab]
          rw [e]
          unfold locksO
          simp only [Option.getD_some]
          by_cases hq : (!aboveB l a b && (aboveB l b a || decide (b < a))) = true
          · rw [if_pos hq]
            simp only [Bool.and_eq_true, Bool.not_eq_true'] at hq
            refine ⟨fun x hx => ?_, fun x y h => ?_, .inr (.inr (by simp))⟩
            · simp at hx; rcases hx with rfl | rfl
              · exact ⟨hb0, .inr rfl⟩
              · exact ⟨ha0, .inl rfl⟩
            · simp at h; obtain ⟨rfl, rfl⟩ := h; exact ⟨hq.1, hab⟩
          · rw [if_neg hq]
            refine ⟨fun x hx => ?_, fun x y h => ?_, .inr (.inr (by simp))⟩
            · simp at hx; rcases hx with rfl | rfl
              · exact ⟨ha0, .inl rfl⟩
              · exact ⟨hb0, .inr rfl⟩
            · simp at h; obtain ⟨rfl, rfl⟩ := h
              refine ⟨?_, fun e => hab e.symm⟩
              cases h2 : aboveB l b a with
              | false => rfl
              | true =>
                rw [above_one hb ha h2, h2] at hq
                simp at hq
  · have hD : locksD l c = addD [] (dirOf l c.path) := by simp [locksD, pathsK, hk]
    rw [hD]
    cases ha : dirOf l c.path with
    | none => simp [addD, locksO]
    | some a =>
      have := hp ha
      simp [addD, locksO]; omega
  · have hD : locksD l c = [] := by simp [locksD, pathsK, hk]
    rw [hD]
    simp [locksO, hk]
end Go.Gw
/- call.Check: whether a call may be. No condition but the length of its paths. -/
namespace Go.Gw
open Go Go.Aw Go.Proofs.YtmknmapgfjmioaaGreatDoor
def partsK (k : Int) : Option Int := if k = 1 ∨ k = 2 ∨ k = 6 ∨ k = 10 then some 1 else if k = 3 then some 5 else if k = 4 ∨ k = 7 then some 9 else if k = 5 then some 3 else if k = 9 ∨ k = 11 then some 8 else if k = 13 then some 4 else if k = 8 ∨ k = 12 then some 0 else none
def pathB (s : Txt) : Bool := (namesOf s).isSome
def fitK (p part : Int) (r e : Bool) : Bool := if aBits .and .i64 p part = 0 then e else r
def chkC (c : Cal) : Bool := match partsK c.kind with
  | none => false
  | some p => fitK p 1 (pathB c.path) (decide (c.path = [])) && (fitK p 2 (pathB c.to) (decide (c.to = [])) && (fitK p 4 (decide ((c.data.length : Int) ≤ if c.kind = 13 then 4000 else 64)) (decide (c.data = [])) && fitK p 8 (decide (0 ≤ c.n)) (decide (c.n = 0))))
theorem kinds13 (k : Int) : k = 1 ∨ k = 2 ∨ k = 6 ∨ k = 10 ∨ k = 3 ∨ k = 4 ∨ k = 7 ∨ k = 5 ∨ k = 9 ∨ k = 11 ∨ k = 13 ∨ k = 8 ∨ k = 12 ∨
    ((k = 1) = False ∧ (k = 2) = False ∧ (k = 6) = False ∧ (k = 10) = False ∧ (k = 3) = False ∧ (k = 4) = False ∧ (k = 7) = False ∧ (k = 5) = False ∧ (k = 9) = False ∧ (k = 11) = False ∧ (k = 13) = False ∧ (k = 8) = False ∧ (k = 12) = False) := by
  simp only [eq_iff_iff, iff_false]; omega
end Go.Gw
namespace Go.Proofs.YtmknmapgfjmioaaGreatDoor
open Go Go.Aw Go.Gw
set_option linter.unusedSimpArgs false
set_option linter.unusedVariables false
set_option maxRecDepth 20000
set_option maxHeartbeats 4000000

theorem chas_c (k : Int) (H : AHeap) : FnC Tryz.prog 43 [.int .i64 k] H (.tup [.int .i64 ((partsK k).getD 0), .bool (partsK k).isSome]) := by
  refine fnC_of Tryz.func43 rfl (Nat.le_of_ble_eq_true rfl) ?_
  rcases kinds13 k with rfl | rfl | rfl | rfl | rfl | rfl | rfl | rfl | rfl | rfl | rfl | rfl | rfl | ⟨h1, h2, h3, h4, h5, h6, h7, h8, h9, h10, h11, h12, h13⟩
  iterate 13 focus ((repeat' first | ((first | refine callP_false (.bool false) ?_ | refine aw_region rfl ?_ | refine aw_region_draw mixedF rfl (by kernel_rfl) ?_ | refine aE rfl ?_); simp only [go_sem, Int.reduceEq]) | refine callG_y ?_ | refine callG_p ?_ | refine aw_seq ?_ | refine aw_block ?_ | refine aw_scope ?_ | (refine aw_cond rfl (fun h => ?_) (fun h => ?_) <;> try (exfalso; first | (simp at h; done) | (simp at h; omega))) | ((with_reducible refine And.intro ?_ ?_); focus (first | omega | (intros; simp_all; done) | (simp; omega)))); exact done0 (by simp only [go_sem]) (.refl _))
  have z : ∀ m : Int, (k = m) = False → decide (k = m) = false := fun m h => by simp [h]
  have z1 := z 1 h1
  have z2 := z 2 h2
  have z3 := z 6 h3
  have z4 := z 10 h4
  have z5 := z 3 h5
  have z6 := z 4 h6
  have z7 := z 7 h7
  have z8 := z 5 h8
  have z9 := z 9 h9
  have z10 := z 11 h10
  have z11 := z 13 h11
  have z12 := z 8 h12
  have z13 := z 12 h13
  repeat' first | ((first | refine callP_false (.bool false) ?_ | refine aw_region rfl ?_ | refine aw_region_draw mixedF rfl (by kernel_rfl) ?_ | refine aE rfl ?_); simp only [go_sem, z1, z2, z3, z4, z5, z6, z7, z8, z9, z10, z11, z12, z13]) | refine callG_y ?_ | refine callG_p ?_ | refine aw_seq ?_ | refine aw_block ?_ | refine aw_scope ?_ | (refine aw_cond rfl (fun h => ?_) (fun h => ?_) <;> try (exfalso; first | (simp at h; done) | (simp at h; omega))) | ((with_reducible refine And.intro ?_ ?_); focus (first | omega | (intros; simp_all; done) | (simp; omega)))
  exact done0 (by simp only [go_sem]) (.of (by simp [partsK, h1, h2, h3, h4, h5, h6, h7, h8, h9, h10, h11, h12, h13]))

theorem cpath_c (s : Txt) (hs : s.length ≤ 1048576) (H : AHeap) : FnC Tryz.prog 45 [.str s] H (.bool (pathB s)) := by
  refine fnC_of Tryz.func45 rfl (Nat.le_of_ble_eq_true rfl) ?_
  have h := path_c s hs
  unfold pathV at h
  unfold pathB
  cases hn : namesOf s with
  | none =>
    simp only [hn] at h
    have ct0 := ct h callOk55F; repeat' first | ((first | refine cK (by assumption) ?_ | refine cP (by assumption) ?_ | refine cM (by assumption) ?_ | refine callP_false (.bool false) ?_ | refine aw_region rfl ?_ | refine aw_region_draw mixedF rfl (by kernel_rfl) ?_ | refine aE rfl ?_); simp only [go_sem, Int.reduceEq]) | refine callG_y ?_ | refine callG_p ?_ | refine aw_seq ?_ | refine aw_block ?_ | refine aw_scope ?_ | (refine aw_cond rfl (fun h => ?_) (fun h => ?_) <;> try (exfalso; first | (simp at h; done) | (simp at h; omega))) | ((with_reducible refine And.intro ?_ ?_); focus (first | omega | (intros; simp_all; done) | (simp; omega)))
    exact done0 (by simp only [go_sem]) (.refl _)
  | some l =>
    simp only [hn] at h
    have ct0 := ct h callOk55F; repeat' first | ((first | refine cK (by assumption) ?_ | refine cP (by assumption) ?_ | refine cM (by assumption) ?_ | refine callP_false (.bool false) ?_ | refine aw_region rfl ?_ | refine aw_region_draw mixedF rfl (by kernel_rfl) ?_ | refine aE rfl ?_); simp only [go_sem, Int.reduceEq]) | refine callG_y ?_ | refine callG_p ?_ | refine aw_seq ?_ | refine aw_block ?_ | refine aw_scope ?_ | (refine aw_cond rfl (fun h => ?_) (fun h => ?_) <;> try (exfalso; first | (simp at h; done) | (simp at h; omega))) | ((with_reducible refine And.intro ?_ ?_); focus (first | omega | (intros; simp_all; done) | (simp; omega)))
    exact done0 (by simp only [go_sem]) (.refl _)

theorem cfits_c (p part : Int) (r e : Bool) (i : Nat) (G : AHeap) (hh : hget G i = .cells 0 [.int .i64 p]) : FnC Tryz.prog 44 [.int .i64 part, .bool r, .bool e, .ref i 0 0] G (.bool (fitK p part r e)) := by
  refine fnC_of Tryz.func44 rfl (Nat.le_of_ble_eq_true rfl) ?_
  unfold fitK
  by_cases h : aBits .and .i64 p part = 0
  · rw [if_pos h]
    have hz : decide (aBits .and .i64 p part = 0) = true := decide_eq_true h
    repeat' first | ((first | refine callP_false (.bool false) ?_ | refine aw_region rfl ?_ | refine aw_region_draw mixedF rfl (by kernel_rfl) ?_ | refine aE rfl ?_); simp only [go_sem, hh, hz]) | refine callG_y ?_ | refine callG_p ?_ | refine aw_seq ?_ | refine aw_block ?_ | refine aw_scope ?_ | (refine aw_cond rfl (fun h => ?_) (fun h => ?_) <;> try (exfalso; first | (simp at h; done) | (simp at h; omega))) | ((with_reducible refine And.intro ?_ ?_); focus (first | omega | (intros; simp_all; done) | (simp; omega)))
    exact done0 (by simp only [go_sem]) (.refl _)
  · rw [if_neg h]
    have hz : decide (aBits .and .i64 p part = 0) = false := decide_eq_false h
    repeat' first | ((first | refine callP_false (.bool false) ?_ | refine aw_region rfl ?_ | refine aw_region_draw mixedF rfl (by kernel_rfl) ?_ | refine aE rfl ?_); simp only [go_sem, hh, hz]) | refine callG_y ?_ | refine callG_p ?_ | refine aw_seq ?_ | refine aw_block ?_ | refine aw_scope ?_ | (refine aw_cond rfl (fun h => ?_) (fun h => ?_) <;> try (exfalso; first | (simp at h; done) | (simp at h; omega))) | ((with_reducible refine And.intro ?_ ?_); focus (first | omega | (intros; simp_all; done) | (simp; omega)))
    exact done0 (by simp only [go_sem]) (.refl _)

theorem ccheck_c (c : Cal) (hp : c.path.length ≤ 1048576) (ht : c.to.length ≤ 1048576) (H : AHeap) : FnC Tryz.prog 23 [caA c] H (.bool (chkC c)) := by
  refine fnC_of Tryz.func23 rfl (Nat.le_of_ble_eq_true rfl) ?_
  have hh := chas_c c.kind
  have h1 := cpath_c c.path hp
  have h2 := cpath_c c.to ht
  unfold chkC
  cases hk : partsK c.kind with
  | none =>
    simp only [hk, Option.getD_none, Option.isSome_none] at hh ⊢
    have ct0 := ct hh callOk43F; repeat' first | ((first | refine cK (by assumption) ?_ | refine cP (by assumption) ?_ | refine cM (by assumption) ?_ | refine callP_false (.bool false) ?_ | refine aw_region rfl ?_ | refine aw_region_draw mixedF rfl (by kernel_rfl) ?_ | refine aE rfl ?_); simp only [go_sem, caA]) | refine callG_y ?_ | refine callG_p ?_ | refine aw_seq ?_ | refine aw_block ?_ | refine aw_scope ?_ | (refine aw_cond rfl (fun h => ?_) (fun h => ?_) <;> try (exfalso; first | (simp at h; done) | (simp at h; omega))) | ((with_reducible refine And.intro ?_ ?_); focus (first | omega | (intros; simp_all; done) | (simp; omega)))
    exact done (by simp only [go_sem]) (.refl _)
  | some p =>
    simp only [hk, Option.getD_some, Option.isSome_some] at hh ⊢
    have f1 := cfits_c p 1 (pathB c.path) (decide (c.path = [])) (H.length + 1) (H ++ [.cells 0 [.int .i64 c.kind, .str c.path, .str c.to, .str c.data, .int .i64 c.n], .cells 0 [.int .i64 p]]) (by simp only [go_sem])
    have f2 := cfits_c p 2 (pathB c.to) (decide (c.to = [])) (H.length + 1) (H ++ [.cells 0 [.int .i64 c.kind, .str c.path, .str c.to, .str c.data, .int .i64 c.n], .cells 0 [.int .i64 p]]) (by simp only [go_sem])
    have f4 := cfits_c p 8 (decide (0 ≤ c.n)) (decide (c.n = 0)) (H.length + 1) (H ++ [.cells 0 [.int .i64 c.kind, .str c.path, .str c.to, .str c.data, .int .i64 c.n], .cells 0 [.int .i64 p]]) (by simp only [go_sem])
    by_cases h13 : c.kind = 13
    · have hd : decide (c.kind = 13) = true := decide_eq_true h13
      rw [if_pos h13]
      have f3 := cfits_c p 4 (decide ((c.data.length : Int) ≤ 4000)) (decide (c.data = [])) (H.length + 1) (H ++ [.cells 0 [.int .i64 c.kind, .str c.path, .str c.to, .str c.data, .int .i64 c.n], .cells 0 [.int .i64 p]]) (by simp only [go_sem])
      generalize fitK p 1 (pathB c.path) (decide (c.path = [])) = x1 at *
      generalize fitK p 2 (pathB c.to) (decide (c.to = [])) = x2 at *
      generalize fitK p 4 (decide ((c.data.length : Int) ≤ 4000)) (decide (c.data = [])) = x3 at *
      generalize fitK p 8 (decide (0 ≤ c.n)) (decide (c.n = 0)) = x4 at *
      cases x1 <;> cases x2 <;> cases x3
      all_goals (have ct0 := ct hh callOk43F; have ct1 := ct h1 callOk45F; have ct2 := ct h2 callOk45F; repeat' first | ((first | refine cK (by assumption) ?_ | refine cP (by assumption) ?_ | refine cM (by assumption) ?_ | refine callK_cap (f1) callOk44F ?_ | refine callP_cap (fun _ => f1) callOk44F ?_ | refine callM_cap (fun _ => f1) callOk44F ?_ | refine callK_cap (f2) callOk44F ?_ | refine callP_cap (fun _ => f2) callOk44F ?_ | refine callM_cap (fun _ => f2) callOk44F ?_ | refine callK_cap (f3) callOk44F ?_ | refine callP_cap (fun _ => f3) callOk44F ?_ | refine callM_cap (fun _ => f3) callOk44F ?_ | refine callK_cap (f4) callOk44F ?_ | refine callP_cap (fun _ => f4) callOk44F ?_ | refine callM_cap (fun _ => f4) callOk44F ?_ | refine callP_false (.bool false) ?_ | refine aw_region rfl ?_ | refine aw_region_draw mixedF rfl (by kernel_rfl) ?_ | refine aE rfl ?_); simp only [go_sem, caA, hd]) | refine callG_y ?_ | refine callG_p ?_ | refine aw_seq ?_ | refine aw_block ?_ | refine aw_scope ?_ | (refine aw_cond rfl (fun h => ?_) (fun h => ?_) <;> try (exfalso; first | (simp at h; done) | (simp at h; omega))) | ((with_reducible refine And.intro ?_ ?_); focus (first | omega | (intros; simp_all; done) | (simp; omega))))
      all_goals exact done (by simp only [go_sem]) (.refl _)
    · have hd : decide (c.kind = 13) = false := decide_eq_false h13
      rw [if_neg h13]
      have f3 := cfits_c p 4 (decide ((c.data.length : Int) ≤ 64)) (decide (c.data = [])) (H.length + 1) (H ++ [.cells 0 [.int .i64 c.kind, .str c.path, .str c.to, .str c.data, .int .i64 c.n], .cells 0 [.int .i64 p]]) (by simp only [go_sem])
      generalize fitK p 1 (pathB c.path) (decide (c.path = [])) = x1 at *
      generalize fitK p 2 (pathB c.to) (decide (c.to = [])) = x2 at *
      generalize fitK p 4 (decide ((c.data.length : Int) ≤ 64)) (decide (c.data = [])) = x3 at *
      generalize fitK p 8 (decide (0 ≤ c.n)) (decide (c.n = 0)) = x4 at *
      cases x1 <;> cases x2 <;> cases x3
      all_goals (have ct0 := ct hh callOk43F; have ct1 := ct h1 callOk45F; have ct2 := ct h2 callOk45F; repeat' first | ((first | refine cK (by assumption) ?_ | refine cP (by assumption) ?_ | refine cM (by assumption) ?_ | refine callK_cap (f1) callOk44F ?_ | refine callP_cap (fun _ => f1) callOk44F ?_ | refine callM_cap (fun _ => f1) callOk44F ?_ | refine callK_cap (f2) callOk44F ?_ | refine callP_cap (fun _ => f2) callOk44F ?_ | refine callM_cap (fun _ => f2) callOk44F ?_ | refine callK_cap (f3) callOk44F ?_ | refine callP_cap (fun _ => f3) callOk44F ?_ | refine callM_cap (fun _ => f3) callOk44F ?_ | refine callK_cap (f4) callOk44F ?_ | refine callP_cap (fun _ => f4) callOk44F ?_ | refine callM_cap (fun _ => f4) callOk44F ?_ | refine callP_false (.bool false) ?_ | refine aw_region rfl ?_ | refine aw_region_draw mixedF rfl (by kernel_rfl) ?_ | refine aE rfl ?_); simp only [go_sem, caA, hd]) | refine callG_y ?_ | refine callG_p ?_ | refine aw_seq ?_ | refine aw_block ?_ | refine aw_scope ?_ | (refine aw_cond rfl (fun h => ?_) (fun h => ?_) <;> try (exfalso; first | (simp at h; done) | (simp at h; omega))) | ((with_reducible refine And.intro ?_ ?_); focus (first | omega | (intros; simp_all; done) | (simp; omega))))
      all_goals exact done (by simp only [go_sem]) (.refl _)
end Go.Proofs.YtmknmapgfjmioaaGreatDoor
/- PlanOrder, walked. No condition. -/
namespace Go.Gw
open Go Go.Aw Go.Proofs.YtmknmapgfjmioaaGreatDoor
theorem fewCal_o {c : Cal} (h : fewCal [c] 1 = true) : c.path.length ≤ 1000 ∧ c.to.length ≤ 1000 ∧ c.data.length ≤ 5000 := by
  simp [fewCal, longCal] at h
  omega
theorem any_o {l : List Int} {k : Nat} (h : k < l.length) (x : Int) : ((l.take (k + 1)).any fun y => decide (y = x)) = ((l.take k).any (fun y => decide (y = x)) || decide (l[k] = x)) := by
  rw [List.take_succ_eq_append_getElem h, List.any_append]; simp
end Go.Gw
namespace Go.Proofs.YtmknmapgfjmioaaGreatDoor
open Go Go.Aw Go.Gw
set_option linter.unusedSimpArgs false
set_option linter.unusedVariables false
set_option maxRecDepth 20000
set_option maxHeartbeats 8000000

theorem ldir_c (b : Bool) (l : List Nd) (p : Txt) (hp : p.length ≤ 1048576) (hl : l.length ≤ 1073741824) (H : AHeap) : FnC Tryz.prog 26 [.sl b (l.map ndA), .str p] H (.int .i64 ((dirOf l p).getD (-1))) := by
  refine fnC_of Tryz.func26 rfl (Nat.le_of_ble_eq_true rfl) ?_
  have hpa := path_c p hp
  unfold pathV at hpa
  cases hn : namesOf p with
  | none =>
    simp only [hn] at hpa
    rw [dirOf_none hn]
    have ct0 := ct hpa callOk55F; repeat' first | ((first | refine cK (by assumption) ?_ | refine cP (by assumption) ?_ | refine cM (by assumption) ?_ | refine callP_false (.bool false) ?_ | refine aw_region rfl ?_ | refine aw_region_draw mixedF rfl (by kernel_rfl) ?_ | refine aE rfl ?_); simp only [go_sem, Int.reduceEq]) | refine callG_y ?_ | refine callG_p ?_ | refine aw_seq ?_ | refine aw_block ?_ | refine aw_scope ?_ | (refine aw_cond rfl (fun h => ?_) (fun h => ?_) <;> try (exfalso; first | (simp at h; done) | (simp at h; omega))) | ((with_reducible refine And.intro ?_ ?_); focus (first | omega | (intros; simp_all; done) | (simp; omega)))
    exact done0 (by simp only [go_sem]) (.refl _)
  | some ns =>
    simp only [hn] at hpa
    cases ns with
    | nil =>
      rw [dirOf_nil hn]
      simp only [List.map_nil] at hpa
      have ct0 := ct hpa callOk55F; repeat' first | ((first | refine cK (by assumption) ?_ | refine cP (by assumption) ?_ | refine cM (by assumption) ?_ | refine callP_false (.bool false) ?_ | refine aw_region rfl ?_ | refine aw_region_draw mixedF rfl (by kernel_rfl) ?_ | refine aE rfl ?_); simp only [go_sem, Int.reduceEq]) | refine callG_y ?_ | refine callG_p ?_ | refine aw_seq ?_ | refine aw_block ?_ | refine aw_scope ?_ | (refine aw_cond rfl (fun h => ?_) (fun h => ?_) <;> try (exfalso; first | (simp at h; done) | (simp at h; omega))) | ((with_reducible refine And.intro ?_ ?_); focus (first | omega | (intros; simp_all; done) | (simp; omega)))
      exact done0 (by simp only [go_sem]) (.refl _)
    | cons x xs =>
      have h16 := namesOf_len hn
      rw [List.length_cons] at h16
      have hf := vfind_c b false l (x :: xs).dropLast hl
      obtain ⟨⟨d, e⟩, hde⟩ : ∃ r, findN l (x :: xs).dropLast = r := ⟨_, rfl⟩
      rw [hde] at hf
      rw [dirOf_cons hn hde]
      simp only [findV] at hf
      have hw : IntKind.i64.wrap (((xs.length + 1 : Nat) : Int) - 1) = ((xs.length : Nat) : Int) := by rw [wrap_i64 (by omega) (by omega)]; omega
      have hz : decide (((xs.length + 1 : Nat) : Int) = 0) = false := decide_eq_false (by omega)
      have htk : ((x :: xs).map AV.str).take xs.length = ((x :: xs).dropLast).map AV.str := by rw [List.dropLast_eq_take, List.map_take]; simp
      have hlt : decide (((xs.length : Nat) : Int) = ((xs.length + 1 : Nat) : Int)) = false := decide_eq_false (by omega)
      have hf2 := vfind_c b (decide (p = [47]) && false) l (x :: xs).dropLast hl
      rw [hde] at hf2
      simp only [findV, Bool.and_false] at hf2
      simp only [List.map_cons] at hpa htk
      have hdr := dir_c d
      by_cases he0 : e = 0
      · subst he0
        cases hdd : dirI d with
        | false =>
          rw [hdd] at hdr
          rw [if_neg (by rintro ⟨_, h⟩; cases h)]
          have ct0 := ct hpa callOk55F; have ct1 := ct hf2 callOk56F; have ct2 := ct hdr callOk57F; repeat' first | ((first | refine cK (by assumption) ?_ | refine cP (by assumption) ?_ | refine cM (by assumption) ?_ | refine callP_false (.bool false) ?_ | refine aw_region rfl ?_ | refine aw_region_draw mixedF rfl (by kernel_rfl) ?_ | refine aE rfl ?_); simp only [go_sem, Int.reduceEq, hw, hz, htk, hlt, Bool.and_false]) | refine callG_y ?_ | refine callG_p ?_ | refine aw_seq ?_ | refine aw_block ?_ | refine aw_scope ?_ | (refine aw_cond rfl (fun h => ?_) (fun h => ?_) <;> try (exfalso; first | (simp at h; done) | (simp at h; omega))) | ((with_reducible refine And.intro ?_ ?_); focus (first | omega | (intros; simp_all; done) | (simp; omega)))
          exact done0 (by simp only [go_sem]) (.refl _)
        | true =>
          rw [hdd] at hdr
          rw [if_pos ⟨rfl, rfl⟩]
          have ct0 := ct hpa callOk55F; have ct1 := ct hf2 callOk56F; have ct2 := ct hdr callOk57F; repeat' first | ((first | refine cK (by assumption) ?_ | refine cP (by assumption) ?_ | refine cM (by assumption) ?_ | refine callP_false (.bool false) ?_ | refine aw_region rfl ?_ | refine aw_region_draw mixedF rfl (by kernel_rfl) ?_ | refine aE rfl ?_); simp only [go_sem, Int.reduceEq, hw, hz, htk, hlt, Bool.and_false]) | refine callG_y ?_ | refine callG_p ?_ | refine aw_seq ?_ | refine aw_block ?_ | refine aw_scope ?_ | (refine aw_cond rfl (fun h => ?_) (fun h => ?_) <;> try (exfalso; first | (simp at h; done) | (simp at h; omega))) | ((with_reducible refine And.intro ?_ ?_); focus (first | omega | (intros; simp_all; done) | (simp; omega)))
          exact done0 (by simp only [go_sem]) (.refl _)
      · rw [if_neg (fun h => he0 h.1)]
        have hez : decide (e = 0) = false := decide_eq_false he0
        have ct0 := ct hpa callOk55F; have ct1 := ct hf2 callOk56F; repeat' first | ((first | refine cK (by assumption) ?_ | refine cP (by assumption) ?_ | refine cM (by assumption) ?_ | refine callP_false (.bool false) ?_ | refine aw_region rfl ?_ | refine aw_region_draw mixedF rfl (by kernel_rfl) ?_ | refine aE rfl ?_); simp only [go_sem, Int.reduceEq, hw, hz, htk, hlt, hez, Bool.and_false]) | refine callG_y ?_ | refine callG_p ?_ | refine aw_seq ?_ | refine aw_block ?_ | refine aw_scope ?_ | (refine aw_cond rfl (fun h => ?_) (fun h => ?_) <;> try (exfalso; first | (simp at h; done) | (simp at h; omega))) | ((with_reducible refine And.intro ?_ ?_); focus (first | omega | (intros; simp_all; done) | (simp; omega)))
        exact done0 (by simp only [go_sem]) (.refl _)

theorem porder_c (b : Bool) (ops : List Opn) (c : Cal) (H : AHeap) : FnC Tryz.prog 4 [.sl b (ops.map opA), caA c] H (.bool true) := by
  refine fnC_of Tryz.func4 rfl (Nat.le_of_ble_eq_true rfl) ?_
  have hfew := few5_c b ops 60
  have hcal := few18_c true [c] 1
  simp only [List.map_cons, List.map_nil, caA] at hcal
  cases hA : fewOpn ops 60 with
  | false =>
    rw [hA] at hfew
    have ct0 := ct awake20_c callOk5F; have ct1 := ct hfew callOk21F; repeat' first | ((first | refine cK (by assumption) ?_ | refine cP (by assumption) ?_ | refine cM (by assumption) ?_ | refine callP_false (.bool false) ?_ | refine aw_region rfl ?_ | refine aw_region_draw mixedF rfl (by kernel_rfl) ?_ | refine aE rfl ?_); simp only [go_sem, caA]) | refine callG_y ?_ | refine callG_p ?_ | refine aw_seq ?_ | refine aw_block ?_ | refine aw_scope ?_ | (refine aw_cond rfl (fun h => ?_) (fun h => ?_) <;> try (exfalso; first | (simp at h; done) | (simp at h; omega))) | ((with_reducible refine And.intro ?_ ?_); focus (first | omega | (intros; simp_all; done) | (simp; omega)))
    exact done (by simp only [go_sem]) (.refl _)
  | true =>
  rw [hA] at hfew
  cases hB : fewCal [c] 1 with
  | false =>
    rw [hB] at hcal
    have ct0 := ct awake20_c callOk5F; have ct1 := ct hfew callOk21F; have ct2 := ct hcal callOk22F; repeat' first | ((first | refine cK (by assumption) ?_ | refine cP (by assumption) ?_ | refine cM (by assumption) ?_ | refine callP_false (.bool false) ?_ | refine aw_region rfl ?_ | refine aw_region_draw mixedF rfl (by kernel_rfl) ?_ | refine aE rfl ?_); simp only [go_sem, caA]) | refine callG_y ?_ | refine callG_p ?_ | refine aw_seq ?_ | refine aw_block ?_ | refine aw_scope ?_ | (refine aw_cond rfl (fun h => ?_) (fun h => ?_) <;> try (exfalso; first | (simp at h; done) | (simp at h; omega))) | ((with_reducible refine And.intro ?_ ?_); focus (first | omega | (intros; simp_all; done) | (simp; omega)))
    exact done (by simp only [go_sem]) (.refl _)
  | true =>
  rw [hB] at hcal
  obtain ⟨hS, hl⟩ := fewOpn_S hA
  obtain ⟨hc1, hc2, hc3⟩ := fewCal_o hB
  have hck := ccheck_c c (by omega) (by omega)
  simp only [caA] at hck
  cases hC : chkC c with
  | false =>
    rw [hC] at hck
    have ct0 := ct awake20_c callOk5F; have ct1 := ct hfew callOk21F; have ct2 := ct hcal callOk22F; have ct3 := ct hck callOk23F; repeat' first | ((first | refine cK (by assumption) ?_ | refine cP (by assumption) ?_ | refine cM (by assumption) ?_ | refine callP_false (.bool false) ?_ | refine aw_region rfl ?_ | refine aw_region_draw mixedF rfl (by kernel_rfl) ?_ | refine aE rfl ?_); simp only [go_sem, caA]) | refine callG_y ?_ | refine callG_p ?_ | refine aw_seq ?_ | refine aw_block ?_ | refine aw_scope ?_ | (refine aw_cond rfl (fun h => ?_) (fun h => ?_) <;> try (exfalso; first | (simp at h; done) | (simp at h; omega))) | ((with_reducible refine And.intro ?_ ?_); focus (first | omega | (intros; simp_all; done) | (simp; omega)))
    exact done (by simp only [go_sem]) (.refl _)
  | true =>
  rw [hC] at hck
  have hfold := fold_c b ops hS (by omega)
  have hlen : (foldL ops).length ≤ 1073741824 := by have := fold_len20 ops; omega
  generalize foldL ops = l at *
  have hlk := plocks_c false l c (by omega) (by omega) hlen
  simp only [caA] at hlk
  cases ht : turnsK c with
  | false =>
    rw [ht, if_neg (fun h => by cases h)] at hlk
    have hk : decide (c.kind = 5) = false ∧ decide (c.kind = 6) = false ∧ decide (c.kind = 13) = false := by
      unfold turnsK at ht
      simp only [Bool.or_eq_false_iff] at ht
      exact ⟨ht.1.1, ht.1.2, ht.2⟩
    obtain ⟨k5, k6, k13⟩ := hk
    have ct0 := ct awake20_c callOk5F; have ct1 := ct hfew callOk21F; have ct2 := ct hcal callOk22F; have ct3 := ct hck callOk23F; have ct4 := ct hfold callOk24F; have ct5 := ct hlk callOk10F; repeat' first | ((first | refine cK (by assumption) ?_ | refine cP (by assumption) ?_ | refine cM (by assumption) ?_ | refine callP_false (.bool false) ?_ | refine aw_region rfl ?_ | refine aw_region_draw mixedF rfl (by kernel_rfl) ?_ | refine aE rfl ?_); simp only [go_sem, caA, k5, k6, k13]) | refine callG_y ?_ | refine callG_p ?_ | refine aw_seq ?_ | refine aw_block ?_ | refine aw_scope ?_ | (refine aw_cond rfl (fun h => ?_) (fun h => ?_) <;> try (exfalso; first | (simp at h; done) | (simp at h; omega))) | ((with_reducible refine And.intro ?_ ?_); focus (first | omega | (intros; simp_all; done) | (simp; omega)))
    exact done (by simp only [go_sem]) (.refl _)
  | true =>
  rw [ht, if_pos rfl] at hlk
  obtain ⟨ds, hds, hd2, hmem, hord, hfst⟩ := locks_law (l := l) ht
  rw [hds] at hlk
  have hdp := ldir_c false l c.path (by omega) hlen
  have hdt := ldir_c false l c.to (by omega) hlen
  generalize (dirOf l c.path).getD (-1) = dp at *
  generalize (dirOf l c.to).getD (-1) = dt at *
  have hl1 : (((ds.length + 1 : Nat) : Int) < 1) = False := eq_false (by omega)
  have hl3 : ((3 : Int) < ((ds.length + 1 : Nat) : Int)) = False := eq_false (by omega)
  simp only [List.map_cons, inA] at hlk
  by_cases h2 : ds.length = 2
  · have hz3 : decide (((ds.length + 1 : Nat) : Int) = 3) = true := decide_eq_true (by omega)
    obtain ⟨x, y, hxy⟩ : ∃ x y, ds = [x, y] := by
      match ds, h2 with
      | [x, y], _ => exact ⟨x, y, rfl⟩
    obtain ⟨ho1, ho2⟩ := hord x y hxy
    have g0 : (ds.map inA).getD 0 .top = inA x := by rw [hxy]; rfl
    have g1 : (ds.map inA).getD 1 .top = inA y := by rw [hxy]; rfl
    have hm1 : ((1 : Int) < ((ds.length + 1 : Nat) : Int)) = True := eq_true (by omega)
    have hm2 : ((2 : Int) < ((ds.length + 1 : Nat) : Int)) = True := eq_true (by omega)
    have hab := aboveC_c false l x hlen
    have zxy : decide (x = y) = false := decide_eq_false ho2
    have hno : ∀ k (h : k < (aboveC l x).length), (aboveC l x)[k] ≠ y := fun k h e => by
      have : y ∈ aboveC l x := e ▸ List.getElem_mem h
      rw [aboveB] at ho1
      have h2 : (aboveC l x).contains y = true := by simpa using this
      rw [h2] at ho1; cases ho1
    have hul : (aboveC l x).length ≤ 1073741824 := by
      rw [aboveC]
      split
      · have := aboveN_len l l.length x; unfold aboveI; omega
      · simp
    generalize aboveC l x = up at *
    have ct0 := ct awake20_c callOk5F; have ct1 := ct hfew callOk21F; have ct2 := ct hcal callOk22F; have ct3 := ct hck callOk23F; have ct4 := ct hfold callOk24F; have ct5 := ct hlk callOk10F; have ct6 := ct hab callOk25F; repeat' first | ((first | refine cK (by assumption) ?_ | refine cP (by assumption) ?_ | refine cM (by assumption) ?_ | refine callP_false (.bool false) ?_ | refine aw_region rfl ?_ | refine aw_region_draw mixedF rfl (by kernel_rfl) ?_ | refine aE rfl ?_); simp only [go_sem, caA, hl1, hl3, hz3, g0, g1, hm1, hm2, inA]) | refine callG_y ?_ | refine callG_p ?_ | refine aw_seq ?_ | refine aw_block ?_ | refine aw_scope ?_ | (refine aw_cond rfl (fun h => ?_) (fun h => ?_) <;> try (exfalso; first | (simp at h; done) | (simp at h; omega))) | ((with_reducible refine And.intro ?_ ?_); focus (first | omega | (intros; simp_all; done) | (simp; omega)))
    refine aw_loopS (ι := Nat) (fun k => [(3, .ref H.length 0 0), (5, .bool true), (6, .sl false (l.map ndA)), (7, .sl false (.int .i64 1 :: ds.map inA)), (9, .sl false (up.map inA)), (10, .int .i64 k)]) (fun _ => H ++ [.cells 0 (caA c).cells]) (fun k => k ≤ up.length) (fun k => up.length - k) 0 (Nat.zero_le _) ?_ rfl ?_
    · simp [go_sem]
    rintro k hk
    by_cases hlt : k < up.length
    · have hli : ((k : Int) < ((up.length : Nat) : Int)) = True := eq_true (by omega)
      have hp := getD_map inA hlt
      have hw : IntKind.i64.wrap ((k : Int) + 1) = ((k + 1 : Nat) : Int) := by rw [wrap_i64 (by omega) (by omega)]; rfl
      have zz : decide (up[k] = y) = false := decide_eq_false (hno k hlt)
      repeat' first | ((first | refine callP_false (.bool false) ?_ | refine aw_region rfl ?_ | refine aw_region_draw mixedF rfl (by kernel_rfl) ?_ | refine aE rfl ?_); simp only [go_sem, hli, hp, zz, g1, hm2, inA]) | refine callG_y ?_ | refine callG_p ?_ | refine aw_seq ?_ | refine aw_block ?_ | refine aw_scope ?_ | (refine aw_cond rfl (fun h => ?_) (fun h => ?_) <;> try (exfalso; first | (simp at h; done) | (simp at h; omega))) | ((with_reducible refine And.intro ?_ ?_); focus (first | omega | (intros; simp_all; done) | (simp; omega)))
      exact ⟨k + 1, hlt, by omega, congrArg _ hw⟩
    have hke : k = up.length := by omega
    subst hke
    have hli : ((up.length : Int) < ((up.length : Nat) : Int)) = False := eq_false (by omega)
    repeat' first | ((first | refine callP_false (.bool false) ?_ | refine aw_region rfl ?_ | refine aw_region_draw mixedF rfl (by kernel_rfl) ?_ | refine aE rfl ?_); simp only [go_sem, hli, g0, g1, hm1, hm2, zxy, inA]) | refine callG_y ?_ | refine callG_p ?_ | refine aw_seq ?_ | refine aw_block ?_ | refine aw_scope ?_ | (refine aw_cond rfl (fun h => ?_) (fun h => ?_) <;> try (exfalso; first | (simp at h; done) | (simp at h; omega))) | ((with_reducible refine And.intro ?_ ?_); focus (first | omega | (intros; simp_all; done) | (simp; omega)))
    refine aw_loopS (ι := Nat) (fun k => [(3, .ref H.length 0 0), (5, .bool true), (6, .sl false (l.map ndA)), (7, .sl false (.int .i64 1 :: ds.map inA)), (11, .int .i64 ((k + 1 : Nat) : Int))]) (fun _ => H ++ [.cells 0 (caA c).cells]) (fun k => k ≤ ds.length) (fun k => ds.length - k) 0 (Nat.zero_le _) ?_ rfl ?_
    · simp [go_sem]
    rintro k hk
    by_cases hlt : k < ds.length
    · have hli : (((k + 1 : Nat) : Int) < ((ds.length + 1 : Nat) : Int)) = True := eq_true (by omega)
      have hp := getD_map inA hlt
      have hw : IntKind.i64.wrap (((k + 1 : Nat) : Int) + 1) = ((k + 2 : Nat) : Int) := by rw [wrap_i64 (by omega) (by omega)]; rfl
      obtain ⟨hx0, hx⟩ := hmem _ (List.getElem_mem hlt)
      have hnn : (ds[k] < 0) = False := eq_false (by omega)
      by_cases hxp : ds[k] = dp
      · have zp : decide (ds[k] = dp) = true := decide_eq_true hxp
        have ct0 := ct hdp callOk26F; have ct1 := ct hdt callOk26F; repeat' first | ((first | refine cK (by assumption) ?_ | refine cP (by assumption) ?_ | refine cM (by assumption) ?_ | refine callP_false (.bool false) ?_ | refine aw_region rfl ?_ | refine aw_region_draw mixedF rfl (by kernel_rfl) ?_ | refine aE rfl ?_); simp only [go_sem, hli, hp, hnn, zp, inA, caA]) | refine callG_y ?_ | refine callG_p ?_ | refine aw_seq ?_ | refine aw_block ?_ | refine aw_scope ?_ | (refine aw_cond rfl (fun h => ?_) (fun h => ?_) <;> try (exfalso; first | (simp at h; done) | (simp at h; omega))) | ((with_reducible refine And.intro ?_ ?_); focus (first | omega | (intros; simp_all; done) | (simp; omega)))
        exact ⟨k + 1, hlt, by omega, congrArg _ hw⟩
      · have zp : decide (ds[k] = dp) = false := decide_eq_false hxp
        have zt : decide (ds[k] = dt) = true := decide_eq_true (hx.resolve_left hxp)
        have ct0 := ct hdp callOk26F; have ct1 := ct hdt callOk26F; repeat' first | ((first | refine cK (by assumption) ?_ | refine cP (by assumption) ?_ | refine cM (by assumption) ?_ | refine callP_false (.bool false) ?_ | refine aw_region rfl ?_ | refine aw_region_draw mixedF rfl (by kernel_rfl) ?_ | refine aE rfl ?_); simp only [go_sem, hli, hp, hnn, zp, zt, inA, caA]) | refine callG_y ?_ | refine callG_p ?_ | refine aw_seq ?_ | refine aw_block ?_ | refine aw_scope ?_ | (refine aw_cond rfl (fun h => ?_) (fun h => ?_) <;> try (exfalso; first | (simp at h; done) | (simp at h; omega))) | ((with_reducible refine And.intro ?_ ?_); focus (first | omega | (intros; simp_all; done) | (simp; omega)))
        exact ⟨k + 1, hlt, by omega, congrArg _ hw⟩
    have hke : k = ds.length := by omega
    subst hke
    have hli : (((ds.length + 1 : Nat) : Int) < ((ds.length + 1 : Nat) : Int)) = False := eq_false (by omega)
    have fin : ∀ a0 : Bool, a0 = (decide (dp < 0) || decide (c.kind = 13)) → (a0 || ds.any fun y => decide (y = dp)) = true := fun a0 h => by
      rw [h]
      rcases hfst with h | h | h
      · rw [decide_eq_true h]; rfl
      · rw [decide_eq_true h, Bool.or_true]; rfl
      · rw [Bool.or_eq_true]; right; rw [List.any_eq_true]; exact ⟨_, h, by simp⟩
    have hz0 : (dp < 0) = True ∨ ((dp < 0) = False ∧ (decide (c.kind = 13) = true ∨ decide (c.kind = 13) = false)) := by
      by_cases h : dp < 0
      · exact .inl (eq_true h)
      · exact .inr ⟨eq_false h, by cases decide (c.kind = 13) <;> simp⟩
    rcases hz0 with z0 | ⟨z0, z13 | z13⟩
    · have ct0 := ct hdp callOk26F; repeat' first | ((first | refine cK (by assumption) ?_ | refine cP (by assumption) ?_ | refine cM (by assumption) ?_ | refine callP_false (.bool false) ?_ | refine aw_region rfl ?_ | refine aw_region_draw mixedF rfl (by kernel_rfl) ?_ | refine aE rfl ?_); simp only [go_sem, hli, z0, caA]) | refine callG_y ?_ | refine callG_p ?_ | refine aw_seq ?_ | refine aw_block ?_ | refine aw_scope ?_ | (refine aw_cond rfl (fun h => ?_) (fun h => ?_) <;> try (exfalso; first | (simp at h; done) | (simp at h; omega))) | ((with_reducible refine And.intro ?_ ?_); focus (first | omega | (intros; simp_all; done) | (simp; omega)))
      refine aw_loopS (ι := Nat) (fun k => [(3, .ref H.length 0 0), (5, .bool true), (6, .sl false (l.map ndA)), (7, .sl false (.int .i64 1 :: ds.map inA)), (12, .bool true), (13, .int .i64 ((k + 1 : Nat) : Int))]) (fun _ => H ++ [.cells 0 (caA c).cells]) (fun k => k ≤ ds.length) (fun k => ds.length - k) 0 (Nat.zero_le _) ?_ rfl ?_
      · simp [go_sem]
      rintro k hk
      by_cases hlt : k < ds.length
      · have hlj : (((k + 1 : Nat) : Int) < ((ds.length + 1 : Nat) : Int)) = True := eq_true (by omega)
        have hw : IntKind.i64.wrap (((k + 1 : Nat) : Int) + 1) = ((k + 2 : Nat) : Int) := by rw [wrap_i64 (by omega) (by omega)]; rfl
        repeat' first | ((first | refine callP_false (.bool false) ?_ | refine aw_region rfl ?_ | refine aw_region_draw mixedF rfl (by kernel_rfl) ?_ | refine aE rfl ?_); simp only [go_sem, hlj, caA]) | refine callG_y ?_ | refine callG_p ?_ | refine aw_seq ?_ | refine aw_block ?_ | refine aw_scope ?_ | (refine aw_cond rfl (fun h => ?_) (fun h => ?_) <;> try (exfalso; first | (simp at h; done) | (simp at h; omega))) | ((with_reducible refine And.intro ?_ ?_); focus (first | omega | (intros; simp_all; done) | (simp; omega)))
        exact ⟨k + 1, hlt, by omega, congrArg _ hw⟩
      obtain rfl : k = ds.length := by omega
      repeat' first | ((first | refine callP_false (.bool false) ?_ | refine aw_region rfl ?_ | refine aw_region_draw mixedF rfl (by kernel_rfl) ?_ | refine aE rfl ?_); simp only [go_sem, hli]) | refine callG_y ?_ | refine callG_p ?_ | refine aw_seq ?_ | refine aw_block ?_ | refine aw_scope ?_ | (refine aw_cond rfl (fun h => ?_) (fun h => ?_) <;> try (exfalso; first | (simp at h; done) | (simp at h; omega))) | ((with_reducible refine And.intro ?_ ?_); focus (first | omega | (intros; simp_all; done) | (simp; omega)))
      exact done (by simp only [go_sem]) (.refl _)
    · have ct0 := ct hdp callOk26F; repeat' first | ((first | refine cK (by assumption) ?_ | refine cP (by assumption) ?_ | refine cM (by assumption) ?_ | refine callP_false (.bool false) ?_ | refine aw_region rfl ?_ | refine aw_region_draw mixedF rfl (by kernel_rfl) ?_ | refine aE rfl ?_); simp only [go_sem, hli, z0, z13, caA]) | refine callG_y ?_ | refine callG_p ?_ | refine aw_seq ?_ | refine aw_block ?_ | refine aw_scope ?_ | (refine aw_cond rfl (fun h => ?_) (fun h => ?_) <;> try (exfalso; first | (simp at h; done) | (simp at h; omega))) | ((with_reducible refine And.intro ?_ ?_); focus (first | omega | (intros; simp_all; done) | (simp; omega)))
      refine aw_loopS (ι := Nat) (fun k => [(3, .ref H.length 0 0), (5, .bool true), (6, .sl false (l.map ndA)), (7, .sl false (.int .i64 1 :: ds.map inA)), (12, .bool true), (13, .int .i64 ((k + 1 : Nat) : Int))]) (fun _ => H ++ [.cells 0 (caA c).cells]) (fun k => k ≤ ds.length) (fun k => ds.length - k) 0 (Nat.zero_le _) ?_ rfl ?_
      · simp [go_sem]
      rintro k hk
      by_cases hlt : k < ds.length
      · have hlj : (((k + 1 : Nat) : Int) < ((ds.length + 1 : Nat) : Int)) = True := eq_true (by omega)
        have hw : IntKind.i64.wrap (((k + 1 : Nat) : Int) + 1) = ((k + 2 : Nat) : Int) := by rw [wrap_i64 (by omega) (by omega)]; rfl
        repeat' first | ((first | refine callP_false (.bool false) ?_ | refine aw_region rfl ?_ | refine aw_region_draw mixedF rfl (by kernel_rfl) ?_ | refine aE rfl ?_); simp only [go_sem, hlj, caA]) | refine callG_y ?_ | refine callG_p ?_ | refine aw_seq ?_ | refine aw_block ?_ | refine aw_scope ?_ | (refine aw_cond rfl (fun h => ?_) (fun h => ?_) <;> try (exfalso; first | (simp at h; done) | (simp at h; omega))) | ((with_reducible refine And.intro ?_ ?_); focus (first | omega | (intros; simp_all; done) | (simp; omega)))
        exact ⟨k + 1, hlt, by omega, congrArg _ hw⟩
      obtain rfl : k = ds.length := by omega
      repeat' first | ((first | refine callP_false (.bool false) ?_ | refine aw_region rfl ?_ | refine aw_region_draw mixedF rfl (by kernel_rfl) ?_ | refine aE rfl ?_); simp only [go_sem, hli]) | refine callG_y ?_ | refine callG_p ?_ | refine aw_seq ?_ | refine aw_block ?_ | refine aw_scope ?_ | (refine aw_cond rfl (fun h => ?_) (fun h => ?_) <;> try (exfalso; first | (simp at h; done) | (simp at h; omega))) | ((with_reducible refine And.intro ?_ ?_); focus (first | omega | (intros; simp_all; done) | (simp; omega)))
      exact done (by simp only [go_sem]) (.refl _)
    · have ct0 := ct hdp callOk26F; repeat' first | ((first | refine cK (by assumption) ?_ | refine cP (by assumption) ?_ | refine cM (by assumption) ?_ | refine callP_false (.bool false) ?_ | refine aw_region rfl ?_ | refine aw_region_draw mixedF rfl (by kernel_rfl) ?_ | refine aE rfl ?_); simp only [go_sem, hli, z0, z13, caA]) | refine callG_y ?_ | refine callG_p ?_ | refine aw_seq ?_ | refine aw_block ?_ | refine aw_scope ?_ | (refine aw_cond rfl (fun h => ?_) (fun h => ?_) <;> try (exfalso; first | (simp at h; done) | (simp at h; omega))) | ((with_reducible refine And.intro ?_ ?_); focus (first | omega | (intros; simp_all; done) | (simp; omega)))
      refine aw_loopS (ι := Nat) (fun k => [(3, .ref H.length 0 0), (5, .bool true), (6, .sl false (l.map ndA)), (7, .sl false (.int .i64 1 :: ds.map inA)), (12, .bool ((ds.take k).any fun y => decide (y = dp))), (13, .int .i64 ((k + 1 : Nat) : Int))]) (fun _ => H ++ [.cells 0 (caA c).cells]) (fun k => k ≤ ds.length) (fun k => ds.length - k) 0 (Nat.zero_le _) ?_ rfl ?_
      · simp [go_sem]
      rintro k hk
      by_cases hlt : k < ds.length
      · have hlj : (((k + 1 : Nat) : Int) < ((ds.length + 1 : Nat) : Int)) = True := eq_true (by omega)
        have hw : IntKind.i64.wrap (((k + 1 : Nat) : Int) + 1) = ((k + 2 : Nat) : Int) := by rw [wrap_i64 (by omega) (by omega)]; rfl
        have hp := getD_map inA hlt
        have hst := any_o hlt dp
        generalize (ds.take k).any (fun y => decide (y = dp)) = i at *
        cases i with
        | true =>
          have ct0 := ct hdp callOk26F; repeat' first | ((first | refine cK (by assumption) ?_ | refine cP (by assumption) ?_ | refine cM (by assumption) ?_ | refine callP_false (.bool false) ?_ | refine aw_region rfl ?_ | refine aw_region_draw mixedF rfl (by kernel_rfl) ?_ | refine aE rfl ?_); simp only [go_sem, hlj, hp, inA, caA]) | refine callG_y ?_ | refine callG_p ?_ | refine aw_seq ?_ | refine aw_block ?_ | refine aw_scope ?_ | (refine aw_cond rfl (fun h => ?_) (fun h => ?_) <;> try (exfalso; first | (simp at h; done) | (simp at h; omega))) | ((with_reducible refine And.intro ?_ ?_); focus (first | omega | (intros; simp_all; done) | (simp; omega)))
          exact ⟨k + 1, hlt, by omega, by rw [hst, Bool.true_or], congrArg _ hw⟩
        | false =>
          have ct0 := ct hdp callOk26F; repeat' first | ((first | refine cK (by assumption) ?_ | refine cP (by assumption) ?_ | refine cM (by assumption) ?_ | refine callP_false (.bool false) ?_ | refine aw_region rfl ?_ | refine aw_region_draw mixedF rfl (by kernel_rfl) ?_ | refine aE rfl ?_); simp only [go_sem, hlj, hp, inA, caA]) | refine callG_y ?_ | refine callG_p ?_ | refine aw_seq ?_ | refine aw_block ?_ | refine aw_scope ?_ | (refine aw_cond rfl (fun h => ?_) (fun h => ?_) <;> try (exfalso; first | (simp at h; done) | (simp at h; omega))) | ((with_reducible refine And.intro ?_ ?_); focus (first | omega | (intros; simp_all; done) | (simp; omega)))
          exact ⟨k + 1, hlt, by omega, by rw [hst, Bool.false_or], congrArg _ hw⟩
      obtain rfl : k = ds.length := by omega
      have hend := fin false (by rw [z13, decide_eq_false (fun h => by rw [z0] at h; exact h)]; rfl)
      rw [Bool.false_or] at hend
      rw [List.take_length, hend]
      repeat' first | ((first | refine callP_false (.bool false) ?_ | refine aw_region rfl ?_ | refine aw_region_draw mixedF rfl (by kernel_rfl) ?_ | refine aE rfl ?_); simp only [go_sem, hli]) | refine callG_y ?_ | refine callG_p ?_ | refine aw_seq ?_ | refine aw_block ?_ | refine aw_scope ?_ | (refine aw_cond rfl (fun h => ?_) (fun h => ?_) <;> try (exfalso; first | (simp at h; done) | (simp at h; omega))) | ((with_reducible refine And.intro ?_ ?_); focus (first | omega | (intros; simp_all; done) | (simp; omega)))
      exact done (by simp only [go_sem]) (.refl _)
  · have hz3 : decide (((ds.length + 1 : Nat) : Int) = 3) = false := decide_eq_false (by omega)
    have ct0 := ct awake20_c callOk5F; have ct1 := ct hfew callOk21F; have ct2 := ct hcal callOk22F; have ct3 := ct hck callOk23F; have ct4 := ct hfold callOk24F; have ct5 := ct hlk callOk10F; repeat' first | ((first | refine cK (by assumption) ?_ | refine cP (by assumption) ?_ | refine cM (by assumption) ?_ | refine callP_false (.bool false) ?_ | refine aw_region rfl ?_ | refine aw_region_draw mixedF rfl (by kernel_rfl) ?_ | refine aE rfl ?_); simp only [go_sem, caA, hl1, hl3, hz3]) | refine callG_y ?_ | refine callG_p ?_ | refine aw_seq ?_ | refine aw_block ?_ | refine aw_scope ?_ | (refine aw_cond rfl (fun h => ?_) (fun h => ?_) <;> try (exfalso; first | (simp at h; done) | (simp at h; omega))) | ((with_reducible refine And.intro ?_ ?_); focus (first | omega | (intros; simp_all; done) | (simp; omega)))
    refine aw_loopS (ι := Nat) (fun k => [(3, .ref H.length 0 0), (5, .bool true), (6, .sl false (l.map ndA)), (7, .sl false (.int .i64 1 :: ds.map inA)), (11, .int .i64 ((k + 1 : Nat) : Int))]) (fun _ => H ++ [.cells 0 (caA c).cells]) (fun k => k ≤ ds.length) (fun k => ds.length - k) 0 (Nat.zero_le _) ?_ rfl ?_
    · simp [go_sem]
    rintro k hk
    by_cases hlt : k < ds.length
    · have hli : (((k + 1 : Nat) : Int) < ((ds.length + 1 : Nat) : Int)) = True := eq_true (by omega)
      have hp := getD_map inA hlt
      have hw : IntKind.i64.wrap (((k + 1 : Nat) : Int) + 1) = ((k + 2 : Nat) : Int) := by rw [wrap_i64 (by omega) (by omega)]; rfl
      obtain ⟨hx0, hx⟩ := hmem _ (List.getElem_mem hlt)
      have hnn : (ds[k] < 0) = False := eq_false (by omega)
      by_cases hxp : ds[k] = dp
      · have zp : decide (ds[k] = dp) = true := decide_eq_true hxp
        have ct0 := ct hdp callOk26F; have ct1 := ct hdt callOk26F; repeat' first | ((first | refine cK (by assumption) ?_ | refine cP (by assumption) ?_ | refine cM (by assumption) ?_ | refine callP_false (.bool false) ?_ | refine aw_region rfl ?_ | refine aw_region_draw mixedF rfl (by kernel_rfl) ?_ | refine aE rfl ?_); simp only [go_sem, hli, hp, hnn, zp, inA, caA]) | refine callG_y ?_ | refine callG_p ?_ | refine aw_seq ?_ | refine aw_block ?_ | refine aw_scope ?_ | (refine aw_cond rfl (fun h => ?_) (fun h => ?_) <;> try (exfalso; first | (simp at h; done) | (simp at h; omega))) | ((with_reducible refine And.intro ?_ ?_); focus (first | omega | (intros; simp_all; done) | (simp; omega)))
        exact ⟨k + 1, hlt, by omega, congrArg _ hw⟩
      · have zp : decide (ds[k] = dp) = false := decide_eq_false hxp
        have zt : decide (ds[k] = dt) = true := decide_eq_true (hx.resolve_left hxp)
        have ct0 := ct hdp callOk26F; have ct1 := ct hdt callOk26F; repeat' first | ((first | refine cK (by assumption) ?_ | refine cP (by assumption) ?_ | refine cM (by assumption) ?_ | refine callP_false (.bool false) ?_ | refine aw_region rfl ?_ | refine aw_region_draw mixedF rfl (by kernel_rfl) ?_ | refine aE rfl ?_); simp only [go_sem, hli, hp, hnn, zp, zt, inA, caA]) | refine callG_y ?_ | refine callG_p ?_ | refine aw_seq ?_ | refine aw_block ?_ | refine aw_scope ?_ | (refine aw_cond rfl (fun h => ?_) (fun h => ?_) <;> try (exfalso; first | (simp at h; done) | (simp at h; omega))) | ((with_reducible refine And.intro ?_ ?_); focus (first | omega | (intros; simp_all; done) | (simp; omega)))
        exact ⟨k + 1, hlt, by omega, congrArg _ hw⟩
    have hke : k = ds.length := by omega
    subst hke
    have hli : (((ds.length + 1 : Nat) : Int) < ((ds.length + 1 : Nat) : Int)) = False := eq_false (by omega)
    have fin : ∀ a0 : Bool, a0 = (decide (dp < 0) || decide (c.kind = 13)) → (a0 || ds.any fun y => decide (y = dp)) = true := fun a0 h => by
      rw [h]
      rcases hfst with h | h | h
      · rw [decide_eq_true h]; rfl
      · rw [decide_eq_true h, Bool.or_true]; rfl
      · rw [Bool.or_eq_true]; right; rw [List.any_eq_true]; exact ⟨_, h, by simp⟩
    have hz0 : (dp < 0) = True ∨ ((dp < 0) = False ∧ (decide (c.kind = 13) = true ∨ decide (c.kind = 13) = false)) := by
      by_cases h : dp < 0
      · exact .inl (eq_true h)
      · exact .inr ⟨eq_false h, by cases decide (c.kind = 13) <;> simp⟩
    rcases hz0 with z0 | ⟨z0, z13 | z13⟩
    · have ct0 := ct hdp callOk26F; repeat' first | ((first | refine cK (by assumption) ?_ | refine cP (by assumption) ?_ | refine cM (by assumption) ?_ | refine callP_false (.bool false) ?_ | refine aw_region rfl ?_ | refine aw_region_draw mixedF rfl (by kernel_rfl) ?_ | refine aE rfl ?_); simp only [go_sem, hli, z0, caA]) | refine callG_y ?_ | refine callG_p ?_ | refine aw_seq ?_ | refine aw_block ?_ | refine aw_scope ?_ | (refine aw_cond rfl (fun h => ?_) (fun h => ?_) <;> try (exfalso; first | (simp at h; done) | (simp at h; omega))) | ((with_reducible refine And.intro ?_ ?_); focus (first | omega | (intros; simp_all; done) | (simp; omega)))
      refine aw_loopS (ι := Nat) (fun k => [(3, .ref H.length 0 0), (5, .bool true), (6, .sl false (l.map ndA)), (7, .sl false (.int .i64 1 :: ds.map inA)), (12, .bool true), (13, .int .i64 ((k + 1 : Nat) : Int))]) (fun _ => H ++ [.cells 0 (caA c).cells]) (fun k => k ≤ ds.length) (fun k => ds.length - k) 0 (Nat.zero_le _) ?_ rfl ?_
      · simp [go_sem]
      rintro k hk
      by_cases hlt : k < ds.length
      · have hlj : (((k + 1 : Nat) : Int) < ((ds.length + 1 : Nat) : Int)) = True := eq_true (by omega)
        have hw : IntKind.i64.wrap (((k + 1 : Nat) : Int) + 1) = ((k + 2 : Nat) : Int) := by rw [wrap_i64 (by omega) (by omega)]; rfl
        repeat' first | ((first | refine callP_false (.bool false) ?_ | refine aw_region rfl ?_ | refine aw_region_draw mixedF rfl (by kernel_rfl) ?_ | refine aE rfl ?_); simp only [go_sem, hlj, caA]) | refine callG_y ?_ | refine callG_p ?_ | refine aw_seq ?_ | refine aw_block ?_ | refine aw_scope ?_ | (refine aw_cond rfl (fun h => ?_) (fun h => ?_) <;> try (exfalso; first | (simp at h; done) | (simp at h; omega))) | ((with_reducible refine And.intro ?_ ?_); focus (first | omega | (intros; simp_all; done) | (simp; omega)))
        exact ⟨k + 1, hlt, by omega, congrArg _ hw⟩
      obtain rfl : k = ds.length := by omega
      repeat' first | ((first | refine callP_false (.bool false) ?_ | refine aw_region rfl ?_ | refine aw_region_draw mixedF rfl (by kernel_rfl) ?_ | refine aE rfl ?_); simp only [go_sem, hli]) | refine callG_y ?_ | refine callG_p ?_ | refine aw_seq ?_ | refine aw_block ?_ | refine aw_scope ?_ | (refine aw_cond rfl (fun h => ?_) (fun h => ?_) <;> try (exfalso; first | (simp at h; done) | (simp at h; omega))) | ((with_reducible refine And.intro ?_ ?_); focus (first | omega | (intros; simp_all; done) | (simp; omega)))
      exact done (by simp only [go_sem]) (.refl _)
    · have ct0 := ct hdp callOk26F; repeat' first | ((first | refine cK (by assumption) ?_ | refine cP (by assumption) ?_ | refine cM (by assumption) ?_ | refine callP_false (.bool false) ?_ | refine aw_region rfl ?_ | refine aw_region_draw mixedF rfl (by kernel_rfl) ?_ | refine aE rfl ?_); simp only [go_sem, hli, z0, z13, caA]) | refine callG_y ?_ | refine callG_p ?_ | refine aw_seq ?_ | refine aw_block ?_ | refine aw_scope ?_ | (refine aw_cond rfl (fun h => ?_) (fun h => ?_) <;> try (exfalso; first | (simp at h; done) | (simp at h; omega))) | ((with_reducible refine And.intro ?_ ?_); focus (first | omega | (intros; simp_all; done) | (simp; omega)))
      refine aw_loopS (ι := Nat) (fun k => [(3, .ref H.length 0 0), (5, .bool true), (6, .sl false (l.map ndA)), (7, .sl false (.int .i64 1 :: ds.map inA)), (12, .bool true), (13, .int .i64 ((k + 1 : Nat) : Int))]) (fun _ => H ++ [.cells 0 (caA c).cells]) (fun k => k ≤ ds.length) (fun k => ds.length - k) 0 (Nat.zero_le _) ?_ rfl ?_
      · simp [go_sem]
      rintro k hk
      by_cases hlt : k < ds.length
      · have hlj : (((k + 1 : Nat) : Int) < ((ds.length + 1 : Nat) : Int)) = True := eq_true (by omega)
        have hw : IntKind.i64.wrap (((k + 1 : Nat) : Int) + 1) = ((k + 2 : Nat) : Int) := by rw [wrap_i64 (by omega) (by omega)]; rfl
        repeat' first | ((first | refine callP_false (.bool false) ?_ | refine aw_region rfl ?_ | refine aw_region_draw mixedF rfl (by kernel_rfl) ?_ | refine aE rfl ?_); simp only [go_sem, hlj, caA]) | refine callG_y ?_ | refine callG_p ?_ | refine aw_seq ?_ | refine aw_block ?_ | refine aw_scope ?_ | (refine aw_cond rfl (fun h => ?_) (fun h => ?_) <;> try (exfalso; first | (simp at h; done) | (simp at h; omega))) | ((with_reducible refine And.intro ?_ ?_); focus (first | omega | (intros; simp_all; done) | (simp; omega)))
        exact ⟨k + 1, hlt, by omega, congrArg _ hw⟩
      obtain rfl : k = ds.length := by omega
      repeat' first | ((first | refine callP_false (.bool false) ?_ | refine aw_region rfl ?_ | refine aw_region_draw mixedF rfl (by kernel_rfl) ?_ | refine aE rfl ?_); simp only [go_sem, hli]) | refine callG_y ?_ | refine callG_p ?_ | refine aw_seq ?_ | refine aw_block ?_ | refine aw_scope ?_ | (refine aw_cond rfl (fun h => ?_) (fun h => ?_) <;> try (exfalso; first | (simp at h; done) | (simp at h; omega))) | ((with_reducible refine And.intro ?_ ?_); focus (first | omega | (intros; simp_all; done) | (simp; omega)))
      exact done (by simp only [go_sem]) (.refl _)
    · have ct0 := ct hdp callOk26F; repeat' first | ((first | refine cK (by assumption) ?_ | refine cP (by assumption) ?_ | refine cM (by assumption) ?_ | refine callP_false (.bool false) ?_ | refine aw_region rfl ?_ | refine aw_region_draw mixedF rfl (by kernel_rfl) ?_ | refine aE rfl ?_); simp only [go_sem, hli, z0, z13, caA]) | refine callG_y ?_ | refine callG_p ?_ | refine aw_seq ?_ | refine aw_block ?_ | refine aw_scope ?_ | (refine aw_cond rfl (fun h => ?_) (fun h => ?_) <;> try (exfalso; first | (simp at h; done) | (simp at h; omega))) | ((with_reducible refine And.intro ?_ ?_); focus (first | omega | (intros; simp_all; done) | (simp; omega)))
      refine aw_loopS (ι := Nat) (fun k => [(3, .ref H.length 0 0), (5, .bool true), (6, .sl false (l.map ndA)), (7, .sl false (.int .i64 1 :: ds.map inA)), (12, .bool ((ds.take k).any fun y => decide (y = dp))), (13, .int .i64 ((k + 1 : Nat) : Int))]) (fun _ => H ++ [.cells 0 (caA c).cells]) (fun k => k ≤ ds.length) (fun k => ds.length - k) 0 (Nat.zero_le _) ?_ rfl ?_
      · simp [go_sem]
      rintro k hk
      by_cases hlt : k < ds.length
      · have hlj : (((k + 1 : Nat) : Int) < ((ds.length + 1 : Nat) : Int)) = True := eq_true (by omega)
        have hw : IntKind.i64.wrap (((k + 1 : Nat) : Int) + 1) = ((k + 2 : Nat) : Int) := by rw [wrap_i64 (by omega) (by omega)]; rfl
        have hp := getD_map inA hlt
        have hst := any_o hlt dp
        generalize (ds.take k).any (fun y => decide (y = dp)) = i at *
        cases i with
        | true =>
          have ct0 := ct hdp callOk26F; repeat' first | ((first | refine cK (by assumption) ?_ | refine cP (by assumption) ?_ | refine cM (by assumption) ?_ | refine callP_false (.bool false) ?_ | refine aw_region rfl ?_ | refine aw_region_draw mixedF rfl (by kernel_rfl) ?_ | refine aE rfl ?_); simp only [go_sem, hlj, hp, inA, caA]) | refine callG_y ?_ | refine callG_p ?_ | refine aw_seq ?_ | refine aw_block ?_ | refine aw_scope ?_ | (refine aw_cond rfl (fun h => ?_) (fun h => ?_) <;> try (exfalso; first | (simp at h; done) | (simp at h; omega))) | ((with_reducible refine And.intro ?_ ?_); focus (first | omega | (intros; simp_all; done) | (simp; omega)))
          exact ⟨k + 1, hlt, by omega, by rw [hst, Bool.true_or], congrArg _ hw⟩
        | false =>
          have ct0 := ct hdp callOk26F; repeat' first | ((first | refine cK (by assumption) ?_ | refine cP (by assumption) ?_ | refine cM (by assumption) ?_ | refine callP_false (.bool false) ?_ | refine aw_region rfl ?_ | refine aw_region_draw mixedF rfl (by kernel_rfl) ?_ | refine aE rfl ?_); simp only [go_sem, hlj, hp, inA, caA]) | refine callG_y ?_ | refine callG_p ?_ | refine aw_seq ?_ | refine aw_block ?_ | refine aw_scope ?_ | (refine aw_cond rfl (fun h => ?_) (fun h => ?_) <;> try (exfalso; first | (simp at h; done) | (simp at h; omega))) | ((with_reducible refine And.intro ?_ ?_); focus (first | omega | (intros; simp_all; done) | (simp; omega)))
          exact ⟨k + 1, hlt, by omega, by rw [hst, Bool.false_or], congrArg _ hw⟩
      obtain rfl : k = ds.length := by omega
      have hend := fin false (by rw [z13, decide_eq_false (fun h => by rw [z0] at h; exact h)]; rfl)
      rw [Bool.false_or] at hend
      rw [List.take_length, hend]
      repeat' first | ((first | refine callP_false (.bool false) ?_ | refine aw_region rfl ?_ | refine aw_region_draw mixedF rfl (by kernel_rfl) ?_ | refine aE rfl ?_); simp only [go_sem, hli]) | refine callG_y ?_ | refine callG_p ?_ | refine aw_seq ?_ | refine aw_block ?_ | refine aw_scope ?_ | (refine aw_cond rfl (fun h => ?_) (fun h => ?_) <;> try (exfalso; first | (simp at h; done) | (simp at h; omega))) | ((with_reducible refine And.intro ?_ ?_); focus (first | omega | (intros; simp_all; done) | (simp; omega)))
      exact done (by simp only [go_sem]) (.refl _)
end Go.Proofs.YtmknmapgfjmioaaGreatDoor

/- The texts 6 of 7 beneath the rows of this seat (joined by program): the abstract machine, and what the functions answer. No condition. -/
import Derived.Test.YtmknmapgfjmioaaGreatDoorWorkE
import Derived.Lib.MapLaws
set_option linter.unusedSimpArgs false
set_option linter.unusedVariables false
set_option linter.unusedSectionVars false
/- Sorting of operations in memory: SortStableFunc, CompactFunc. No condition. -/
namespace Go.Proofs.YtmknmapgfjmioaaGreatDoor
open Go Go.Aw Go.Gw Go.Srt
set_option linter.unusedSimpArgs false
set_option maxRecDepth 20000
set_option maxHeartbeats 4000000

/-- Pieces of a length, each in order. -/
def Pcs (lt : Opn → Opn → Bool) (s : Nat) (Ps : List (List Opn)) : Prop := ∀ c ∈ Ps, c.length = s ∧ Sd lt c

structure Sta (lt : Opn → Opn → Bool) (D : List Opn) (n : Nat) (x : Nat × List (List Opn) × List Opn) : Prop where
  s1 : 1 ≤ x.1
  s2 : x.1 ≤ 2 * n + 20
  fs : Fs lt D (x.2.1.flatten ++ x.2.2)
  pc : Pcs lt x.1 x.2.1
  tl : x.2.2.length < x.1
  ts : Sd lt x.2.2

structure Stb (lt : Opn → Opn → Bool) (D : List Opn) (s : Nat) (T : List Opn) (x : List (List Opn) × List (List Opn)) : Prop where
  fs : Fs lt D (x.1.flatten ++ (x.2.flatten ++ T))
  pc : Pcs lt (2 * s) x.1
  rc : Pcs lt s x.2

theorem stable_c {lt : Opn → Opn → Bool} {c : Opn → Opn → Int} (hw : SWO lt) (hc : ∀ x y, decide (c x y < 0) = lt x y) (fn : Fn) (fs cs : List AV) (hf : CmpC Tryz.prog (.func fn fs cs) c) (blk v lc n : Nat) (hl : n ≤ 1000000000) (D : List Opn) (hn : n = D.length) (H : AHeap)
    (hh : hget H blk = .cells v (fl D)) :
    ACalls Tryz.prog 74 [.osl 7 blk v 0 n lc, .int .i64 n, .func fn fs cs] H (fun r H' => r = .tup [] ∧ ∃ S, Fs lt D S ∧ Sd lt S ∧ H' = hset H blk (.cells v (fl S))) := by
  refine acalls_of Tryz.func74 rfl (Nat.le_of_ble_eq_true rfl) ?_
  have hset1 := fun b => hget_of hh trivial b
  have hset2 := hset_set H blk
  repeat' first | ((first | refine callP_false (.bool false) ?_ | refine aw_region rfl ?_ | refine aw_region_draw mixedF rfl (by kernel_rfl) ?_ | refine aE rfl ?_); simp only [go_sem]) | refine callG_y ?_ | refine callG_p ?_ | refine aw_seq ?_ | refine aw_block ?_ | refine aw_scope ?_ | (refine aw_cond rfl (fun h => ?_) (fun h => ?_) <;> try (exfalso; first | (simp at h; done) | (simp at h; omega))) | ((with_reducible refine And.intro ?_ ?_); focus (first | omega | (intros; simp_all; done) | (simp; omega)))
  refine aw_cutB (ι := List (List Opn) × List Opn) (fun x => [(0, .osl 7 blk v 0 n lc), (1, .int .i64 n), (2, .func fn fs cs), (6, .int .i64 20), (7, .int .i64 x.1.flatten.length)]) (fun x => hset H blk (.cells v (fl (x.1.flatten ++ x.2))))
    (fun x => Fs lt D (x.1.flatten ++ x.2) ∧ Pcs lt 20 x.1 ∧ x.2.length < 20) ?_ ?_
  · refine aw_loopS (ι := List (List Opn) × List Opn) (fun x => [(0, .osl 7 blk v 0 n lc), (1, .int .i64 n), (2, .func fn fs cs), (6, .int .i64 20), (7, .int .i64 x.1.flatten.length), (8, .int .i64 (x.1.flatten.length + 20 : Nat))]) (fun x => hset H blk (.cells v (fl (x.1.flatten ++ x.2))))
      (fun x => Fs lt D (x.1.flatten ++ x.2) ∧ Pcs lt 20 x.1) (fun x => x.2.length) ([], D) ⟨.refl _, fun _ h => (by cases h)⟩ ?_ (hset_id hh trivial).symm ?_
    · simp [go_sem]
    · rintro ⟨Ps, R⟩ ⟨h1, h2⟩
      simp only at h1 h2 ⊢
      have hlen := h1.1
      rw [List.length_append, ← hn] at hlen
      by_cases h20 : R.length < 20
      · have hli : decide (((Ps.flatten.length + 20 : Nat) : Int) ≤ (n : Int)) = false := decide_eq_false (by omega)
        repeat' first | ((first | refine callP_false (.bool false) ?_ | refine aw_region rfl ?_ | refine aw_region_draw mixedF rfl (by kernel_rfl) ?_ | refine aE rfl ?_); simp only [go_sem, hli]) | refine callG_y ?_ | refine callG_p ?_ | refine aw_seq ?_ | refine aw_block ?_ | refine aw_scope ?_ | (refine aw_cond rfl (fun h => ?_) (fun h => ?_) <;> try (exfalso; first | (simp at h; done) | (simp at h; omega))) | ((with_reducible refine And.intro ?_ ?_); focus (first | omega | (intros; simp_all; done) | (simp; omega)))
        exact ⟨(Ps, R), ⟨h1, h2, h20⟩, rfl, rfl⟩
      · have hli : decide (((Ps.flatten.length + 20 : Nat) : Int) ≤ (n : Int)) = true := decide_eq_true (by omega)
        have lt20 : (R.take 20).length = 20 := by rw [List.length_take]; omega
        have ld20 : (R.drop 20).length = R.length - 20 := List.length_drop ..
        have hw2 : IntKind.i64.wrap (((Ps.flatten.length + 20 : Nat) : Int) + 20) = ((Ps.flatten.length + 20 + 20 : Nat) : Int) := wrap_nat (by omega) (by omega)
        repeat' first | ((first | refine callP_false (.bool false) ?_ | refine aw_region rfl ?_ | refine aw_region_draw mixedF rfl (by kernel_rfl) ?_ | refine aE rfl ?_); simp only [go_sem, hli]) | refine callG_y ?_ | refine callG_p ?_ | refine aw_seq ?_ | refine aw_block ?_ | refine aw_scope ?_ | (refine aw_cond rfl (fun h => ?_) (fun h => ?_) <;> try (exfalso; first | (simp at h; done) | (simp at h; omega))) | ((with_reducible refine And.intro ?_ ?_); focus (first | omega | (intros; simp_all; done) | (simp; omega)))
        refine callK_of (insSort_c (X := Ps.flatten) (M := R.take 20) (Y := R.drop 20) (a := (Ps.flatten.length : Int)) (b := ((Ps.flatten.length + 20 : Nat) : Int)) hw hc (by rw [List.take_append_drop]) (by rw [List.length_append]; exact hlen.symm) rfl (by rw [lt20]) _ _ _ hf _ _ _ _ (hset1 _) hl) callOk93F ?_
        rintro r H' ⟨rfl, S, s1, s2, rfl⟩
        simp only [go_sem, hset2]
        repeat' first | ((first | refine callP_false (.bool false) ?_ | refine aw_region rfl ?_ | refine aw_region_draw mixedF rfl (by kernel_rfl) ?_ | refine aE rfl ?_); simp only [go_sem, hw2]) | refine callG_y ?_ | refine callG_p ?_ | refine aw_seq ?_ | refine aw_block ?_ | refine aw_scope ?_ | (refine aw_cond rfl (fun h => ?_) (fun h => ?_) <;> try (exfalso; first | (simp at h; done) | (simp at h; omega))) | ((with_reducible refine And.intro ?_ ?_); focus (first | omega | (intros; simp_all; done) | (simp; omega)))
        have lS := s1.1
        have e : (Ps ++ [S]).flatten = Ps.flatten ++ S := by simp
        refine ⟨(Ps ++ [S], R.drop 20), ⟨?_, ?_⟩, by simp only; omega, ?_, ?_⟩
        · simp only [e, List.append_assoc]
          refine h1.trans ?_
          have q := (Fs.refl (lt := lt) Ps.flatten).app (s1.app (.refl (R.drop 20)))
          rw [List.take_append_drop] at q
          exact q
        · intro x hx
          rcases List.mem_append.1 hx with hx | hx
          · exact h2 x hx
          · rw [List.mem_singleton] at hx; subst hx; exact ⟨by rw [lS, lt20], s2⟩
        · simp only [e, List.length_append]
          have : S.length = 20 := by omega
          rw [this]; exact ⟨rfl, rfl⟩
        · simp only [e, List.append_assoc]
  · rintro ⟨Ps, R⟩ ⟨h1, h2, h3⟩
    simp only at h1 h2 h3 ⊢
    have hlen := h1.1
    rw [List.length_append, ← hn] at hlen
    repeat' first | ((first | refine callP_false (.bool false) ?_ | refine aw_region rfl ?_ | refine aw_region_draw mixedF rfl (by kernel_rfl) ?_ | refine aE rfl ?_); simp only [go_sem]) | refine callG_y ?_ | refine callG_p ?_ | refine aw_seq ?_ | refine aw_block ?_ | refine aw_scope ?_ | (refine aw_cond rfl (fun h => ?_) (fun h => ?_) <;> try (exfalso; first | (simp at h; done) | (simp at h; omega))) | ((with_reducible refine And.intro ?_ ?_); focus (first | omega | (intros; simp_all; done) | (simp; omega)))
    refine callK_of (insSort_c (X := Ps.flatten) (M := R) (Y := []) (a := (Ps.flatten.length : Int)) (b := (n : Int)) hw hc (by rw [List.append_nil]) (by rw [List.length_append]; exact hlen.symm) rfl (by rw [hlen]) _ _ _ hf _ _ _ _ (hset1 _) hl) callOk93F ?_
    rintro r H' ⟨rfl, S, s1, s2, rfl⟩
    simp only [go_sem, hset2]
    repeat' first | ((first | refine callP_false (.bool false) ?_ | refine aw_region rfl ?_ | refine aw_region_draw mixedF rfl (by kernel_rfl) ?_ | refine aE rfl ?_); simp only [go_sem]) | refine callG_y ?_ | refine callG_p ?_ | refine aw_seq ?_ | refine aw_block ?_ | refine aw_scope ?_ | (refine aw_cond rfl (fun h => ?_) (fun h => ?_) <;> try (exfalso; first | (simp at h; done) | (simp at h; omega))) | ((with_reducible refine And.intro ?_ ?_); focus (first | omega | (intros; simp_all; done) | (simp; omega)))
    refine aw_loopS (ι := Nat × List (List Opn) × List Opn) (fun x => [(0, .osl 7 blk v 0 n lc), (1, .int .i64 n), (2, .func fn fs cs), (6, .int .i64 x.1)]) (fun x => hset H blk (.cells v (fl (x.2.1.flatten ++ x.2.2))))
      (Sta lt D n) (fun x => n - x.1) (20, Ps, S) ⟨by simp only; omega, by simp only; omega, h1.trans ((Fs.refl (lt := lt) Ps.flatten).app s1), h2, by have := s1.1; simp only; omega, s2⟩ ?_ ?_ ?_
    · simp [go_sem]
    · rfl
    · rintro ⟨s, Ps, T⟩ ⟨g1, g2, g3, g4, g5, g6⟩
      simp only at g1 g2 g3 g4 g5 g6 ⊢
      have hlen := g3.1
      rw [List.length_append, ← hn] at hlen
      by_cases hsn : s < n
      · have hli : decide ((s : Int) < (n : Int)) = true := decide_eq_true (by omega)
        have hw2 : IntKind.i64.wrap (2 * (s : Int)) = ((2 * s : Nat) : Int) := wrap_nat (by omega) (by omega)
        have hw2' : IntKind.i64.wrap ((s : Int) * 2) = ((2 * s : Nat) : Int) := wrap_nat (by omega) (by omega)
        repeat' first | ((first | refine callP_false (.bool false) ?_ | refine aw_region rfl ?_ | refine aw_region_draw mixedF rfl (by kernel_rfl) ?_ | refine aE rfl ?_); simp only [go_sem, hli, hw2]) | refine callG_y ?_ | refine callG_p ?_ | refine aw_seq ?_ | refine aw_block ?_ | refine aw_scope ?_ | (refine aw_cond rfl (fun h => ?_) (fun h => ?_) <;> try (exfalso; first | (simp at h; done) | (simp at h; omega))) | ((with_reducible refine And.intro ?_ ?_); focus (first | omega | (intros; simp_all; done) | (simp; omega)))
        refine aw_loopS (ι := List (List Opn) × List (List Opn)) (fun x => [(0, .osl 7 blk v 0 n lc), (1, .int .i64 n), (2, .func fn fs cs), (6, .int .i64 s), (7, .int .i64 x.1.flatten.length), (8, .int .i64 (x.1.flatten.length + 2 * s : Nat))]) (fun x => hset H blk (.cells v (fl (x.1.flatten ++ (x.2.flatten ++ T)))))
          (Stb lt D s T) (fun x => x.2.length) ([], Ps) ⟨g3, fun _ h => (by cases h), g4⟩ ?_ rfl ?_
        · simp [go_sem]
        · rintro ⟨Qs, Rs⟩ ⟨k1, k2, k3⟩
          simp only at k1 k2 k3 ⊢
          have kl := k1.1
          rw [List.length_append, List.length_append, ← hn] at kl
          have hw3 : IntKind.i64.wrap ((Qs.flatten.length : Int) + (s : Int)) = ((Qs.flatten.length + s : Nat) : Int) := wrap_nat (by omega) (by omega)
          have hw4 : IntKind.i64.wrap (((Qs.flatten.length + 2 * s : Nat) : Int) + ((2 * s : Nat) : Int)) = ((Qs.flatten.length + 2 * s + 2 * s : Nat) : Int) := wrap_nat (by omega) (by omega)
          cases Rs with
          | nil =>
            have e0 : ([] : List (List Opn)).flatten = [] := rfl
            rw [e0, List.length_nil] at kl
            have hli2 : decide (((Qs.flatten.length + 2 * s : Nat) : Int) ≤ (n : Int)) = false := decide_eq_false (by omega)
            have hli3 : decide (((Qs.flatten.length + s : Nat) : Int) < (n : Int)) = false := decide_eq_false (by omega)
            repeat' first | ((first | refine callP_false (.bool false) ?_ | refine aw_region rfl ?_ | refine aw_region_draw mixedF rfl (by kernel_rfl) ?_ | refine aE rfl ?_); simp only [go_sem, hli2, hw3, hli3, hw2']) | refine callG_y ?_ | refine callG_p ?_ | refine aw_seq ?_ | refine aw_block ?_ | refine aw_scope ?_ | (refine aw_cond rfl (fun h => ?_) (fun h => ?_) <;> try (exfalso; first | (simp at h; done) | (simp at h; omega))) | ((with_reducible refine And.intro ?_ ?_); focus (first | omega | (intros; simp_all; done) | (simp; omega)))
            exact ⟨(2 * s, Qs, T), ⟨by simp only; omega, by simp only; omega, k1, k2, by simp only; omega, g6⟩, by simp only; omega, rfl, rfl⟩
          | cons r1 Rs =>
            have f1 : (r1 :: Rs).flatten = r1 ++ Rs.flatten := rfl
            obtain ⟨q1, q2⟩ := k3 r1 (by simp)
            rw [f1, List.length_append] at kl
            cases Rs with
            | nil =>
              have e0 : ([] : List (List Opn)).flatten = [] := rfl
              rw [e0, List.length_nil] at kl
              have e1 : Qs.flatten ++ ([r1].flatten ++ T) = Qs.flatten ++ (r1 ++ T) := by simp
              have hli2 : decide (((Qs.flatten.length + 2 * s : Nat) : Int) ≤ (n : Int)) = false := decide_eq_false (by omega)
              by_cases hT : T.length = 0
              · have hli3 : decide (((Qs.flatten.length + s : Nat) : Int) < (n : Int)) = false := decide_eq_false (by omega)
                have hT0 := List.eq_nil_of_length_eq_zero hT
                repeat' first | ((first | refine callP_false (.bool false) ?_ | refine aw_region rfl ?_ | refine aw_region_draw mixedF rfl (by kernel_rfl) ?_ | refine aE rfl ?_); simp only [go_sem, hli2, hw3, hli3, hw2']) | refine callG_y ?_ | refine callG_p ?_ | refine aw_seq ?_ | refine aw_block ?_ | refine aw_scope ?_ | (refine aw_cond rfl (fun h => ?_) (fun h => ?_) <;> try (exfalso; first | (simp at h; done) | (simp at h; omega))) | ((with_reducible refine And.intro ?_ ?_); focus (first | omega | (intros; simp_all; done) | (simp; omega)))
                refine ⟨(2 * s, Qs, r1), ⟨by simp only; omega, by simp only; omega, ?_, k2, by simp only; omega, q2⟩, by simp only; omega, rfl, ?_⟩
                · simp only; rw [e1, hT0, List.append_nil] at k1; exact k1
                · rw [e1, hT0, List.append_nil]
              · have hli3 : decide (((Qs.flatten.length + s : Nat) : Int) < (n : Int)) = true := decide_eq_true (by omega)
                rw [e1] at k1 ⊢
                repeat' first | ((first | refine callP_false (.bool false) ?_ | refine aw_region rfl ?_ | refine aw_region_draw mixedF rfl (by kernel_rfl) ?_ | refine aE rfl ?_); simp only [go_sem, hli2, hw3, hli3, hw2']) | refine callG_y ?_ | refine callG_p ?_ | refine aw_seq ?_ | refine aw_block ?_ | refine aw_scope ?_ | (refine aw_cond rfl (fun h => ?_) (fun h => ?_) <;> try (exfalso; first | (simp at h; done) | (simp at h; omega))) | ((with_reducible refine And.intro ?_ ?_); focus (first | omega | (intros; simp_all; done) | (simp; omega)))
                refine callK_of (sym_c hw hc _ _ _ hf blk v lc n hl _ (X := Qs.flatten) (A := r1) (B := T) (Y := []) (a := (Qs.flatten.length : Int)) (m := ((Qs.flatten.length + s : Nat) : Int)) (b := (n : Int)) (Nat.le_refl _) (by rw [List.append_nil]) q2 g6 (by omega) (by omega) (by rw [hn]; exact k1.1.symm) rfl (by rw [q1]) (by omega) _ (hset1 _)) callOk94F ?_
                rintro r H' ⟨rfl, S', s1', s2', rfl⟩
                simp only [go_sem, hset2]
                repeat' first | ((first | refine callP_false (.bool false) ?_ | refine aw_region rfl ?_ | refine aw_region_draw mixedF rfl (by kernel_rfl) ?_ | refine aE rfl ?_); simp only [go_sem, hw2']) | refine callG_y ?_ | refine callG_p ?_ | refine aw_seq ?_ | refine aw_block ?_ | refine aw_scope ?_ | (refine aw_cond rfl (fun h => ?_) (fun h => ?_) <;> try (exfalso; first | (simp at h; done) | (simp at h; omega))) | ((with_reducible refine And.intro ?_ ?_); focus (first | omega | (intros; simp_all; done) | (simp; omega)))
                have := s1'.1
                rw [List.length_append] at this
                refine ⟨(2 * s, Qs, S'), ⟨by simp only; omega, by simp only; omega, ?_, k2, by simp only; omega, s2'⟩, by simp only; omega, rfl, by simp only [List.append_nil]⟩
                exact k1.trans ((Fs.refl (lt := lt) Qs.flatten).app s1')
            | cons r2 Rs =>
              have f2 : (r2 :: Rs).flatten = r2 ++ Rs.flatten := rfl
              obtain ⟨q3, q4⟩ := k3 r2 (by simp)
              rw [f2, List.length_append] at kl
              have e1 : Qs.flatten ++ ((r1 :: r2 :: Rs).flatten ++ T) = Qs.flatten ++ (r1 ++ (r2 ++ (Rs.flatten ++ T))) := by rw [f1, f2]; simp only [List.append_assoc]
              have hli2 : decide (((Qs.flatten.length + 2 * s : Nat) : Int) ≤ (n : Int)) = true := decide_eq_true (by omega)
              rw [e1] at k1 ⊢
              repeat' first | ((first | refine callP_false (.bool false) ?_ | refine aw_region rfl ?_ | refine aw_region_draw mixedF rfl (by kernel_rfl) ?_ | refine aE rfl ?_); simp only [go_sem, hli2, hw3, hw2, hw4]) | refine callG_y ?_ | refine callG_p ?_ | refine aw_seq ?_ | refine aw_block ?_ | refine aw_scope ?_ | (refine aw_cond rfl (fun h => ?_) (fun h => ?_) <;> try (exfalso; first | (simp at h; done) | (simp at h; omega))) | ((with_reducible refine And.intro ?_ ?_); focus (first | omega | (intros; simp_all; done) | (simp; omega)))
              refine callK_of (sym_c hw hc _ _ _ hf blk v lc n hl _ (X := Qs.flatten) (A := r1) (B := r2) (Y := Rs.flatten ++ T) (a := (Qs.flatten.length : Int)) (m := ((Qs.flatten.length + s : Nat) : Int)) (b := ((Qs.flatten.length + 2 * s : Nat) : Int)) (Nat.le_refl _) rfl q2 q4 (by omega) (by omega) (by rw [hn]; exact k1.1.symm) rfl (by rw [q1]) (by omega) _ (hset1 _)) callOk94F ?_
              rintro r H' ⟨rfl, S', s1', s2', rfl⟩
              simp only [go_sem, hset2]
              repeat' first | ((first | refine callP_false (.bool false) ?_ | refine aw_region rfl ?_ | refine aw_region_draw mixedF rfl (by kernel_rfl) ?_ | refine aE rfl ?_); simp only [go_sem, hw2, hw4]) | refine callG_y ?_ | refine callG_p ?_ | refine aw_seq ?_ | refine aw_block ?_ | refine aw_scope ?_ | (refine aw_cond rfl (fun h => ?_) (fun h => ?_) <;> try (exfalso; first | (simp at h; done) | (simp at h; omega))) | ((with_reducible refine And.intro ?_ ?_); focus (first | omega | (intros; simp_all; done) | (simp; omega)))
              have lS := s1'.1
              rw [List.length_append] at lS
              have e : (Qs ++ [S']).flatten = Qs.flatten ++ S' := by simp
              refine ⟨(Qs ++ [S'], Rs), ⟨?_, ?_, fun x hx => k3 x (by simp [hx])⟩, by simp only [List.length_cons]; omega, ?_, ?_⟩
              · simp only [e, List.append_assoc]
                have q := (Fs.refl (lt := lt) Qs.flatten).app (s1'.app (.refl (Rs.flatten ++ T)))
                simp only [List.append_assoc] at q
                exact k1.trans q
              · intro x hx
                rcases List.mem_append.1 hx with hx | hx
                · exact k2 x hx
                · rw [List.mem_singleton] at hx; subst hx; exact ⟨by omega, s2'⟩
              · simp only [e, List.length_append]
                have : S'.length = 2 * s := by omega
                rw [this]; exact ⟨rfl, congrArg _ (congrArg _ (by omega))⟩
              · simp only [e, List.append_assoc]
      · have hli : decide ((s : Int) < (n : Int)) = false := decide_eq_false (by omega)
        repeat' first | ((first | refine callP_false (.bool false) ?_ | refine aw_region rfl ?_ | refine aw_region_draw mixedF rfl (by kernel_rfl) ?_ | refine aE rfl ?_); simp only [go_sem, hli]) | refine callG_y ?_ | refine callG_p ?_ | refine aw_seq ?_ | refine aw_block ?_ | refine aw_scope ?_ | (refine aw_cond rfl (fun h => ?_) (fun h => ?_) <;> try (exfalso; first | (simp at h; done) | (simp at h; omega))) | ((with_reducible refine And.intro ?_ ?_); focus (first | omega | (intros; simp_all; done) | (simp; omega)))
        refine doneSet (clb_fl _ _ _) _ ⟨rfl, _, g3, ?_, rfl⟩
        cases Ps with
        | nil => exact g6
        | cons p Ps =>
          obtain ⟨q1, q2⟩ := g4 p (by simp)
          have f1 : (p :: Ps).flatten = p ++ Ps.flatten := rfl
          rw [f1, List.length_append] at hlen
          have e1 := List.eq_nil_of_length_eq_zero (show Ps.flatten.length = 0 by omega)
          have e2 := List.eq_nil_of_length_eq_zero (show T.length = 0 by omega)
          rw [f1, e1, e2, List.append_nil, List.append_nil]
          exact q2

theorem sortS_c {lt : Opn → Opn → Bool} {c : Opn → Opn → Int} (hw : SWO lt) (hc : ∀ x y, decide (c x y < 0) = lt x y) (fn : Fn) (fs cs : List AV) (hf : CmpC Tryz.prog (.func fn fs cs) c) (blk v lc n : Nat) (hl : n ≤ 1000000000) (D : List Opn) (hn : n = D.length) (H : AHeap)
    (hh : hget H blk = .cells v (fl D)) :
    ACalls Tryz.prog 47 [.osl 7 blk v 0 n lc, .func fn fs cs] H (fun r H' => r = .tup [] ∧ ∃ S, Fs lt D S ∧ Sd lt S ∧ H' = hset H blk (.cells v (fl S))) := by
  refine acalls_of Tryz.func47 rfl (Nat.le_of_ble_eq_true rfl) ?_
  repeat' first | ((first | refine callP_false (.bool false) ?_ | refine aw_region rfl ?_ | refine aw_region_draw mixedF rfl (by kernel_rfl) ?_ | refine aE rfl ?_); simp only [go_sem, hh]) | refine callG_y ?_ | refine callG_p ?_ | refine aw_seq ?_ | refine aw_block ?_ | refine aw_scope ?_ | (refine aw_cond rfl (fun h => ?_) (fun h => ?_) <;> try (exfalso; first | (simp at h; done) | (simp at h; omega))) | ((with_reducible refine And.intro ?_ ?_); focus (first | omega | (intros; simp_all; done) | (simp; omega)))
  refine callK_of (stable_c hw hc _ _ _ hf blk v lc n hl D hn H hh) callOk74F ?_
  rintro r H' ⟨rfl, S, s1, s2, rfl⟩
  simp only [go_sem]
  exact doneSet (clb_fl _ _ _) _ ⟨rfl, S, s1, s2, rfl⟩
end Go.Proofs.YtmknmapgfjmioaaGreatDoor
namespace Go.Proofs.YtmknmapgfjmioaaGreatDoor
open Go Go.Aw Go.Gw Go.Srt
set_option linter.unusedSimpArgs false
set_option maxRecDepth 20000
set_option maxHeartbeats 4000000

theorem compact_c (f : AV) {fn : Fn} {fs cs : List AV} (hfe : f = .func fn fs cs) (hf : TestC Tryz.prog f (fun a b => decide (a.at_ = b.at_))) (blk v lc n : Nat) (hlc : n ≤ lc) (hl : n ≤ 1000000000) (D : List Opn) (hn : n = D.length) (H : AHeap)
    (hh : hget H blk = .cells v (fl D)) :
    ACalls Tryz.prog 50 [.osl 7 blk v 0 n lc, f] H (fun r H' => r = .osl 7 blk v 0 (cpt D).length lc ∧ ∃ rest, H' = hset H blk (.cells v (fl (cpt D) ++ rest))) := by
  refine acalls_of Tryz.func50 rfl (Nat.le_of_ble_eq_true rfl) ?_
  have hset1 := fun b => hget_of hh trivial b
  have hset2 := hset_set H blk
  subst hfe
  have hbl : blk < H.length := hget_lt hh trivial
  have same : cpt D = D → ∃ H1 L y, H = H1 ++ L ∧ H1.length = H.length ∧ (∀ (i : Nat) (b : ABlk), H1[i]? = some b → H[i]? = some b ∨ ClB H.length b) ∧ Frz H.length H (.osl 7 blk v 0 n lc) y ∧ y = .osl 7 blk v 0 (cpt D).length lc ∧ ∃ rest, H1 = hset H blk (.cells v (fl (cpt D) ++ rest)) := by
    intro e
    refine ⟨H, [], _, (List.append_nil _).symm, rfl, fun _ _ h => .inl h, .cl _ (.osl _ _ _ _ _ _ hbl), by rw [e, hn], [], ?_⟩
    rw [e, List.append_nil]; exact (hset_id hh trivial).symm
  by_cases h2 : n < 2
  · have hli : decide ((n : Int) < 2) = true := decide_eq_true (by omega)
    repeat' first | ((first | refine callP_false (.bool false) ?_ | refine aw_region rfl ?_ | refine aw_region_draw mixedF rfl (by kernel_rfl) ?_ | refine aE rfl ?_); simp only [go_sem, hh, hli]) | refine callG_y ?_ | refine callG_p ?_ | refine aw_seq ?_ | refine aw_block ?_ | refine aw_scope ?_ | (refine aw_cond rfl (fun h => ?_) (fun h => ?_) <;> try (exfalso; first | (simp at h; done) | (simp at h; omega))) | ((with_reducible refine And.intro ?_ ?_); focus (first | omega | (intros; simp_all; done) | (simp; omega)))
    have e : cpt D = D := by
      match D, hn with
      | [], _ => rfl
      | [x], _ => rfl
      | _ :: _ :: _, hn => simp only [List.length_cons] at hn; omega
    exact same e
  · have hli : decide ((n : Int) < 2) = false := decide_eq_false (by omega)
    repeat' first | ((first | refine callP_false (.bool false) ?_ | refine aw_region rfl ?_ | refine aw_region_draw mixedF rfl (by kernel_rfl) ?_ | refine aE rfl ?_); simp only [go_sem, hh, hli]) | refine callG_y ?_ | refine callG_p ?_ | refine aw_seq ?_ | refine aw_block ?_ | refine aw_scope ?_ | (refine aw_cond rfl (fun h => ?_) (fun h => ?_) <;> try (exfalso; first | (simp at h; done) | (simp at h; omega))) | ((with_reducible refine And.intro ?_ ?_); focus (first | omega | (intros; simp_all; done) | (simp; omega)))
    refine aw_loopS (ι := Nat) (fun k => [(0, .osl 7 blk v 0 n lc), (1, .func fn fs cs), (5, .int .i64 k)]) (fun _ => H) (fun k => 1 ≤ k ∧ k ≤ n ∧ cpt (D.take k) = D.take k) (fun k => n - k) 1 ⟨Nat.le_refl _, by omega, ?_⟩ ?_ rfl ?_
    · match D, hn with
      | [], hn => rfl
      | x :: D, _ => rfl
    · simp [go_sem]
    · rintro k ⟨k1, k2, k3⟩
      by_cases hkn : k < n
      · obtain ⟨p, hp⟩ : ∃ p, p = k - 1 := ⟨_, rfl⟩
        have hw1 : IntKind.i64.wrap ((k : Int) - 1) = (p : Int) := wrap_nat (by omega) (by omega)
        have hw2 : IntKind.i64.wrap ((k : Int) + 1) = ((k + 1 : Nat) : Int) := wrap_nat (by omega) (by omega)
        have hli2 : decide ((k : Int) < (n : Int)) = true := decide_eq_true (by omega)
        have hkD : k < D.length := by omega
        have hpD : p < D.length := by omega
        have g1 := fl_at hkD
        have g2 := fl_at hpD
        have ct := cpt_take k1 hkD
        have hpe : D[k - 1]'(by omega) = D[p] := by congr 1; exact hp.symm
        rw [hpe] at ct
        have a1 : k * 7 + 7 ≤ (fl D).length := by rw [fl_len]; omega
        have a2 : p * 7 + 7 ≤ (fl D).length := by rw [fl_len]; omega
        have etk : D.take (k + 1) = D.take k ++ [D[k]] := List.take_succ_eq_append_getElem hkD
        generalize D[k] = x at *
        generalize D[p] = y at *
        repeat' first | ((first | refine callP_false (.bool false) ?_ | refine aw_region rfl ?_ | refine aw_region_draw mixedF rfl (by kernel_rfl) ?_ | refine aE rfl ?_); simp only [go_sem, hh, hli2, hw1, g1, g2]) | refine callG_y ?_ | refine callG_p ?_ | refine aw_seq ?_ | refine aw_block ?_ | refine aw_scope ?_ | (refine aw_cond rfl (fun h => ?_) (fun h => ?_) <;> try (exfalso; first | (simp at h; done) | (simp at h; omega))) | ((with_reducible refine And.intro ?_ ?_); focus (first | omega | (intros; simp_all; done) | (simp; omega)))
        (repeat' (with_reducible refine And.intro ?_ ?_)) <;> try (first | omega | rfl)
        refine callP_test hf ?_
        by_cases heq : x.at_ = y.at_
        · rw [if_pos heq, k3] at ct
          have hde : decide (x.at_ = y.at_) = true := decide_eq_true heq
          simp only [go_sem, hde]
          repeat' first | ((first | refine callP_false (.bool false) ?_ | refine aw_region rfl ?_ | refine aw_region_draw mixedF rfl (by kernel_rfl) ?_ | refine aE rfl ?_); simp only [go_sem, hde, hh]) | refine callG_y ?_ | refine callG_p ?_ | refine aw_seq ?_ | refine aw_block ?_ | refine aw_scope ?_ | (refine aw_cond rfl (fun h => ?_) (fun h => ?_) <;> try (exfalso; first | (simp at h; done) | (simp at h; omega))) | ((with_reducible refine And.intro ?_ ?_); focus (first | omega | (intros; simp_all; done) | (simp; omega)))
          (repeat' (with_reducible refine And.intro ?_ ?_)) <;> try (first | omega | rfl)
          repeat' first | ((first | refine callP_false (.bool false) ?_ | refine aw_region rfl ?_ | refine aw_region_draw mixedF rfl (by kernel_rfl) ?_ | refine aE rfl ?_); simp only [go_sem, hde, hh]) | refine callG_y ?_ | refine callG_p ?_ | refine aw_seq ?_ | refine aw_block ?_ | refine aw_scope ?_ | (refine aw_cond rfl (fun h => ?_) (fun h => ?_) <;> try (exfalso; first | (simp at h; done) | (simp at h; omega))) | ((with_reducible refine And.intro ?_ ?_); focus (first | omega | (intros; simp_all; done) | (simp; omega)))
          refine aw_loopS (ι := Nat × List Opn × List Opn) (fun s => [(0, .osl 7 blk v 0 n lc), (1, .func fn fs cs), (5, .int .i64 s.2.1.length), (6, .osl 7 blk v (k * 7) (n - k) (lc - k)), (7, .int .i64 s.1)])
            (fun s => hset H blk (.cells v (fl (s.2.1 ++ (s.2.2 ++ D.drop (k + s.1 - 1)))))) (fun s => 1 ≤ s.1 ∧ k + s.1 ≤ n ∧ s.2.1 = cpt (D.take (k + s.1)) ∧ s.2.1.length + s.2.2.length = k + s.1 - 1) (fun s => n - s.1) (1, D.take k, []) ⟨Nat.le_refl _, by simp only; omega, ct.symm, by simp only [List.length_take, List.length_nil]; omega⟩ ?_ ?_ ?_
          · simp [go_sem]; omega
          · simp only [List.nil_append, Nat.add_sub_cancel, List.take_append_drop]; exact (hset_id hh trivial).symm
          · rintro ⟨t, C, W⟩ ⟨t1, t2, t3, t4⟩
            simp only at t1 t2 t3 t4 ⊢
            obtain ⟨q, hq⟩ : ∃ q, q = t - 1 := ⟨_, rfl⟩
            have hw3 : IntKind.i64.wrap ((t : Int) - 1) = (q : Int) := wrap_nat (by omega) (by omega)
            have hw4 : IntKind.i64.wrap ((t : Int) + 1) = ((t + 1 : Nat) : Int) := wrap_nat (by omega) (by omega)
            by_cases htn : k + t < n
            · have hli3 : decide ((t : Int) < ((n - k : Nat) : Int)) = true := decide_eq_true (by omega)
              have e1 : D.drop (k + t - 1) = D[k + t - 1]'(by omega) :: D[k + t]'(by omega) :: D.drop (k + (t + 1)) := by
                rw [List.drop_eq_getElem_cons (by omega)]
                congr 1
                have : k + t - 1 + 1 = k + t := by omega
                rw [this, List.drop_eq_getElem_cons (by omega)]; rfl
              have e2 : D.drop (k + (t + 1) - 1) = D[k + t]'(by omega) :: D.drop (k + (t + 1)) := by
                have : k + (t + 1) - 1 = k + t := by omega
                rw [this, List.drop_eq_getElem_cons (by omega)]; rfl
              have cs2 := cpt_take (D := D) (j := k + t) (by omega) (by omega)
              rw [← t3] at cs2
              have hdl : (D.drop (k + (t + 1))).length = n - (k + (t + 1)) := by rw [List.length_drop, hn]
              generalize D[k + t - 1]'(by omega) = b at *
              generalize D[k + t]'(by omega) = a at *
              generalize D.drop (k + (t + 1)) = Z at *
              have e3 : C ++ (W ++ D.drop (k + t - 1)) = C ++ (W ++ b :: a :: Z) := by rw [e1]
              have lE : (C ++ (W ++ b :: a :: Z)).length = n := by simp only [List.length_append, List.length_cons]; omega
              have g3 := fl_get (A := C ++ W) (x := b) (R := a :: Z) (k := k + q) (by rw [List.length_append]; omega)
              have g4 := fl_get (A := C ++ W ++ [b]) (x := a) (R := Z) (k := k + t) (by simp only [List.length_append, List.length_singleton]; omega)
              simp only [List.append_assoc, List.cons_append, List.nil_append, Nat.add_mul] at g3 g4
              have a3 : k * 7 + q * 7 + 7 ≤ (fl (C ++ (W ++ b :: a :: Z))).length := by rw [fl_len, lE]; omega
              have a4 : k * 7 + t * 7 + 7 ≤ (fl (C ++ (W ++ b :: a :: Z))).length := by rw [fl_len, lE]; omega
              rw [e3]
              repeat' first | ((first | refine callP_false (.bool false) ?_ | refine aw_region rfl ?_ | refine aw_region_draw mixedF rfl (by kernel_rfl) ?_ | refine aE rfl ?_); simp only [go_sem, hset1, hset2, hli3, hw3, g3, g4]) | refine callG_y ?_ | refine callG_p ?_ | refine aw_seq ?_ | refine aw_block ?_ | refine aw_scope ?_ | (refine aw_cond rfl (fun h => ?_) (fun h => ?_) <;> try (exfalso; first | (simp at h; done) | (simp at h; omega))) | ((with_reducible refine And.intro ?_ ?_); focus (first | omega | (intros; simp_all; done) | (simp; omega)))
              (repeat' (with_reducible refine And.intro ?_ ?_)) <;> try (first | omega | rfl)
              refine callP_test hf ?_
              by_cases hab : a.at_ = b.at_
              · have hde2 : decide (a.at_ = b.at_) = true := decide_eq_true hab
                simp only [go_sem, hde2]
                rw [if_pos hab] at cs2
                repeat' first | ((first | refine callP_false (.bool false) ?_ | refine aw_region rfl ?_ | refine aw_region_draw mixedF rfl (by kernel_rfl) ?_ | refine aE rfl ?_); simp only [go_sem, hde2, hw4]) | refine callG_y ?_ | refine callG_p ?_ | refine aw_seq ?_ | refine aw_block ?_ | refine aw_scope ?_ | (refine aw_cond rfl (fun h => ?_) (fun h => ?_) <;> try (exfalso; first | (simp at h; done) | (simp at h; omega))) | ((with_reducible refine And.intro ?_ ?_); focus (first | omega | (intros; simp_all; done) | (simp; omega)))
                refine ⟨(t + 1, C, W ++ [b]), ⟨by simp only; omega, by simp only; omega, cs2.symm, by simp only [List.length_append, List.length_singleton]; omega⟩, by simp only; omega, ⟨rfl, rfl⟩, ?_⟩
                simp only [e2, List.append_assoc, List.cons_append, List.nil_append]
              · have hde2 : decide (a.at_ = b.at_) = false := decide_eq_false hab
                simp only [go_sem, hde2]
                rw [if_neg hab] at cs2
                obtain ⟨w0, W0, hW⟩ : ∃ w0 W0, W ++ [b] = w0 :: W0 := by
                  cases W with
                  | nil => exact ⟨b, [], rfl⟩
                  | cons w0 W0 => exact ⟨w0, W0 ++ [b], rfl⟩
                have e4 : C ++ (W ++ b :: a :: Z) = C ++ w0 :: (W0 ++ a :: Z) := by
                  have : W ++ b :: a :: Z = (W ++ [b]) ++ a :: Z := by simp
                  rw [this, hW]; rfl
                have lW : W.length = W0.length := by
                  have h0 : (W ++ [b]).length = (w0 :: W0).length := by rw [hW]
                  simpa using h0
                have s1 := fl_set (A := C) (x := w0) (y := a) (R := W0 ++ a :: Z) rfl
                rw [← e4] at s1
                have a5 : C.length * 7 + 7 ≤ (fl (C ++ (W ++ b :: a :: Z))).length := by rw [fl_len, lE]; omega
                have hw5 : IntKind.i64.wrap ((C.length : Int) + 1) = ((C.length + 1 : Nat) : Int) := wrap_nat (by omega) (by omega)
                repeat' first | ((first | refine callP_false (.bool false) ?_ | refine aw_region rfl ?_ | refine aw_region_draw mixedF rfl (by kernel_rfl) ?_ | refine aE rfl ?_); simp only [go_sem, hde2, hset1, hset2, g4, s1, hw4, hw5, opC_len, opC_one]) | refine callG_y ?_ | refine callG_p ?_ | refine aw_seq ?_ | refine aw_block ?_ | refine aw_scope ?_ | (refine aw_cond rfl (fun h => ?_) (fun h => ?_) <;> try (exfalso; first | (simp at h; done) | (simp at h; omega))) | ((with_reducible refine And.intro ?_ ?_); focus (first | omega | (intros; simp_all; done) | (simp; omega)))
                (repeat' (with_reducible refine And.intro ?_ ?_)) <;> try (first | omega | rfl)
                repeat' first | ((first | refine callP_false (.bool false) ?_ | refine aw_region rfl ?_ | refine aw_region_draw mixedF rfl (by kernel_rfl) ?_ | refine aE rfl ?_); simp only [go_sem, hw4, hw5]) | refine callG_y ?_ | refine callG_p ?_ | refine aw_seq ?_ | refine aw_block ?_ | refine aw_scope ?_ | (refine aw_cond rfl (fun h => ?_) (fun h => ?_) <;> try (exfalso; first | (simp at h; done) | (simp at h; omega))) | ((with_reducible refine And.intro ?_ ?_); focus (first | omega | (intros; simp_all; done) | (simp; omega)))
                refine ⟨(t + 1, C ++ [a], W0), ⟨by simp only; omega, by simp only; omega, cs2.symm, by simp only [List.length_append, List.length_singleton]; omega⟩, by simp only; omega, ⟨by simp only [List.length_append, List.length_singleton], rfl⟩, ?_⟩
                simp only [e2, List.append_assoc, List.cons_append, List.nil_append]
            · have hli3 : decide ((t : Int) < ((n - k : Nat) : Int)) = false := decide_eq_false (by omega)
              have lE : (C ++ (W ++ D.drop (k + t - 1))).length = n := by simp only [List.length_append, List.length_drop]; omega
              have hkt : k + t = n := by omega
              rw [hkt, List.take_of_length_le (by omega)] at t3
              repeat' first | ((first | refine callP_false (.bool false) ?_ | refine aw_region rfl ?_ | refine aw_region_draw mixedF rfl (by kernel_rfl) ?_ | refine aE rfl ?_); simp only [go_sem, hset1, hset2, hli3]) | refine callG_y ?_ | refine callG_p ?_ | refine aw_seq ?_ | refine aw_block ?_ | refine aw_scope ?_ | (refine aw_cond rfl (fun h => ?_) (fun h => ?_) <;> try (exfalso; first | (simp at h; done) | (simp at h; omega))) | ((with_reducible refine And.intro ?_ ?_); focus (first | omega | (intros; simp_all; done) | (simp; omega)))
              refine ⟨by rw [fl_len, lE]; omega, ?_⟩
              repeat' first | ((first | refine callP_false (.bool false) ?_ | refine aw_region rfl ?_ | refine aw_region_draw mixedF rfl (by kernel_rfl) ?_ | refine aE rfl ?_); simp only [go_sem, hset1, hset2, hli3]) | refine callG_y ?_ | refine callG_p ?_ | refine aw_seq ?_ | refine aw_block ?_ | refine aw_scope ?_ | (refine aw_cond rfl (fun h => ?_) (fun h => ?_) <;> try (exfalso; first | (simp at h; done) | (simp at h; omega))) | ((with_reducible refine And.intro ?_ ?_); focus (first | omega | (intros; simp_all; done) | (simp; omega)))
              rw [fl_app, splice_app (fl_len C)]
              refine ⟨_, [], .osl 7 blk v 0 C.length lc, (List.append_nil _).symm, hset_len _ _ _, hset_cl fun z hz => ?_, .cl _ (.osl _ _ _ _ _ _ hbl), by rw [t3], _, by rw [t3]⟩
              rw [List.mem_append, List.mem_append] at hz
              rcases hz with hz | hz | hz
              · exact (pur_fl C z hz).cl _
              · obtain ⟨e, he, hz⟩ := List.mem_flatMap.1 hz
                rw [(List.mem_replicate.1 he).2] at hz
                exact Pur.cl (Pur.cells (by simp only [go_sem]) z hz) _
              · exact (pur_fl _ z (List.mem_of_mem_drop hz)).cl _
        · rw [if_neg heq, k3, ← etk] at ct
          have hde : decide (x.at_ = y.at_) = false := decide_eq_false heq
          simp only [go_sem, hde]
          repeat' first | ((first | refine callP_false (.bool false) ?_ | refine aw_region rfl ?_ | refine aw_region_draw mixedF rfl (by kernel_rfl) ?_ | refine aE rfl ?_); simp only [go_sem, hde, hw2]) | refine callG_y ?_ | refine callG_p ?_ | refine aw_seq ?_ | refine aw_block ?_ | refine aw_scope ?_ | (refine aw_cond rfl (fun h => ?_) (fun h => ?_) <;> try (exfalso; first | (simp at h; done) | (simp at h; omega))) | ((with_reducible refine And.intro ?_ ?_); focus (first | omega | (intros; simp_all; done) | (simp; omega)))
          exact ⟨k + 1, ⟨by omega, by omega, ct⟩, by omega, rfl⟩
      · have hke : k = n := by omega
        have hli2 : decide ((k : Int) < (n : Int)) = false := decide_eq_false (by omega)
        repeat' first | ((first | refine callP_false (.bool false) ?_ | refine aw_region rfl ?_ | refine aw_region_draw mixedF rfl (by kernel_rfl) ?_ | refine aE rfl ?_); simp only [go_sem, hh, hli2]) | refine callG_y ?_ | refine callG_p ?_ | refine aw_seq ?_ | refine aw_block ?_ | refine aw_scope ?_ | (refine aw_cond rfl (fun h => ?_) (fun h => ?_) <;> try (exfalso; first | (simp at h; done) | (simp at h; omega))) | ((with_reducible refine And.intro ?_ ?_); focus (first | omega | (intros; simp_all; done) | (simp; omega)))
        rw [hke, List.take_of_length_le (by omega)] at k3
        exact same k3
end Go.Proofs.YtmknmapgfjmioaaGreatDoor
/- What the functions of the logs answer: All, Of, Ops. No condition. -/
namespace Go.Proofs.YtmknmapgfjmioaaGreatDoor
open Go Go.Aw Go.Gw
set_option linter.unusedSimpArgs false
set_option maxRecDepth 20000
set_option maxHeartbeats 1000000

theorem cells_op (l : List Opn) : ∀ e ∈ l.map opA, e.cells.length = 7 := fun e he => by
  obtain ⟨x, _, rfl⟩ := List.mem_map.1 he; rfl
end Go.Proofs.YtmknmapgfjmioaaGreatDoor
/- What operations make: the program's Fold. No condition but the length of what comes in. -/
namespace Go.Proofs.YtmknmapgfjmioaaGreatDoor
open Go Go.Aw Go.Gw Go.Srt
set_option linter.unusedSimpArgs false
set_option maxRecDepth 20000
set_option maxHeartbeats 4000000

theorem opless_o (a b : Opn) (H : AHeap) : FnC Tryz.prog 49 [opA a, opA b] H (.bool (oLess a b)) := opless_c a b H
def cmpO (a b : Opn) : Int := if oLess a b = true then -1 else if oLess b a = true then 1 else 0
theorem cmpO_lt (a b : Opn) : decide (cmpO a b < 0) = oLess a b := by
  unfold cmpO
  cases h1 : oLess a b with
  | true => rfl
  | false => cases h2 : oLess b a <;> rfl
theorem cmpO_c (a b : Opn) (H : AHeap) : FnC Tryz.prog 48 [opA a, opA b] H (.int .i64 (cmpO a b)) := by
  refine fnC_of Tryz.func48 rfl (Nat.le_of_ble_eq_true rfl) ?_
  have h1 := opless_o a b
  have h2 := opless_o b a
  simp only [opA] at h1 h2 ⊢
  cases e1 : oLess a b with
  | true =>
    rw [e1] at h1
    have e : cmpO a b = -1 := by rw [cmpO, if_pos e1]
    have ct0 := ct h1 callOk49F; repeat' first | ((first | refine cK (by assumption) ?_ | refine cP (by assumption) ?_ | refine cM (by assumption) ?_ | refine callP_false (.bool false) ?_ | refine aw_region rfl ?_ | refine aw_region_draw mixedF rfl (by kernel_rfl) ?_ | refine aE rfl ?_); simp only [go_sem]) | refine callG_y ?_ | refine callG_p ?_ | refine aw_seq ?_ | refine aw_block ?_ | refine aw_scope ?_ | (refine aw_cond rfl (fun h => ?_) (fun h => ?_) <;> try (exfalso; first | (simp at h; done) | (simp at h; omega))) | ((with_reducible refine And.intro ?_ ?_); focus (first | omega | (intros; simp_all; done) | (simp; omega)))
    rw [e]; exact done (by simp only [go_sem]) (.refl _)
  | false =>
    rw [e1] at h1
    cases e2 : oLess b a with
    | true =>
      rw [e2] at h2
      have e : cmpO a b = 1 := by rw [cmpO, if_neg (by rw [e1]; decide), if_pos e2]
      have ct0 := ct h1 callOk49F; have ct1 := ct h2 callOk49F; repeat' first | ((first | refine cK (by assumption) ?_ | refine cP (by assumption) ?_ | refine cM (by assumption) ?_ | refine callP_false (.bool false) ?_ | refine aw_region rfl ?_ | refine aw_region_draw mixedF rfl (by kernel_rfl) ?_ | refine aE rfl ?_); simp only [go_sem]) | refine callG_y ?_ | refine callG_p ?_ | refine aw_seq ?_ | refine aw_block ?_ | refine aw_scope ?_ | (refine aw_cond rfl (fun h => ?_) (fun h => ?_) <;> try (exfalso; first | (simp at h; done) | (simp at h; omega))) | ((with_reducible refine And.intro ?_ ?_); focus (first | omega | (intros; simp_all; done) | (simp; omega)))
      rw [e]; exact done (by simp only [go_sem]) (.refl _)
    | false =>
      rw [e2] at h2
      have e : cmpO a b = 0 := by rw [cmpO, if_neg (by rw [e1]; decide), if_neg (by rw [e2]; decide)]
      have ct0 := ct h1 callOk49F; have ct1 := ct h2 callOk49F; repeat' first | ((first | refine cK (by assumption) ?_ | refine cP (by assumption) ?_ | refine cM (by assumption) ?_ | refine callP_false (.bool false) ?_ | refine aw_region rfl ?_ | refine aw_region_draw mixedF rfl (by kernel_rfl) ?_ | refine aE rfl ?_); simp only [go_sem]) | refine callG_y ?_ | refine callG_p ?_ | refine aw_seq ?_ | refine aw_block ?_ | refine aw_scope ?_ | (refine aw_cond rfl (fun h => ?_) (fun h => ?_) <;> try (exfalso; first | (simp at h; done) | (simp at h; omega))) | ((with_reducible refine And.intro ?_ ?_); focus (first | omega | (intros; simp_all; done) | (simp; omega)))
      rw [e]; exact done (by simp only [go_sem]) (.refl _)
theorem eqO_c (a b : Opn) (H : AHeap) : FnC Tryz.prog 51 [opA a, opA b] H (.bool (decide (a.at_ = b.at_))) := by
  refine fnC_of Tryz.func51 rfl (Nat.le_of_ble_eq_true rfl) ?_
  simp only [opA, ← stm_eq]
  repeat' first | ((first | refine callP_false (.bool false) ?_ | refine aw_region rfl ?_ | refine aw_region_draw mixedF rfl (by kernel_rfl) ?_ | refine aE rfl ?_); simp only [go_sem]) | refine callG_y ?_ | refine callG_p ?_ | refine aw_seq ?_ | refine aw_block ?_ | refine aw_scope ?_ | (refine aw_cond rfl (fun h => ?_) (fun h => ?_) <;> try (exfalso; first | (simp at h; done) | (simp at h; omega))) | ((with_reducible refine And.intro ?_ ?_); focus (first | omega | (intros; simp_all; done) | (simp; omega)))
  exact done (by simp only [go_sem]) (.refl _)
theorem cmpO_C : CmpC Tryz.prog (.func (.func 48) [] []) cmpO := fun a b H => Or.inl ⟨callOk48F, cmpO_c a b H⟩
theorem eqO_C : TestC Tryz.prog (.func (.func 51) [] []) (fun a b => decide (a.at_ = b.at_)) := fun a b H => Or.inl ⟨callOk51F, eqO_c a b H⟩

theorem fold_c (b : Bool) (l : List Opn) (hs : ∀ o ∈ l, OpS o) (hn : l.length ≤ 1000000) (H : AHeap) : FnC Tryz.prog 24 [.sl b (l.map opA)] H (.sl false ((foldL l).map ndA)) := by
  refine fnC_of Tryz.func24 rfl (Nat.le_of_ble_eq_true rfl) ?_
  repeat' first | ((first | refine callP_false (.bool false) ?_ | refine aw_region rfl ?_ | refine aw_region_draw mixedF rfl (by kernel_rfl) ?_ | refine aE rfl ?_); simp only [go_sem]) | refine callG_y ?_ | refine callG_p ?_ | refine aw_seq ?_ | refine aw_block ?_ | refine aw_scope ?_ | (refine aw_cond rfl (fun h => ?_) (fun h => ?_) <;> try (exfalso; first | (simp at h; done) | (simp at h; omega))) | ((with_reducible refine And.intro ?_ ?_); focus (first | omega | (intros; simp_all; done) | (simp; omega)))
  refine aw_void 3 7 rfl ?_
  refine aw_cutB (ι := AHeap × Nat) (fun x => [(3, .osl 7 H.length x.2 0 (l.filter opOk).length (l.filter opOk).length)]) (fun x => x.1) (fun x => hget x.1 H.length = .cells x.2 (fl (l.filter opOk)) ∧ x.2 ≠ 0 ∧ ∃ M, x.1 = H ++ M) ?_ ?_
  · refine aw_loopS (ι := Nat × AHeap × Nat) (fun x => [(3, .osl 7 H.length x.2.2 0 ((l.take x.1).filter opOk).length ((l.take x.1).filter opOk).length), (9, .sl b (l.map opA)), (10, .int .i64 l.length), (11, .int .i64 x.1)])
      (fun x => x.2.1) (fun x => x.1 ≤ l.length ∧ hget x.2.1 H.length = .cells x.2.2 (fl ((l.take x.1).filter opOk)) ∧ x.2.2 ≠ 0 ∧ ∃ M, x.2.1 = H ++ M) (fun x => l.length - x.1) (0, H ++ [.cells 1 []], 1) ⟨Nat.zero_le _, by simp only [go_sem]; rfl, Nat.one_ne_zero, ⟨_, rfl⟩⟩ ?_ rfl ?_
    · simp [go_sem]
    · rintro ⟨i, X, ver⟩ ⟨hi, r1, rv, rP⟩
      simp only at hi r1 rv rP ⊢
      have hX1 : H.length < X.length := hget_lt r1 trivial
      have r1' := fun M => hget_appL r1 trivial M
      have qs := fun M b => hset_appL hX1 M b
      by_cases hlt : i < l.length
      · have hp := getD_map opA hlt
        have hli : decide ((i : Int) < (l.length : Int)) = true := decide_eq_true (by omega)
        have htk : l.take (i + 1) = l.take i ++ [l[i]] := List.take_succ_eq_append_getElem hlt
        have hck := opOk_c l[i] (hs _ (List.getElem_mem hlt))
        have hfl := List.length_filter_le opOk (l.take i)
        rw [List.length_take] at hfl
        have hf : (l.take (i + 1)).filter opOk = (l.take i).filter opOk ++ (if opOk l[i] = true then [l[i]] else []) := by
          rw [htk, List.filter_append]; cases h : opOk l[i] <;> simp [h]
        have hcl := fl_len ((l.take i).filter opOk)
        simp only [opA] at hck
        generalize l[i] = o at *
        generalize hF : (l.take i).filter opOk = F at *
        cases hok : opOk o with
        | false =>
          rw [hok] at hck
          rw [hok, if_neg (by decide), List.append_nil] at hf
          have ct0 := ct hck callOk46F; repeat' first | ((first | refine cK (by assumption) ?_ | refine cP (by assumption) ?_ | refine cM (by assumption) ?_ | refine callP_false (.bool false) ?_ | refine aw_region rfl ?_ | refine aw_region_draw mixedF rfl (by kernel_rfl) ?_ | refine aE rfl ?_); simp only [go_sem, hp, opA, hli]) | refine callG_y ?_ | refine callG_p ?_ | refine aw_seq ?_ | refine aw_block ?_ | refine aw_scope ?_ | (refine aw_cond rfl (fun h => ?_) (fun h => ?_) <;> try (exfalso; first | (simp at h; done) | (simp at h; omega))) | ((with_reducible refine And.intro ?_ ?_); focus (first | omega | (intros; simp_all; done) | (simp; omega)))
          exact ⟨(i + 1, _, ver), ⟨hlt, by simp only; rw [hf]; exact r1' _, rv, pre_app rP _⟩, by simp only; omega, ⟨by simp only [hf], congrArg _ (wrap_succ hlt (by omega))⟩, rfl⟩
        | true =>
          rw [hok] at hck
          rw [hok, if_pos rfl] at hf
          have ct0 := ct hck callOk46F; repeat' first | ((first | refine cK (by assumption) ?_ | refine cP (by assumption) ?_ | refine cM (by assumption) ?_ | refine callP_false (.bool false) ?_ | refine aw_region rfl ?_ | refine aw_region_draw mixedF rfl (by kernel_rfl) ?_ | refine aE rfl ?_); simp only [go_sem, hp, opA, hli, r1', qs, hcl]) | refine callG_y ?_ | refine callG_p ?_ | refine aw_seq ?_ | refine aw_block ?_ | refine aw_scope ?_ | (refine aw_cond rfl (fun h => ?_) (fun h => ?_) <;> try (exfalso; first | (simp at h; done) | (simp at h; omega))) | ((with_reducible refine And.intro ?_ ?_); focus (first | omega | (intros; simp_all; done) | (simp; omega)))
          refine ⟨⟨rv, fun e he => by rw [he]; rfl, by omega⟩, ?_⟩
          repeat' first | ((first | refine callP_false (.bool false) ?_ | refine aw_region rfl ?_ | refine aw_region_draw mixedF rfl (by kernel_rfl) ?_ | refine aE rfl ?_); simp only [go_sem]) | refine callG_y ?_ | refine callG_p ?_ | refine aw_seq ?_ | refine aw_block ?_ | refine aw_scope ?_ | (refine aw_cond rfl (fun h => ?_) (fun h => ?_) <;> try (exfalso; first | (simp at h; done) | (simp at h; omega))) | ((with_reducible refine And.intro ?_ ?_); focus (first | omega | (intros; simp_all; done) | (simp; omega)))
          refine ⟨(i + 1, _, ver + 1), ⟨hlt, ?_, Nat.succ_ne_zero _, pre_app (pre_set rP (Nat.le_refl _) _) _⟩, by simp only; omega, ⟨by simp only [hf, List.length_append, List.length_singleton], congrArg _ (wrap_succ hlt (by omega))⟩, rfl⟩
          simp only
          rw [hf, fl_app]
          exact hget_appL (b := .cells (ver + 1) (fl F ++ fl [o])) (hget_set_eq hX1 _) trivial _
      · have hie : i = l.length := by omega
        have hli : decide ((i : Int) < (l.length : Int)) = false := decide_eq_false (by omega)
        rw [hie, List.take_length] at r1 ⊢
        rw [hie] at hli
        repeat' first | ((first | refine callP_false (.bool false) ?_ | refine aw_region rfl ?_ | refine aw_region_draw mixedF rfl (by kernel_rfl) ?_ | refine aE rfl ?_); simp only [go_sem, hli]) | refine callG_y ?_ | refine callG_p ?_ | refine aw_seq ?_ | refine aw_block ?_ | refine aw_scope ?_ | (refine aw_cond rfl (fun h => ?_) (fun h => ?_) <;> try (exfalso; first | (simp at h; done) | (simp at h; omega))) | ((with_reducible refine And.intro ?_ ?_); focus (first | omega | (intros; simp_all; done) | (simp; omega)))
        exact ⟨(X, ver), ⟨r1, rv, rP⟩, rfl, rfl⟩
  · rintro ⟨X, ver⟩ ⟨r1, rv, rP⟩
    simp only at r1 rv rP ⊢
    have hfl := List.length_filter_le opOk l
    repeat' first | ((first | refine callP_false (.bool false) ?_ | refine aw_region rfl ?_ | refine aw_region_draw mixedF rfl (by kernel_rfl) ?_ | refine aE rfl ?_); simp only [go_sem]) | refine callG_y ?_ | refine callG_p ?_ | refine aw_seq ?_ | refine aw_block ?_ | refine aw_scope ?_ | (refine aw_cond rfl (fun h => ?_) (fun h => ?_) <;> try (exfalso; first | (simp at h; done) | (simp at h; omega))) | ((with_reducible refine And.intro ?_ ?_); focus (first | omega | (intros; simp_all; done) | (simp; omega)))
    refine callK_of (sortS_c oLess_swo cmpO_lt _ _ _ cmpO_C H.length ver _ _ (by omega) (l.filter opOk) rfl X r1) callOk47F ?_
    rintro r H' ⟨rfl, S, s1, s2, rfl⟩
    simp only [go_sem]
    repeat' first | ((first | refine callP_false (.bool false) ?_ | refine aw_region rfl ?_ | refine aw_region_draw mixedF rfl (by kernel_rfl) ?_ | refine aE rfl ?_); simp only [go_sem]) | refine callG_y ?_ | refine callG_p ?_ | refine aw_seq ?_ | refine aw_block ?_ | refine aw_scope ?_ | (refine aw_cond rfl (fun h => ?_) (fun h => ?_) <;> try (exfalso; first | (simp at h; done) | (simp at h; omega))) | ((with_reducible refine And.intro ?_ ?_); focus (first | omega | (intros; simp_all; done) | (simp; omega)))
    have sl := s1.1
    rw [← sl]
    refine callK_of (compact_c _ rfl eqO_C H.length ver _ _ (Nat.le_refl _) (by omega) S rfl _ (hget_of r1 trivial _)) callOk50F ?_
    rintro r H' ⟨rfl, rest, rfl⟩
    have hcr := cpt_rSort s1 s2
    have hcl := cpt_len S
    rw [hcr] at hcl
    simp only [go_sem, hcr]
    generalize hX : hset (hset X H.length (.cells ver (fl S))) H.length (.cells ver (fl (rSort l) ++ rest)) = Z
    have rZ : hget Z H.length = .cells ver (fl (rSort l) ++ rest) := by rw [← hX, hset_set]; exact hget_of r1 trivial _
    have hZP : ∃ M, Z = H ++ M := by rw [← hX]; exact pre_set (pre_set rP (Nat.le_refl _) _) (Nat.le_refl _) _
    refine aw_freezeR [3] ((rSort l).map opA) rest (v := ver) (lc := S.length) (i := H.length) (s := 7) (cs := fl (rSort l) ++ rest) (by intro t ht; simp only [List.mem_singleton] at ht; subst ht; rw [List.length_map]; first | rfl | simp only [go_sem]) rZ rv rfl (cells_op _) ?_
    have hops : ∀ o ∈ rSort l, OpS o := fun o ho => by
      have := ((rSort_mem l).2 o).1 ho
      exact hs o (List.mem_filter.1 (List.mem_of_find?_eq_some this)).1
    have hfold : foldL l = (rSort l).foldl doL [] := rfl
    rw [hfold]
    have hZP2 := pre_set hZP (Nat.le_refl _) .gone
    generalize hset Z H.length .gone = X2 at *
    generalize rSort l = R at *
    repeat' first | ((first | refine callP_false (.bool false) ?_ | refine aw_region rfl ?_ | refine aw_region_draw mixedF rfl (by kernel_rfl) ?_ | refine aE rfl ?_); simp only [go_sem]) | refine callG_y ?_ | refine callG_p ?_ | refine aw_seq ?_ | refine aw_block ?_ | refine aw_scope ?_ | (refine aw_cond rfl (fun h => ?_) (fun h => ?_) <;> try (exfalso; first | (simp at h; done) | (simp at h; omega))) | ((with_reducible refine And.intro ?_ ?_); focus (first | omega | (intros; simp_all; done) | (simp; omega)))
    refine aw_loopS (ι := Nat × AHeap × Bool) (fun x => [(6, .sl x.2.2 (((R.take x.1).foldl doL []).map ndA)), (26, .sl false (R.map opA)), (27, .int .i64 R.length), (28, .int .i64 x.1)])
      (fun x => x.2.1) (fun x => x.1 ≤ R.length ∧ ∃ M, x.2.1 = H ++ M) (fun x => R.length - x.1) (0, X2, true) ⟨Nat.zero_le _, hZP2⟩ ?_ rfl ?_
    · simp [go_sem]
    · rintro ⟨i, Y, f⟩ ⟨hi, hP⟩
      simp only at hi hP ⊢
      by_cases hlt : i < R.length
      · have hp := getD_map opA hlt
        have hli : decide ((i : Int) < (R.length : Int)) = true := decide_eq_true (by omega)
        have htk : R.take (i + 1) = R.take i ++ [R[i]] := List.take_succ_eq_append_getElem hlt
        have hfl2 := foldl_len (R.take i) []
        rw [List.length_take, List.length_nil] at hfl2
        have hdo := do_c f ((R.take i).foldl doL []) R[i] (hops _ (List.getElem_mem hlt)) (by omega)
        have hF : (R.take (i + 1)).foldl doL [] = doL ((R.take i).foldl doL []) R[i] := by rw [htk, List.foldl_append]; rfl
        generalize R[i] = o at *
        generalize (R.take i).foldl doL [] = nn at *
        simp only [opA, unA] at hdo
        have ct0 := ct hdo callOk52F; repeat' first | ((first | refine cK (by assumption) ?_ | refine cP (by assumption) ?_ | refine cM (by assumption) ?_ | refine callP_false (.bool false) ?_ | refine aw_region rfl ?_ | refine aw_region_draw mixedF rfl (by kernel_rfl) ?_ | refine aE rfl ?_); simp only [go_sem, hp, opA, hli]) | refine callG_y ?_ | refine callG_p ?_ | refine aw_seq ?_ | refine aw_block ?_ | refine aw_scope ?_ | (refine aw_cond rfl (fun h => ?_) (fun h => ?_) <;> try (exfalso; first | (simp at h; done) | (simp at h; omega))) | ((with_reducible refine And.intro ?_ ?_); focus (first | omega | (intros; simp_all; done) | (simp; omega)))
        exact ⟨(i + 1, _, false), ⟨hlt, pre_app hP _⟩, by simp only; omega, ⟨by simp only [hF], congrArg _ (wrap_succ hlt (by omega))⟩, rfl⟩
      · have hie : i = R.length := by omega
        subst hie
        have hli : decide ((R.length : Int) < (R.length : Int)) = false := by simp
        rw [List.take_length]
        repeat' first | ((first | refine callP_false (.bool false) ?_ | refine aw_region rfl ?_ | refine aw_region_draw mixedF rfl (by kernel_rfl) ?_ | refine aE rfl ?_); simp only [go_sem, hli]) | refine callG_y ?_ | refine callG_p ?_ | refine aw_seq ?_ | refine aw_block ?_ | refine aw_scope ?_ | (refine aw_cond rfl (fun h => ?_) (fun h => ?_) <;> try (exfalso; first | (simp at h; done) | (simp at h; omega))) | ((with_reducible refine And.intro ?_ ?_); focus (first | omega | (intros; simp_all; done) | (simp; omega)))
        obtain ⟨M, hM⟩ := hP
        subst hM
        exact done (by simp only [go_sem]) (.sl _ _)
end Go.Proofs.YtmknmapgfjmioaaGreatDoor
/- The Plan laws' opening: calls whose answers are fixed. No condition. -/
namespace Go.Gw
open Go Go.Aw Go.Proofs.YtmknmapgfjmioaaGreatDoor
def mv20 (c n p : Int) (s : Txt) : Opn := ⟨⟨c, 0⟩, 1, n, p, s, []⟩
def awP : List Nd := [⟨128, 0, [97], ⟨1, 0⟩, [], st0⟩, ⟨256, 128, [98], ⟨2, 0⟩, [], st0⟩]
def awC : Cal := ⟨1, [47, 97, 47, 102], [], [], 0⟩
def awM2 : Cal := ⟨5, [47, 97, 47, 98, 47, 120], [47, 97, 47, 121], [], 0⟩
def awU : List Trn := [⟨1, 0⟩, ⟨1, 128⟩, ⟨2, 0⟩, ⟨3, 0⟩, ⟨2, 128⟩, ⟨5, 0⟩, ⟨0, 0⟩]
def awT : Nat → Thr
  | 0 => th0 awC
  | k + 1 => afterT (awT k) (awU.getD k ⟨0, 0⟩)
theorem awP_eq : foldL [mv20 1 128 0 [97], mv20 2 256 128 [98]] = awP := by decide +kernel
theorem awN_eq20 : (∀ k, k < 7 → nextT awP (awT k) = awU.getD k ⟨0, 0⟩) := by decide +kernel
theorem awT_S : ∀ k, k < 7 → (awT k).call.path.length ≤ 1048576 ∧ (awT k).call.to.length ≤ 1048576 ∧ (awT k).has.length ≤ 1048576 ∧ (awT k).ans.names.length ≤ 1048576 ∧ (awT k).ans.events.length ≤ 1048576 := by decide +kernel
theorem awT_call : (awT 7).call = awC := by decide +kernel
theorem awT_end : (awT 7).ended = true := by decide +kernel
theorem awK_eq : turnsK awC = false := by decide +kernel
theorem awW_eq : walksK awC = true := by decide +kernel
theorem awS_eq : wnames awC = [[97]] := by decide +kernel
theorem awL_eq20 : locksT awP awM2 = [1, 128, 256] := by decide +kernel
theorem awK2_eq : turnsK awM2 = true := by decide +kernel
end Go.Gw
namespace Go.Proofs.YtmknmapgfjmioaaGreatDoor
open Go Go.Aw Go.Gw
set_option linter.unusedSimpArgs false
set_option linter.unusedVariables false
set_option maxRecDepth 20000
set_option maxHeartbeats 8000000

theorem mv20_c (a b c : Int) (s : Txt) (H : AHeap) : FnC Tryz.prog 27 [.int .i64 a, .int .i64 b, .int .i64 c, .str s] H (opA (mv20 a b c s)) := by
  refine fnC_of Tryz.func27 rfl (Nat.le_of_ble_eq_true rfl) ?_
  repeat' first | ((first | refine callP_false (.bool false) ?_ | refine aw_region rfl ?_ | refine aw_region_draw mixedF rfl (by kernel_rfl) ?_ | refine aE rfl ?_); simp only [go_sem]) | refine callG_y ?_ | refine callG_p ?_ | refine aw_seq ?_ | refine aw_block ?_ | refine aw_scope ?_ | (refine aw_cond rfl (fun h => ?_) (fun h => ?_) <;> try (exfalso; first | (simp at h; done) | (simp at h; omega))) | ((with_reducible refine And.intro ?_ ?_); focus (first | omega | (intros; simp_all; done) | (simp; omega)))
  exact done (by simp only [go_sem]) (.refl _)

/-- Two blocks that a loop keeps: one that stays, one that is written over. -/
structure LH (H X : AHeap) (A B : List AV) : Prop where
  pre : ∃ M, X = H ++ M
  a : hget X H.length = .cells 0 A
  b : hget X (H.length + 1) = .cells 0 B
theorem LH.next {H X : AHeap} {A B : List AV} (h : LH H X A B) (C : List AV) (L : AHeap) : LH H (hset X (H.length + 1) (.cells 0 C) ++ L) A C := by
  have hl : H.length + 1 < X.length := hget_lt h.b trivial
  obtain ⟨M, hM⟩ := h.pre
  refine ⟨?_, hget_appL ((hget_ne h.a (by omega) _)) trivial L, hget_appL (hget_eq hl (.cells 0 C)) trivial L⟩
  rw [hM, show H.length + 1 = H.length + 1 from rfl, hset_app, List.append_assoc]
  exact ⟨_, rfl⟩
theorem LH.app {H X : AHeap} {A B : List AV} (h : LH H X A B) (L : AHeap) : LH H (X ++ L) A B := by
  obtain ⟨M, hM⟩ := h.pre
  exact ⟨⟨M ++ L, by rw [hM, List.append_assoc]⟩, hget_appL h.a trivial L, hget_appL h.b trivial L⟩
/-- One block that a loop writes over. -/
structure LH1 (H X : AHeap) (B : List AV) : Prop where
  pre : ∃ M, X = H ++ M
  b : hget X H.length = .cells 0 B
theorem LH1.next {H X : AHeap} {B : List AV} (h : LH1 H X B) (C : List AV) (L : AHeap) : LH1 H (hset X H.length (.cells 0 C) ++ L) C := by
  have hl : H.length < X.length := hget_lt h.b trivial
  obtain ⟨M, hM⟩ := h.pre
  refine ⟨?_, hget_appL (hget_eq hl (.cells 0 C)) trivial L⟩
  rw [hM, hset_app0, List.append_assoc]
  exact ⟨_, rfl⟩
theorem doneL {H X M : AHeap} {n : Nat} {v x : AV} (h : ∃ L, X = H ++ L) (hp : Pur v) (hs : Sim v x) : ∃ L' y, X ++ M = H ++ L' ∧ Frz n (X ++ M) v y ∧ y = x := by
  obtain ⟨L, rfl⟩ := h
  exact ⟨L ++ M, x, by rw [List.append_assoc], hs.frz hp, rfl⟩
theorem awake20_c (H : AHeap) : FnC Tryz.prog 5 [] H (.bool true) := by
  refine fnC_of Tryz.func5 rfl (Nat.le_of_ble_eq_true rfl) ?_
  have hmv := mv20_c
  have hfold := fold_c true [mv20 1 128 0 [97], mv20 2 256 128 [98]] (fun o ho => by
    simp only [List.mem_cons, List.not_mem_nil, or_false] at ho
    rcases ho with rfl | rfl <;> exact ⟨by decide, by decide⟩) (by decide)
  rw [awP_eq] at hfold
  simp only [opA, mv20] at hmv
  simp only [mv20, List.map_cons, List.map_nil, opA] at hfold
  have ct0 := ct hfold callOk24F; repeat' first | ((first | refine cK (by assumption) ?_ | refine cP (by assumption) ?_ | refine cM (by assumption) ?_ | refine callK_fn (hmv _ _ _ _ _) callOk27F ?_ | refine callP_fn (hmv _ _ _ _ _) callOk27F ?_ | refine callM_fn (fun _ => hmv _ _ _ _ _) callOk27F ?_ | refine callP_false (.bool false) ?_ | refine aw_region rfl ?_ | refine aw_region_draw mixedF rfl (by kernel_rfl) ?_ | refine aE rfl ?_); simp only [go_sem]) | ((with_reducible refine And.intro ?_ ?_); focus (exact callAt_of (hmv _ _ _ _ _) callOk27F)) | ((with_reducible refine And.intro (And.intro ?_ ?_) ?_); focus (exact callAt_of (hmv _ _ _ _ _) callOk27F)) | (exact callAt_of (hmv _ _ _ _ _) callOk27F) | refine callG_y ?_ | refine callG_p ?_ | refine aw_seq ?_ | refine aw_block ?_ | refine aw_scope ?_ | (refine aw_cond rfl (fun h => ?_) (fun h => ?_) <;> try (exfalso; first | (simp at h; done) | (simp at h; omega))) | ((with_reducible refine And.intro ?_ ?_); focus (first | omega | (intros; simp_all; done) | (simp; omega)))
  refine aw_loopS (ι := Nat × Bool × AHeap) (fun x => [(1, .sl false (awP.map ndA)), (2, .ref H.length 0 0), (3, .sl true (awU.map trA)), (4, .int .i64 x.1)]) (fun x => x.2.2) (fun x => x.1 ≤ 7 ∧ LH1 H x.2.2 (thA x.2.1 x.2.1 x.2.1 (awT x.1)).cells) (fun x => 7 - x.1)
    (0, true, _) ⟨Nat.zero_le _, ⟨⟨_, rfl⟩, by simp only [go_sem]; rfl⟩⟩ ?_ rfl ?_
  · simp [go_sem, awU, trA]
  · rintro ⟨k, f, X⟩ ⟨hk, hX⟩
    simp only at hk hX ⊢
    obtain ⟨hpre, r1⟩ := id hX
    by_cases hlt : k < 7
    · obtain ⟨s1, s2, s3, s4, s5⟩ := awT_S k hlt
      have hnx := next_c false f f f awP (awT k) s1 s2 (by decide)
      rw [awN_eq20 k hlt] at hnx
      have haf := after_c f f f (awT k) (awU.getD k ⟨0, 0⟩) ⟨s1, s3, s4, s5⟩
      have hT : afterT (awT k) (awU.getD k ⟨0, 0⟩) = awT (k + 1) := rfl
      rw [hT] at haf
      have hg : (awU.map trA).getD k .top = trA (awU.getD k ⟨0, 0⟩) := by
        have e : k < awU.length := hlt
        rw [getD_map trA e, List.getD_eq_getElem?_getD, List.getElem?_eq_getElem e]; rfl
      have hli : ((k : Int) < ((awU.length : Nat) : Int)) = True := eq_true (by have : awU.length = 7 := rfl; omega)
      have hself : ∀ x : Int, decide (x = x) = true := fun x => decide_eq_true rfl
      have hw : IntKind.i64.wrap ((k : Int) + 1) = ((k + 1 : Nat) : Int) := by rw [wrap_i64 (by omega) (by omega)]; rfl
      have hnt := fun L => hX.next (thA false false false (awT (k + 1))).cells L
      obtain ⟨t', ht'⟩ : ∃ t', awT (k + 1) = t' := ⟨_, rfl⟩
      rw [ht'] at haf hnt
      generalize awT k = t at *
      generalize awU.getD k ⟨0, 0⟩ = u at *
      simp only [thA, thF, trA, AV.cells] at hnx haf r1
      have r2 := fun M => hget_appL r1 trivial M
      have r3 := fun M b => hset_appL (hget_lt r1 trivial) M b
      have ct0 := ct hnx callOk14F; have ct1 := ct haf callOk17F; repeat' first | ((first | refine cK (by assumption) ?_ | refine cP (by assumption) ?_ | refine cM (by assumption) ?_ | refine callP_false (.bool false) ?_ | refine aw_region rfl ?_ | refine aw_region_draw mixedF rfl (by kernel_rfl) ?_ | refine aE rfl ?_); simp only [go_sem, r1, r2, r3, hg, hli, hself, trA]) | refine callG_y ?_ | refine callG_p ?_ | refine aw_seq ?_ | refine aw_block ?_ | refine aw_scope ?_ | (refine aw_cond rfl (fun h => ?_) (fun h => ?_) <;> try (exfalso; first | (simp at h; done) | (simp at h; omega))) | ((with_reducible refine And.intro ?_ ?_); focus (first | omega | (intros; simp_all; done) | (simp; omega)))
      exact ⟨(k + 1, false, _), ⟨hlt, by simp only [ht']; exact hnt _⟩, by simp only; omega, congrArg _ hw, rfl⟩
    · have hk7 : k = 7 := by omega
      have hli : ((k : Int) < ((awU.length : Nat) : Int)) = False := eq_false (by have : awU.length = 7 := rfl; omega)
      subst hk7
      have hcall := awT_call
      have hend := awT_end
      generalize awT 7 = t at *
      have hnm := pnames_c awC (by decide)
      have hl1 := plocks_c false awP awM2 (by decide) (by decide) (by decide)
      have hl2 := plocks_c false awP awC (by decide) (by decide) (by decide)
      have hag := again_c true true true ⟨ca0, [1], 3, true, false, 0, 0, 0, 0, an0⟩ ⟨by decide, by decide, by decide, by decide⟩
      have hs1 := same1_c false true [[97]] [[97]]
      have hs2 := nums6_c false true [1, 128, 256] [1, 128, 256]
      rw [if_pos ⟨awK_eq, awW_eq⟩, awS_eq] at hnm
      rw [awK2_eq, if_pos rfl, awL_eq20] at hl1
      rw [awK_eq, if_neg (fun h => by cases h)] at hl2
      rw [decide_eq_true rfl] at hs1 hs2
      simp only [caA, awC, List.map_cons, List.map_nil] at hnm hl2
      simp only [caA, awM2, List.map_cons, List.map_nil, inA] at hl1
      simp only [thA, thF, againT, ca0, an0, List.map_cons, List.map_nil, inA] at hag
      simp only [List.map_cons, List.map_nil, inA] at hs1 hs2
      simp only [thA, thF, AV.cells, hcall, hend, awC] at r1
      have r2 := fun M => hget_appL r1 trivial M
      have ct0 := ct hnm callOk8F; have ct1 := ct hl1 callOk10F; have ct2 := ct hl2 callOk10F; have ct3 := ct hag callOk19F; have ct4 := ct hs1 callOk12F; have ct5 := ct hs2 callOk13F; repeat' first | ((first | refine cK (by assumption) ?_ | refine cP (by assumption) ?_ | refine cM (by assumption) ?_ | refine callP_false (.bool false) ?_ | refine aw_region rfl ?_ | refine aw_region_draw mixedF rfl (by kernel_rfl) ?_ | refine aE rfl ?_); simp only [go_sem, r1, r2, hli]) | refine callG_y ?_ | refine callG_p ?_ | refine aw_seq ?_ | refine aw_block ?_ | refine aw_scope ?_ | (refine aw_cond rfl (fun h => ?_) (fun h => ?_) <;> try (exfalso; first | (simp at h; done) | (simp at h; omega))) | ((with_reducible refine And.intro ?_ ?_); focus (first | omega | (intros; simp_all; done) | (simp; omega)))
      exact doneL hpre (by simp only [go_sem]) (.refl _)
end Go.Proofs.YtmknmapgfjmioaaGreatDoor
/- What is above what, in plain Lean: of the nodes that operations make none is above itself. No condition. -/
namespace Go.Gw
open Go Go.Aw Go.Proofs.YtmknmapgfjmioaaGreatDoor

/-- What a number's node is in. -/
def par (l : List Nd) (id : Int) : Option Int := match fnd l id with | none => none | some n => if n.parent = -1 then none else some n.parent
theorem aboveN_succ (l : List Nd) (k : Nat) (id : Int) : aboveN l (k + 1) id = match par l id with | none => [] | some p => p :: aboveN l k p := by
  rw [aboveN, par]
  cases fnd l id with
  | none => rfl
  | some n => simp only; by_cases h : n.parent = -1 <;> simp [h]
/-- Nothing is above itself. -/
def Wfr (l : List Nd) : Prop := ∃ r : Int → Nat, ∀ x p, par l x = some p → r p < r x

theorem dir_pos {n : Int} (h : dirI n = true) : n ≠ -1 := by
  intro e; subst e; revert h; decide
/-- What holds of the nodes that operations make. -/
structure Frs (l : List Nd) : Prop where
  chk : chk l = true
  wf : Wfr l
  dir : ∀ n ∈ l, n.parent = -1 ∨ dirI n.parent = true
theorem fnd_mem {l : List Nd} (hs : chk l = true) {n : Nd} (hn : n ∈ l) : fnd l n.id = some n := by
  have hp := ((chk_iff l).1 hs).2
  cases h : fnd l n.id with
  | none =>
    have := List.find?_eq_none.1 h n hn
    simp at this
  | some m =>
    have h1 := List.mem_of_find?_eq_some h
    have h2 : m.id = n.id := by have := List.find?_some h; simpa using this
    obtain ⟨i, hi, rfl⟩ := List.getElem_of_mem h1
    obtain ⟨j, hj, rfl⟩ := List.getElem_of_mem hn
    rcases Nat.lt_trichotomy i j with q | q | q
    · have := List.pairwise_iff_getElem.1 hp i j hi hj q; omega
    · subst q; rfl
    · have := List.pairwise_iff_getElem.1 hp j i hj hi q; omega

end Go.Gw
/- What a call does that is alone, turn by turn, in plain Lean. No condition. -/
namespace Go.Gw
open Go Go.Aw Go.Proofs.YtmknmapgfjmioaaGreatDoor

/-- So many turns, with so many that do, of a thread that is alone. -/
inductive Runs (G : Thr → Prop) (l : List Nd) : Thr → Nat → Nat → Thr → Prop
  | nil (t : Thr) : Runs G l t 0 0 t
  | cons {t t' : Thr} {n d : Nat} (h : G t) (r : Runs G l (afterT t (nextT l t)) n d t') : Runs G l t (n + 1) ((if (nextT l t).kind = 3 then 1 else 0) + d) t'
theorem Runs.trans {G : Thr → Prop} {l : List Nd} {a b c : Thr} {n d m e : Nat} (h : Runs G l a n d b) (k : Runs G l b m e c) : Runs G l a (n + m) (d + e) c := by
  induction h with
  | nil t => simpa using k
  | @cons t t' n d h r ih => have := Runs.cons h (ih k); rw [← Nat.add_assoc] at this; rw [show n + 1 + m = n + m + 1 by omega]; exact this
theorem Runs.mono {G K : Thr → Prop} (hg : ∀ t, G t → K t) {l : List Nd} {a b : Thr} {n d : Nat} (h : Runs G l a n d b) : Runs K l a n d b := by
  induction h with
  | nil t => exact .nil t
  | cons h r ih => exact .cons (hg _ h) ih
theorem Runs.one {G : Thr → Prop} {l : List Nd} {t t' : Thr} {u : Trn} (h : G t) (hu : nextT l t = u) (ht : afterT t u = t') : Runs G l t 1 (if u.kind = 3 then 1 else 0) t' := by
  subst hu; subst ht; exact .cons h (.nil _)

def goodA (l : List Nd) (t : Thr) : Prop := (nextT l t).kind ≠ 4 ∧ (nextT l t).kind ≠ 0 ∧ ((nextT l t).kind = 1 → t.has.contains (nextT l t).lock = false) ∧ ((nextT l t).kind = 2 → t.has.contains (nextT l t).lock = true)
def goodH (l : List Nd) (names : List Txt) (t : Thr) : Prop := t.done = false ∧
  ((nextT l t).kind = 3 → t.has.length = 1 ∧ ((findN l names).2 = 0 → dirI (findN l names).1 = true → t.has = [(findN l names).1])) ∧
  (afterT t (nextT l t)).has.length ≤ 2 ∧ ∀ a b, (afterT t (nextT l t)).has = [a, b] → ∃ n, findI l b = some n ∧ n.parent = a
def tw (c : Cal) (k : Int) (h : List Int) (d e : Bool) : Thr := { th0 c with at_ := k, has := h, done := d, ended := e }
theorem tw0 (c : Cal) : th0 c = tw c 0 [] false false := rfl
theorem goodA_of {l : List Nd} {t : Thr} {u : Trn} (h : nextT l t = u) (h1 : u.kind ≠ 4) (h2 : u.kind ≠ 0) (h3 : u.kind = 1 → t.has.contains u.lock = false) (h4 : u.kind = 2 → t.has.contains u.lock = true) : goodA l t := by
  subst h; exact ⟨h1, h2, h3, h4⟩
theorem goodH_of {l : List Nd} {names : List Txt} {t t' : Thr} {u : Trn} (h : nextT l t = u) (ht : afterT t u = t') (h0 : t.done = false)
    (h1 : u.kind = 3 → t.has.length = 1 ∧ ((findN l names).2 = 0 → dirI (findN l names).1 = true → t.has = [(findN l names).1])) (h2 : t'.has.length ≤ 2) (h3 : ∀ a b, t'.has = [a, b] → ∃ n, findI l b = some n ∧ n.parent = a) : goodH l names t := by
  subst h; subst ht; exact ⟨h0, h1, h2, h3⟩

/-! ### What is seen -/
theorem setN_mem {s : Txt} {n : Nd} {m : List (Txt × Nd)} {p : Txt × Nd} (h : p ∈ setN s n m) : p.2 = n ∨ p ∈ m := by
  induction m with
  | nil => simp [setN] at h; left; rw [h]
  | cons q m ih =>
    obtain ⟨k, x⟩ := q
    unfold setN at h
    split at h
    · rcases List.mem_cons.1 h with rfl | h
      · exact .inl rfl
      · exact .inr (List.mem_cons_of_mem _ h)
    · rcases List.mem_cons.1 h with rfl | h
      · exact .inr (by simp)
      · rcases ih h with h | h
        · exact .inl h
        · exact .inr (List.mem_cons_of_mem _ h)
theorem lookN_mem {s : Txt} {n : Nd} {m : List (Txt × Nd)} (h : lookN s m = some n) : ∃ p ∈ m, p.2 = n := by
  induction m with
  | nil => cases h
  | cons q m ih =>
    obtain ⟨k, x⟩ := q
    unfold lookN at h
    split at h
    · exact ⟨(k, x), by simp, by simpa using h⟩
    · obtain ⟨p, hp, e⟩ := ih h; exact ⟨p, List.mem_cons_of_mem _ hp, e⟩
theorem seenN_mem (l : List Nd) (dir : Int) : ∀ p ∈ seenN l dir, p.2 ∈ l ∧ inD dir p.2 = true := by
  suffices h : ∀ (k l : List Nd) (m : List (Txt × Nd)), (∀ p ∈ m, p.2 ∈ l ∧ inD dir p.2 = true) → (∀ n ∈ k, n ∈ l) → ∀ p ∈ k.foldl (seeN dir) m, p.2 ∈ l ∧ inD dir p.2 = true from h l l [] (fun p hp => by cases hp) (fun n hn => hn)
  intro k
  induction k with
  | nil => intro l m hm _; exact hm
  | cons x k ih =>
    intro l m hm hk
    refine ih l (seeN dir m x) (fun p hp => ?_) (fun n hn => hk n (List.mem_cons_of_mem _ hn))
    unfold seeN at hp
    split at hp
    · rename_i hx
      unfold putV at hp
      have hs : ∀ p ∈ setN x.name x m, p.2 ∈ l ∧ inD dir p.2 = true := fun p hp => by
        rcases setN_mem hp with e | h
        · rw [e]; exact ⟨hk x (by simp), hx⟩
        · exact hm p h
      split at hp
      · exact hs p hp
      · split at hp
        · exact hm p hp
        · exact hs p hp
    · exact hm p hp
theorem child_mem {l : List Nd} {dir : Int} {s : Txt} {n : Nd} (h : childN l dir s = some n) : chk l = true ∧ n ∈ l ∧ n.parent = dir := by
  unfold childN at h
  split at h
  · rename_i hc
    obtain ⟨p, hp, e⟩ := lookN_mem h
    obtain ⟨h1, h2⟩ := seenN_mem l dir p hp
    rw [e] at h1 h2
    unfold inD at h2
    rw [Bool.and_eq_true, decide_eq_true_eq] at h2
    exact ⟨hc, h1, h2.1⟩
  · cases h
theorem child_ne {l : List Nd} (hF : Frs l) {dir : Int} {s : Txt} {n : Nd} (hd : dirI dir = true) (h : childN l dir s = some n) : n.id ≠ dir ∧ findI l n.id = some n := by
  obtain ⟨hc, hm, hp⟩ := child_mem h
  have hf := fnd_mem hc hm
  refine ⟨fun e => ?_, by rw [findI, if_pos hc]; exact hf⟩
  obtain ⟨r, hr⟩ := hF.wf
  have hpar : par l n.id = some dir := by
    rw [par, hf]
    simp only [hp]
    rw [if_neg (dir_pos hd)]
  have := hr _ _ hpar
  rw [e] at this
  omega

/-! ### Giving back, and the end -/
theorem filt_tail {x : Int} {xs : List Int} (h : x ∉ xs) : (x :: xs).filter (fun k => !decide (k = x)) = xs := by
  rw [List.filter_cons_of_neg (by simp)]
  exact List.filter_eq_self.2 fun y hy => by simp; exact fun e => h (e ▸ hy)
theorem next_free (l : List Nd) (c : Cal) (k x : Int) (xs : List Int) : nextT l (tw c k (x :: xs) true false) = ⟨2, x⟩ := by
  simp [nextT, tw]
theorem after_free (c : Cal) (k x : Int) {xs : List Int} (h : x ∉ xs) : afterT (tw c k (x :: xs) true false) ⟨2, x⟩ = tw c k xs true false := by
  unfold afterT tw
  simp only [filt_tail h]
  simp
theorem run_free (l : List Nd) (c : Cal) (k : Int) (h : List Int) (hn : h.Nodup) : Runs (goodA l) l (tw c k h true false) h.length 0 (tw c k [] true false) := by
  induction h with
  | nil => exact .nil _
  | cons x xs ih =>
    have hx := (List.nodup_cons.1 hn)
    have h1 := next_free l c k x xs
    have := (Runs.one (G := goodA l) (goodA_of h1 (by simp) (by simp) (by simp) (fun _ => by simp [tw])) h1 (after_free c k x hx.1)).trans (ih hx.2)
    rw [List.length_cons, Nat.add_comm]
    simpa using this
theorem run_end (l : List Nd) (c : Cal) (k : Int) : ∃ n t', n ≤ 1 ∧ Runs (goodA l) l (tw c k [] true false) n 0 t' ∧ ((nextT l t').kind = 4 ∨ (nextT l t').kind = 0) ∧ t'.done = true ∧ t'.has = [] ∧ t'.ended = !decide (c.kind = 12) := by
  by_cases hk : c.kind = 12
  · refine ⟨0, _, by omega, .nil _, .inl ?_, rfl, rfl, by simp [tw, hk]⟩
    simp [nextT, tw, th0, hk]
  · have h1 : nextT l (tw c k [] true false) = ⟨5, 0⟩ := by simp [nextT, tw, th0, hk]
    refine ⟨1, tw c k [] true true, by omega, ?_, .inr ?_, rfl, rfl, by simp [tw, hk]⟩
    · have := Runs.one (G := goodA l) (t' := tw c k [] true true) (goodA_of h1 (by simp) (by simp) (by simp) (by simp)) h1 (by simp [afterT, tw])
      simpa using this
    · simp [nextT, tw]
theorem run_do {l : List Nd} {c : Cal} {k : Int} {h : List Int} (hn : h.Nodup) (h1 : nextT l (tw c k h false false) = ⟨3, 0⟩) : ∃ n t', n ≤ h.length + 2 ∧ Runs (goodA l) l (tw c k h false false) n 1 t' ∧ ((nextT l t').kind = 4 ∨ (nextT l t').kind = 0) ∧ t'.done = true ∧ t'.has = [] ∧ t'.ended = !decide (c.kind = 12) := by
  have r1 := Runs.one (G := goodA l) (t' := tw c k h true false) (goodA_of h1 (by simp) (by simp) (by simp) (by simp)) h1 (by simp [afterT, tw])
  have r2 := run_free l c k h hn
  obtain ⟨n, t', hn, r3, hE⟩ := run_end l c k
  refine ⟨1 + (h.length + n), t', by omega, ?_, hE⟩
  have := r1.trans (r2.trans r3)
  simpa using this

/-! ### Who turns the tree -/
theorem turnN_pre {has : List Int} (ps : List Int) (rest : List Int) (h : ∀ y ∈ ps, y ∈ has) : turnN has (ps ++ rest) = turnN has rest := by
  induction ps with
  | nil => rfl
  | cons p ps ih => rw [List.cons_append, turnN_skip (by simp; exact h p (by simp))]; exact ih fun y hy => h y (by simp [hy])
theorem turns_walks {c : Cal} (h : turnsK c = true) : walksK c = false := by
  unfold turnsK at h
  simp only [Bool.or_eq_true, decide_eq_true_eq] at h
  unfold walksK
  rcases h with (h | h) | h <;> rw [h] <;> rfl
theorem next_turn {l : List Nd} {c : Cal} (hc : turnsK c = true) (h : List Int) : nextT l (tw c 0 h false false) = turnN h (locksT l c) := by
  unfold nextT tw th0
  simp [hc]
theorem run_turn {l : List Nd} {c : Cal} (hc : turnsK c = true) (rest : List Int) : ∀ (ps : List Int), locksT l c = ps ++ rest → (ps ++ rest).Nodup → Runs (goodA l) l (tw c 0 ps false false) rest.length 0 (tw c 0 (ps ++ rest) false false) := by
  induction rest with
  | nil => intro ps _ _; rw [List.append_nil]; exact .nil _
  | cons x xs ih =>
    intro ps he hn
    have hx : x ∉ ps := fun hm => by
      have := (List.nodup_append.1 hn).2.2 x hm x (by simp)
      exact this rfl
    have hxc : ps.contains x = false := by simpa using hx
    have h1 : nextT l (tw c 0 ps false false) = ⟨1, x⟩ := by
      rw [next_turn hc, he, turnN_pre ps _ (fun y hy => hy), turnN_here hxc]
    have h2 : afterT (tw c 0 ps false false) ⟨1, x⟩ = tw c 0 (ps ++ [x]) false false := by
      unfold afterT tw th0
      simp [turns_walks hc]
    have h3 := ih (ps ++ [x]) (by rw [he]; simp) (by simpa using hn)
    have := (Runs.one (G := goodA l) (goodA_of h1 (by simp) (by simp) (fun _ => hxc) (by simp)) h1 h2).trans h3
    rw [List.length_cons, Nat.add_comm]
    simpa using this
theorem addD_nodup {ds : List Int} {o : Option Int} (h : ds.Nodup) : (addD ds o).Nodup := by
  unfold addD
  split
  · split
    · exact h
    · rename_i d hd
      rw [List.nodup_append]
      refine ⟨h, by simp, fun a ha b hb => ?_⟩
      simp at hb hd
      subst hb
      exact fun e => hd (e ▸ ha)
  · exact h
theorem addD_mem {ds : List Int} {o : Option Int} {x : Int} (h : x ∈ addD ds o) : x ∈ ds ∨ o = some x := by
  unfold addD at h
  split at h
  · split at h
    · exact .inl h
    · simp at h; rcases h with h | h
      · exact .inl h
      · exact .inr (by rw [h])
  · exact .inl h
theorem dirOf_dir {l : List Nd} {p : Txt} {d : Int} (h : dirOf l p = some d) : dirI d = true := by
  unfold dirOf at h
  split at h
  · split at h
    · rename_i q; cases h; exact q.2
    · cases h
  · cases h
theorem locksD_ok (l : List Nd) (c : Cal) : (locksD l c).Nodup ∧ ∀ x ∈ locksD l c, ∃ p ∈ pathsK c, dirOf l p = some x := by
  suffices h : ∀ (ps : List Txt) (ds : List Int), ds.Nodup → (∀ x ∈ ds, ∃ p ∈ pathsK c, dirOf l p = some x) → (∀ p ∈ ps, p ∈ pathsK c) → (ps.foldl (fun ds p => addD ds (dirOf l p)) ds).Nodup ∧ ∀ x ∈ ps.foldl (fun ds p => addD ds (dirOf l p)) ds, ∃ p ∈ pathsK c, dirOf l p = some x from
    h (pathsK c) [] List.nodup_nil (fun x hx => by cases hx) (fun p hp => hp)
  intro ps
  induction ps with
  | nil => intro ds h1 h2 _; exact ⟨h1, h2⟩
  | cons p ps ih =>
    intro ds h1 h2 h3
    refine ih _ (addD_nodup h1) (fun x hx => ?_) (fun q hq => h3 q (by simp [hq]))
    rcases addD_mem hx with hx | hx
    · exact h2 x hx
    · exact ⟨p, h3 p (by simp), hx⟩
theorem locksO_perm (l : List Nd) (ds : List Int) : (locksO l ds).Perm ds := by
  unfold locksO
  split
  · split
    · exact .swap _ _ _
    · exact .refl _
  · exact .refl _
theorem locksT_nodup (l : List Nd) (c : Cal) : (locksT l c).Nodup := by
  obtain ⟨h1, h2⟩ := locksD_ok l c
  rw [locksT, List.nodup_cons]
  refine ⟨fun h => ?_, (locksO_perm l _).nodup_iff.2 h1⟩
  obtain ⟨p, _, hp⟩ := h2 1 ((locksO_perm l _).mem_iff.1 h)
  have := dirOf_dir hp
  revert this; decide

/-! ### Who walks -/
theorem next_walk {l : List Nd} {c : Cal} (hc : turnsK c = false) (hw : walksK c = true) (k : Int) (h : List Int) : nextT l (tw c k h false false) = walkN l (wnames c) (tw c k h false false) := by
  unfold nextT
  rw [if_neg (by simp [tw]), if_neg (by simp [tw]), if_neg (by simp [tw, th0, hc]), if_pos (by simp [tw, th0, hw])]
  rfl
def goodW (l : List Nd) (names : List Txt) (t : Thr) : Prop := goodA l t ∧ goodH l names t
theorem goodW_of {l : List Nd} {names : List Txt} {t t' : Thr} {u : Trn} (h : nextT l t = u) (ht : afterT t u = t') (h0 : t.done = false) (h1 : u.kind = 1 ∨ u.kind = 2)
    (h3 : u.kind = 1 → t.has.contains u.lock = false) (h4 : u.kind = 2 → t.has.contains u.lock = true) (h2 : t'.has.length ≤ 2) (h5 : ∀ a b, t'.has = [a, b] → ∃ n, findI l b = some n ∧ n.parent = a) : goodW l names t :=
  ⟨goodA_of h (by omega) (by omega) h3 h4, goodH_of h ht h0 (fun e => by omega) h2 h5⟩
/-- It comes to a directory, and there does what it is to do. -/
theorem run_walk {l : List Nd} {names : List Txt} (hF : Frs l) {c : Cal} (hc : turnsK c = false) (hw : walksK c = true) (m : Nat) : ∀ (k : Nat) (here : Int), wnames c = names → m = names.length - k → k ≤ names.length → names.length ≤ 16 → dirI here = true → findN l names = pathN l here (names.drop k) →
    ∃ n k' d, n ≤ 2 * m ∧ Runs (goodW l names) l (tw c (k : Int) [here] false false) n 0 (tw c k' [d] false false) ∧ nextT l (tw c k' [d] false false) = ⟨3, 0⟩ ∧ ((findN l names).2 = 0 → dirI (findN l names).1 = true → d = (findN l names).1) := by
  induction m with
  | zero =>
    intro k here hnm hm hk hn hd hf
    have hkl : k = names.length := by omega
    subst hkl
    rw [List.drop_length] at hf
    have hf' : findN l names = (here, 0) := hf
    refine ⟨0, _, here, by omega, .nil _, ?_, fun _ _ => by rw [hf']⟩
    rw [next_walk hc hw, hnm]
    simp [walkN, tw, hf']
  | succ m ih =>
    intro k here hnm hm hk hn hd hf
    have hlt : k < names.length := by omega
    rw [List.drop_eq_getElem_cons hlt] at hf
    have hf1 : findN l names = (match childN l here names[k] with | some n => pathN l n.id (names.drop (k + 1)) | none => (0, 80)) := by rw [hf, pathN, if_pos hd]; rfl
    have hwn : ∀ (r : Trn), (match childN l here names[k] with
        | some n => if dirI n.id = true then (⟨1, n.id⟩ : Trn) else if (findN l names).2 = 0 ∧ dirI (findN l names).1 = true ∧ (findN l names).1 ≠ here then ⟨2, here⟩ else ⟨3, 0⟩
        | none => if (findN l names).2 = 0 ∧ dirI (findN l names).1 = true ∧ (findN l names).1 ≠ here then ⟨2, here⟩ else ⟨3, 0⟩) = r → nextT l (tw c (k : Int) [here] false false) = r := by
      intro r hr
      have e : (if (0 : Int) ≤ (k : Int) then names[(k : Int).toNat]? else none).bind (childN l here) = childN l here names[k] := by rw [if_pos (by omega), Int.toNat_natCast, List.getElem?_eq_getElem hlt]; rfl
      rw [next_walk hc hw, hnm, ← hr, ← e]
      rfl
    cases hch : childN l here names[k] with
    | none =>
      rw [hch] at hf1 hwn
      refine ⟨0, _, here, by omega, .nil _, ?_, fun h => by rw [hf1] at h; cases h⟩
      refine hwn _ ?_
      simp only [hf1]
      rw [if_neg (by rintro ⟨h, _⟩; cases h)]
    | some n =>
      rw [hch] at hf1 hwn
      simp only at hf1
      obtain ⟨hne, hfi⟩ := child_ne hF hd hch
      have hpar := (child_mem hch).2.2
      cases hdn : dirI n.id with
      | true =>
        obtain ⟨n', k', d, hn', hr, h3, h4⟩ := ih (k + 1) n.id hnm (by omega) (by omega) hn hdn hf1
        refine ⟨1 + (1 + n'), k', d, by omega, ?_, h3, h4⟩
        have e1 : nextT l (tw c (k : Int) [here] false false) = ⟨1, n.id⟩ := hwn _ (by simp only [hdn]; rfl)
        have e2 : afterT (tw c (k : Int) [here] false false) ⟨1, n.id⟩ = tw c ((k + 1 : Nat) : Int) [here, n.id] false false := by
          unfold afterT tw th0
          simp only [if_true, List.length_cons, List.length_nil]
          rw [if_pos ⟨trivial, hw⟩, wrap_i64 (by omega) (by omega)]
          rfl
        have e3 : nextT l (tw c ((k + 1 : Nat) : Int) [here, n.id] false false) = ⟨2, here⟩ := by
          rw [next_walk hc hw]; rfl
        have e4 : afterT (tw c ((k + 1 : Nat) : Int) [here, n.id] false false) ⟨2, here⟩ = tw c ((k + 1 : Nat) : Int) [n.id] false false := by
          unfold afterT tw th0
          simp only [filt_tail (show here ∉ [n.id] by simp; exact fun e => hne e.symm)]
          simp
        have r1 := Runs.one (G := goodW l names) (goodW_of e1 e2 rfl (.inl rfl) (fun _ => by simp [tw]; exact fun e => hne e) (fun h => by cases h) (by simp [tw]) (fun a b h => by
          simp [tw] at h; obtain ⟨rfl, rfl⟩ := h; exact ⟨n, hfi, hpar⟩)) e1 e2
        have r2 := Runs.one (G := goodW l names) (goodW_of e3 e4 rfl (.inr rfl) (fun h => by cases h) (fun _ => by simp [tw]) (by simp [tw]) (fun a b h => by
          simp [tw] at h)) e3 e4
        have := r1.trans (r2.trans hr)
        simpa using this
      | false =>
        refine ⟨0, _, here, by omega, .nil _, ?_, fun h1 h2 => ?_⟩
        · refine hwn _ ?_
          simp only [hdn]
          rw [if_neg (by simp), if_neg ?_]
          rw [hf1]
          rintro ⟨h1, h2, -⟩
          cases hdr : names.drop (k + 1) with
          | nil => rw [hdr] at h2; simp only [pathN] at h2; rw [hdn] at h2; cases h2
          | cons s r => rw [hdr, pathN, if_neg (by rw [hdn]; simp)] at h1; cases h1
        · rw [hf1] at h1 h2
          cases hdr : names.drop (k + 1) with
          | nil => rw [hdr] at h2; simp only [pathN] at h2; rw [hdn] at h2; cases h2
          | cons s r => rw [hdr, pathN, if_neg (by rw [hdn]; simp)] at h1; cases h1
theorem run_walks {l : List Nd} (hF : Frs l) {c : Cal} (hc : turnsK c = false) (hw : walksK c = true) :
    ∃ n k' d, n ≤ 33 ∧ Runs (goodW l (wnames c)) l (th0 c) n 0 (tw c k' [d] false false) ∧ nextT l (tw c k' [d] false false) = ⟨3, 0⟩ ∧ ((findN l (wnames c)).2 = 0 → dirI (findN l (wnames c)).1 = true → d = (findN l (wnames c)).1) := by
  have h16 := wnames_len c
  obtain ⟨n, k', d, hn, hr, h3, h4⟩ := run_walk hF hc hw _ 0 0 rfl rfl (Nat.zero_le _) h16 (by decide) rfl
  have e1 : nextT l (tw c 0 [] false false) = ⟨1, 0⟩ := by rw [next_walk hc hw]; rfl
  have e2 : afterT (tw c 0 [] false false) ⟨1, 0⟩ = tw c ((0 : Nat) : Int) [0] false false := by
    unfold afterT tw th0
    simp
  have r1 := Runs.one (G := goodW l (wnames c)) (goodW_of e1 e2 rfl (.inl rfl) (fun _ => by simp [tw]) (fun h => by cases h) (by simp [tw]) (fun a b h => by simp [tw] at h)) e1 e2
  refine ⟨1 + n, k', d, by omega, ?_, h3, h4⟩
  have := r1.trans hr
  rw [tw0]
  simpa using this

theorem alone {l : List Nd} (hF : Frs l) (c : Cal) : ∃ n t', n ≤ 45 ∧ Runs (goodA l) l (th0 c) n 1 t' ∧ ((nextT l t').kind = 4 ∨ (nextT l t').kind = 0) ∧ t'.done = true ∧ t'.has = [] ∧ t'.ended = !decide (c.kind = 12) := by
  cases hc : turnsK c with
  | true =>
    have hnd := locksT_nodup l c
    have hle := locksT_len l c
    have r1 := run_turn hc (locksT l c) [] rfl (by simpa using hnd)
    rw [List.nil_append] at r1
    have h3 : nextT l (tw c 0 (locksT l c) false false) = ⟨3, 0⟩ := by
      rw [next_turn hc]
      have := turnN_pre (has := locksT l c) (locksT l c) [] (fun y hy => hy)
      rw [List.append_nil] at this
      rw [this]; rfl
    obtain ⟨n, t', hn, r2, h⟩ := run_do hnd h3
    refine ⟨(locksT l c).length + n, t', by omega, ?_, h⟩
    rw [tw0]
    have := r1.trans r2
    simpa using this
  | false =>
    cases hw : walksK c with
    | true =>
      obtain ⟨n, k', d, hn, hr, h3, -⟩ := run_walks hF hc hw
      obtain ⟨m, t', hm, r2, h⟩ := run_do (by simp) h3
      refine ⟨n + m, t', by simp at hm; omega, ?_, h⟩
      have := (hr.mono fun t h => h.1).trans r2
      simpa using this
    | false =>
      have h3 : nextT l (tw c 0 [] false false) = ⟨3, 0⟩ := by
        unfold nextT tw th0
        simp [hc, hw]
      obtain ⟨n, t', hn, r2, h⟩ := run_do (by simp) h3
      exact ⟨n, t', by simp at hn; omega, r2, h⟩
end Go.Gw
/- Directories that are found at paths lie beneath the root, in plain Lean: none of two is above the other one, and beneath it. No condition. -/
namespace Go.Gw
open Go Go.Aw Go.Proofs.YtmknmapgfjmioaaGreatDoor
/-- So many steps up to the root. -/
inductive Dep (l : List Nd) : Nat → Int → Prop
  | root : Dep l 0 0
  | step {k : Nat} {x p : Int} (h : par l x = some p) (d : Dep l k p) : Dep l (k + 1) x
theorem par_root {l : List Nd} (hc : chk l = true) : par l 0 = none := by
  have : fnd l 0 = none := by
    unfold fnd
    rw [List.find?_eq_none]
    intro n hn h
    have h0 : n.id = 0 := by simpa using h
    have := ((chk_iff l).1 hc).1 n hn
    rw [h0] at this
    revert this; decide
  rw [par, this]
theorem Dep.up {l : List Nd} (hc : chk l = true) {k : Nat} {x p : Int} (h : Dep l k x) (hp : par l x = some p) : ∃ j, k = j + 1 ∧ Dep l j p := by
  cases h with
  | root => rw [par_root hc] at hp; cases hp
  | step h d => rw [h] at hp; cases hp; exact ⟨_, rfl, d⟩
theorem Dep.uniq {l : List Nd} (hc : chk l = true) {k : Nat} {x : Int} (h : Dep l k x) : ∀ {j : Nat}, Dep l j x → k = j := by
  induction h with
  | root =>
    intro j hj
    cases hj with
    | root => rfl
    | step h d => rw [par_root hc] at h; cases h
  | step h d ih =>
    intro j hj
    obtain ⟨i, rfl, hi⟩ := hj.up hc h
    rw [ih hi]
theorem dep_above {l : List Nd} (hc : chk l = true) (n : Nat) : ∀ {k : Nat} {x y : Int}, Dep l k x → y ∈ aboveN l n x → ∃ j, j < k ∧ Dep l j y := by
  induction n with
  | zero => intro k x y _ h; cases h
  | succ n ih =>
    intro k x y hd h
    rw [aboveN_succ] at h
    cases hp : par l x with
    | none => rw [hp] at h; cases h
    | some p =>
      rw [hp] at h
      obtain ⟨j, rfl, hj⟩ := hd.up hc hp
      rcases List.mem_cons.1 h with rfl | h
      · exact ⟨j, by omega, hj⟩
      · obtain ⟨i, hi, hy⟩ := ih hj h
        exact ⟨i, by omega, hy⟩
theorem dep_path {l : List Nd} (hc : chk l = true) (names : List Txt) : ∀ {k : Nat} {x d : Int}, Dep l k x → pathN l x names = (d, 0) → ∃ j, Dep l j d := by
  induction names with
  | nil => intro k x d hx h; cases h; exact ⟨k, hx⟩
  | cons s names ih =>
    intro k x d hx h
    rw [pathN] at h
    split at h
    · rename_i hd
      cases hch : childN l x s with
      | none => rw [hch] at h; cases h
      | some n =>
        rw [hch] at h
        obtain ⟨-, hm, hp⟩ := child_mem hch
        refine ih (.step (p := x) ?_ hx) h
        rw [par, fnd_mem hc hm]
        simp only [hp]
        rw [if_neg (dir_pos hd)]
    · cases h
theorem dep_dir {l : List Nd} (hc : chk l = true) {p : Txt} {d : Int} (h : dirOf l p = some d) : ∃ k, Dep l k d := by
  unfold dirOf at h
  split at h
  · rename_i x xs _
    split at h
    · rename_i q
      cases h
      refine dep_path hc (x :: xs).dropLast .root ?_
      have : findN l (x :: xs).dropLast = ((findN l (x :: xs).dropLast).1, (findN l (x :: xs).dropLast).2) := rfl
      rw [q.1] at this
      exact this
    · cases h
  · cases h
theorem above_one {l : List Nd} {p q : Txt} {a b : Int} (ha : dirOf l p = some a) (hb : dirOf l q = some b) (h : aboveB l a b = true) : aboveB l b a = false := by
  cases hc : chk l with
  | false => rw [aboveB, aboveC, if_neg (by rw [hc]; simp)]; rfl
  | true =>
    obtain ⟨ka, da⟩ := dep_dir hc ha
    obtain ⟨kb, db⟩ := dep_dir hc hb
    cases h2 : aboveB l b a with
    | false => rfl
    | true =>
      rw [aboveB, aboveC, if_pos hc] at h h2
      obtain ⟨i, hi, di⟩ := dep_above hc _ db (by simpa [aboveI] using h)
      obtain ⟨j, hj, dj⟩ := dep_above hc _ da (by simpa [aboveI] using h2)
      have e1 := da.uniq hc di
      have e2 := db.uniq hc dj
      omega
theorem above_self {l : List Nd} {p : Txt} {a : Int} (ha : dirOf l p = some a) : aboveB l a a = false := by
  cases h : aboveB l a a with
  | false => rfl
  | true => have := above_one ha ha h; rw [h] at this; cases this
theorem dir_nn {d : Int} (h : dirI d = true) : 0 ≤ d := by
  unfold dirI ofOk at h
  simp only [Bool.or_eq_true, Bool.and_eq_true, decide_eq_true_eq] at h
  omega
end Go.Gw
/- PlanOrder, walked. No condition. -/
namespace Go.Gw
open Go Go.Aw Go.Proofs.YtmknmapgfjmioaaGreatDoor
theorem fewCal_o {c : Cal} (h : fewCal [c] 1 = true) : c.path.length ≤ 1000 ∧ c.to.length ≤ 1000 ∧ c.data.length ≤ 5000 := by
  simp [fewCal, longCal] at h
  omega
end Go.Gw
namespace Go.Proofs.YtmknmapgfjmioaaGreatDoor
open Go Go.Aw Go.Gw
set_option linter.unusedSimpArgs false
set_option linter.unusedVariables false
set_option maxRecDepth 20000
set_option maxHeartbeats 8000000

end Go.Proofs.YtmknmapgfjmioaaGreatDoor
/- The document's runes: what its functions of names answer. No condition but the length of what comes in. -/
namespace Go.Gw
open Go Go.Aw Go.Proofs.YtmknmapgfjmioaaGreatDoor

def bt (s : Txt) (pos k : Nat) : Nat := (s.getD (pos + k) 0).toNat
theorem bt_lt (s : Txt) (pos k : Nat) : bt s pos k < 256 := (s.getD (pos + k) 0).toNat_lt
def szB (b : Nat) : Nat := if b < 128 then 1 else if 194 ≤ b ∧ b < 224 then 2 else if 224 ≤ b ∧ b < 240 then 3 else if 240 ≤ b ∧ b < 245 then 4 else 0
def leastB (n : Nat) : Nat := if n = 1 then 0 else if n = 2 then 128 else if n = 3 then 2048 else 65536
def headB (n b : Nat) : Nat := if n = 3 then b % 16 else if n = 4 then b % 8 else b % 64
def rAcc (s : Txt) (pos n : Nat) : Nat → Nat
  | 0 => headB n (bt s pos 0)
  | i + 1 => rAcc s pos n i * 64 + bt s pos (i + 1) % 64
def contB (s : Txt) (pos j : Nat) : Bool := decide (128 ≤ bt s pos j) && decide (bt s pos j < 192)
def contN (s : Txt) (pos : Nat) : Nat → Bool
  | 0 => true
  | i + 1 => contN s pos i && contB s pos (i + 1)
def badR (n r : Nat) : Bool := decide (r < leastB n) || (decide (55296 ≤ r) && decide (r ≤ 57343)) || decide (1114111 < r)
def takeB (s : Txt) (pos : Nat) : Nat × Nat :=
  if szB (bt s pos 0) = 0 ∨ s.length < pos + szB (bt s pos 0) then (0, 0)
  else if szB (bt s pos 0) = 1 then (bt s pos 0, 1)
  else if contN s pos (szB (bt s pos 0) - 1) = true ∧ badR (szB (bt s pos 0)) (rAcc s pos (szB (bt s pos 0)) (szB (bt s pos 0) - 1)) = false then (rAcc s pos (szB (bt s pos 0)) (szB (bt s pos 0) - 1), szB (bt s pos 0))
  else (0, 0)

theorem szB_le (b : Nat) : szB b ≤ 4 := by
  unfold szB
  repeat' split
  all_goals decide
theorem rAcc_lt (s : Txt) (pos n i : Nat) : rAcc s pos n i < 64 ^ (i + 1) := by
  induction i with
  | zero =>
    simp only [rAcc, headB]
    repeat' split
    all_goals omega
  | succ i ih =>
    rw [rAcc, Nat.pow_succ]
    have : bt s pos (i + 1) % 64 < 64 := Nat.mod_lt _ (by decide)
    omega
theorem runeAt_N (s : Txt) (pos : Nat) : runeAt s pos = Lib.decodeN (s.length - pos) (bt s pos 0) (bt s pos 1) (bt s pos 2) (bt s pos 3) := by
  unfold runeAt
  rw [Lib.decode_N]
  rfl
set_option maxHeartbeats 4000000 in
/-- The document's way to a rune is the model's. -/
theorem takeB_dec {s : Txt} {pos : Nat} (hp : pos < s.length) : (takeB s pos).2 = 0 ∧ runeAt s pos = (65533, 1) ∨ (takeB s pos).2 ≠ 0 ∧ runeAt s pos = takeB s pos := by
  rw [runeAt_N]
  have h0 := bt_lt s pos 0
  have h1 := bt_lt s pos 1
  have h2 := bt_lt s pos 2
  have h3 := bt_lt s pos 3
  unfold takeB
  by_cases c1 : bt s pos 0 < 128
  · have e : szB (bt s pos 0) = 1 := by unfold szB; rw [if_pos c1]
    rw [e, if_neg (by omega), if_pos rfl]
    exact .inr ⟨by simp, by unfold Lib.decodeN; rw [if_pos c1]⟩
  by_cases c2 : 194 ≤ bt s pos 0 ∧ bt s pos 0 < 224
  · have e : szB (bt s pos 0) = 2 := by unfold szB; rw [if_neg c1, if_pos c2]
    rw [e]
    have hL : leastB 2 = 128 := rfl
    have hH : ∀ b, headB 2 b = b % 64 := fun _ => rfl
    simp only [contN, Nat.reduceSub, Nat.zero_add, Nat.reduceAdd, rAcc, Bool.true_and, hH, contB, badR, hL, Bool.and_eq_true, decide_eq_true_eq, Bool.or_eq_false_iff, Bool.and_eq_false_iff, decide_eq_false_iff_not]
    unfold Lib.decodeN
    generalize bt s pos 0 = b0 at *
    generalize bt s pos 1 = b1 at *
    generalize bt s pos 2 = b2 at *
    generalize bt s pos 3 = b3 at *
    repeat' split
    all_goals first
      | (exfalso; omega)
      | exact .inl ⟨rfl, rfl⟩
      | exact .inr ⟨by simp, by simp; omega⟩
  by_cases c3 : 224 ≤ bt s pos 0 ∧ bt s pos 0 < 240
  · have e : szB (bt s pos 0) = 3 := by unfold szB; rw [if_neg c1, if_neg c2, if_pos c3]
    rw [e]
    have hL : leastB 3 = 2048 := rfl
    have hH : ∀ b, headB 3 b = b % 16 := fun _ => rfl
    simp only [contN, Nat.reduceSub, Nat.zero_add, Nat.reduceAdd, rAcc, Bool.true_and, hH, contB, badR, hL, Bool.and_eq_true, decide_eq_true_eq, Bool.or_eq_false_iff, Bool.and_eq_false_iff, decide_eq_false_iff_not]
    unfold Lib.decodeN
    generalize bt s pos 0 = b0 at *
    generalize bt s pos 1 = b1 at *
    generalize bt s pos 2 = b2 at *
    generalize bt s pos 3 = b3 at *
    repeat' split
    all_goals first
      | (exfalso; omega)
      | exact .inl ⟨rfl, rfl⟩
      | exact .inr ⟨by simp, by simp; omega⟩
  by_cases c4 : 240 ≤ bt s pos 0 ∧ bt s pos 0 < 245
  · have e : szB (bt s pos 0) = 4 := by unfold szB; rw [if_neg c1, if_neg c2, if_neg c3, if_pos c4]
    rw [e]
    have hL : leastB 4 = 65536 := rfl
    have hH : ∀ b, headB 4 b = b % 8 := fun _ => rfl
    simp only [contN, Nat.reduceSub, Nat.zero_add, Nat.reduceAdd, rAcc, Bool.true_and, hH, contB, badR, hL, Bool.and_eq_true, decide_eq_true_eq, Bool.or_eq_false_iff, Bool.and_eq_false_iff, decide_eq_false_iff_not]
    unfold Lib.decodeN
    generalize bt s pos 0 = b0 at *
    generalize bt s pos 1 = b1 at *
    generalize bt s pos 2 = b2 at *
    generalize bt s pos 3 = b3 at *
    repeat' split
    all_goals first
      | (exfalso; omega)
      | exact .inl ⟨rfl, rfl⟩
      | exact .inr ⟨by simp, by simp; omega⟩
  · have e : szB (bt s pos 0) = 0 := by unfold szB; rw [if_neg c1, if_neg c2, if_neg c3, if_neg c4]
    rw [e, if_pos (.inl rfl)]
    left
    refine ⟨rfl, ?_⟩
    unfold Lib.decodeN
    generalize bt s pos 0 = b0 at *
    generalize bt s pos 1 = b1 at *
    generalize bt s pos 2 = b2 at *
    generalize bt s pos 3 = b3 at *
    repeat' split
    all_goals first
      | (exfalso; omega)
      | rfl
theorem takeB_one {s : Txt} {pos : Nat} (h : (takeB s pos).2 = 1) : (takeB s pos).1 < 128 := by
  unfold takeB at h ⊢
  split at h
  · cases h
  · split at h
    · rename_i h1 h2
      rw [if_neg h1, if_pos h2]
      unfold szB at h2
      repeat' split at h2
      all_goals first
        | assumption
        | omega
    · split at h
      · rename_i h1 h2 h3
        exact absurd h h2
      · cases h
theorem takeB_pre {s : Txt} {pos : Nat} (h : isPre [239, 191, 189] (s.drop pos) = true) : (takeB s pos).2 ≠ 0 := by
  unfold isPre at h
  simp only [List.length_cons, List.length_nil, List.length_drop, Bool.and_eq_true, decide_eq_true_eq] at h
  obtain ⟨h1, h2⟩ := h
  have g : ∀ k, k < 3 → s.getD (pos + k) 0 = ([239, 191, 189] : Txt).getD k 0 := by
    intro k hk
    rw [← h2, List.getD_eq_getElem?_getD, List.getD_eq_getElem?_getD, List.getElem?_take_of_lt (by omega), List.getElem?_drop]
  have b0 : bt s pos 0 = 239 := by unfold bt; rw [g 0 (by omega)]; rfl
  have b1 : bt s pos 1 = 191 := by unfold bt; rw [g 1 (by omega)]; rfl
  have b2 : bt s pos 2 = 189 := by unfold bt; rw [g 2 (by omega)]; rfl
  have e : szB 239 = 3 := rfl
  unfold takeB
  rw [b0, e, if_neg (by omega), if_neg (by omega), if_pos]
  · simp
  · simp only [contN, Nat.reduceSub, Nat.zero_add, Nat.reduceAdd, rAcc, contB, b0, b1, b2]
    decide
theorem spell_step {s : Txt} {acc : List Int} {pos : Nat} (h : pos < s.length) : spellT s acc pos = if (takeB s pos).2 = 0 then none else spellT s (acc ++ [((takeB s pos).1 : Int)]) (pos + (takeB s pos).2) := by
  rw [spellT_step h]
  rcases takeB_dec h with ⟨h1, h2⟩ | ⟨h1, h2⟩
  · rw [if_pos h1, h2, if_neg]
    rintro (q | q)
    · simp at q
    · exact takeB_pre q h1
  · rw [if_neg h1, h2, if_pos]
    by_cases hr : (takeB s pos).1 = 65533
    · right
      have hd := Lib.decodeN_shape (s.length - pos) (bt s pos 0) (bt s pos 1) (bt s pos 2) (bt s pos 3)
      have e := runeAt_N s pos
      rw [h2] at e
      rw [← e] at hd
      have q0 := bt_lt s pos 0
      have q1 := bt_lt s pos 1
      have q2 := bt_lt s pos 2
      rcases hd with ⟨c1, c2⟩ | ⟨c1, c2, c3, c4, c5⟩ | ⟨c1, c2, c3, c4, c5, c6, c7⟩ | ⟨c1, c2, c3, c4, c5, c6, c7, c8⟩ | c1
      · have := congrArg Prod.fst c2; simp only at this; omega
      · have := congrArg Prod.fst c5; simp only at this; omega
      · have := congrArg Prod.fst c7
        simp only at this
        have b0 : bt s pos 0 = 239 := by omega
        have b1 : bt s pos 1 = 191 := by omega
        have b2 : bt s pos 2 = 189 := by omega
        have key : ∀ k v, bt s pos k = v → s.getD (pos + k) 0 = UInt8.ofNat v := fun k v hk => by rw [← hk]; simp [bt]
        have d0 := key 0 _ b0
        have d1 := key 1 _ b1
        have d2 := key 2 _ b2
        unfold isPre
        simp only [List.length_cons, List.length_nil, List.length_drop, Bool.and_eq_true, decide_eq_true_eq]
        refine ⟨by omega, ?_⟩
        rw [Lib.takeC _ (by rw [List.length_drop]; omega), Lib.getD_dropU, Lib.getD_dropU, Lib.getD_dropU, d0, d1, d2]
        rfl
      · have := congrArg Prod.fst c8; simp only at this; omega
      · have h3 := congrArg Prod.snd c1
        have := takeB_one h3
        omega
    · left
      simp; omega
end Go.Gw
namespace Go.Proofs.YtmknmapgfjmioaaGreatDoor
open Go Go.Aw Go.Gw
set_option linter.unusedSimpArgs false
set_option maxRecDepth 20000
set_option maxHeartbeats 4000000

theorem rsize_c (b : Nat) (H : AHeap) : FnC Tryz.prog 115 [.int .u8 b] H (.int .i64 (szB b)) := by
  refine fnC_of Tryz.func115 rfl (Nat.le_of_ble_eq_true rfl) ?_
  unfold szB
  repeat' first | ((first | refine callP_false (.bool false) ?_ | refine aw_region rfl ?_ | refine aw_region_draw mixedF rfl (by kernel_rfl) ?_ | refine aE rfl ?_); simp only [go_sem]) | refine callG_y ?_ | refine callG_p ?_ | refine aw_seq ?_ | refine aw_block ?_ | refine aw_scope ?_ | (refine aw_cond rfl (fun h => ?_) (fun h => ?_) <;> try (exfalso; first | (simp at h; done) | (simp at h; omega))) | ((with_reducible refine And.intro ?_ ?_); focus (first | omega | (intros; simp_all; done) | (simp; omega)))
  all_goals (refine done0 (by simp only [go_sem]) (.of (congrArg (AV.int .i64) ?_)); simp only [Bool.and_eq_true, Bool.and_eq_false_iff, decide_eq_true_eq, decide_eq_false_iff_not] at *; (repeat' split) <;> omega)
theorem rleast_c (n : Nat) (H : AHeap) : FnC Tryz.prog 116 [.int .i64 n] H (.int .i64 (leastB n)) := by
  refine fnC_of Tryz.func116 rfl (Nat.le_of_ble_eq_true rfl) ?_
  unfold leastB
  repeat' first | ((first | refine callP_false (.bool false) ?_ | refine aw_region rfl ?_ | refine aw_region_draw mixedF rfl (by kernel_rfl) ?_ | refine aE rfl ?_); simp only [go_sem]) | refine callG_y ?_ | refine callG_p ?_ | refine aw_seq ?_ | refine aw_block ?_ | refine aw_scope ?_ | (refine aw_cond rfl (fun h => ?_) (fun h => ?_) <;> try (exfalso; first | (simp at h; done) | (simp at h; omega))) | ((with_reducible refine And.intro ?_ ?_); focus (first | omega | (intros; simp_all; done) | (simp; omega)))
  all_goals (refine done0 (by simp only [go_sem]) (.of (congrArg (AV.int .i64) ?_)); simp only [Bool.and_eq_true, Bool.and_eq_false_iff, decide_eq_true_eq, decide_eq_false_iff_not] at *; (repeat' split) <;> omega)
end Go.Proofs.YtmknmapgfjmioaaGreatDoor
/- The document's names, and operations: what its tests answer. No condition but the length of what comes in. -/
namespace Go.Proofs.YtmknmapgfjmioaaGreatDoor
open Go Go.Aw Go.Gw
set_option linter.unusedSimpArgs false
set_option maxRecDepth 20000
set_option maxHeartbeats 4000000

theorem tmod_nat (a b : Nat) : ((a : Int)).tmod (b : Int) = ((a % b : Nat) : Int) := by
  rw [Int.tmod_eq_emod_of_nonneg (by omega)]; push_cast; rfl

theorem rtake_c (s : Txt) (pos : Nat) (hp : pos < s.length) (hs : s.length ≤ 1073741824) (H : AHeap) : FnC Tryz.prog 102 [.str s, .int .i64 pos] H (.tup [.int .i64 (takeB s pos).1, .int .i64 (takeB s pos).2]) := by
  refine fnC_of Tryz.func102 rfl (Nat.le_of_ble_eq_true rfl) ?_
  have hpi : decide ((pos : Int) < (s.length : Int)) = true := decide_eq_true (by omega)
  have hpl : ((pos : Int) < (s.length : Int)) := by omega
  have hb0 : (s.getD pos 0).toNat = bt s pos 0 := rfl
  have hsz := rsize_c (bt s pos 0)
  have hz4 := szB_le (bt s pos 0)
  have h256 := bt_lt s pos 0
  have hw0 : IntKind.i64.wrap ((pos : Int) + (szB (bt s pos 0) : Int)) = ((pos + szB (bt s pos 0) : Nat) : Int) := wrap_nat (by omega) (by omega)
  have hw1 : IntKind.i64.wrap (bt s pos 0 : Int) = (bt s pos 0 : Int) := wrap_nat rfl (by omega)
  unfold takeB
  generalize hn : szB (bt s pos 0) = n at *
  by_cases c0 : n = 0 ∨ s.length < pos + n
  · rw [if_pos c0]
    by_cases c00 : n = 0
    · have hli : decide ((n : Int) = 0) = true := decide_eq_true (by omega)
      have ct0 := ct hsz callOk115F; repeat' first | ((first | refine cK (by assumption) ?_ | refine cP (by assumption) ?_ | refine cM (by assumption) ?_ | refine callP_false (.bool false) ?_ | refine aw_region rfl ?_ | refine aw_region_draw mixedF rfl (by kernel_rfl) ?_ | refine aE rfl ?_); simp only [go_sem, hpl, hb0, hli, hw0]) | refine callG_y ?_ | refine callG_p ?_ | refine aw_seq ?_ | refine aw_block ?_ | refine aw_scope ?_ | (refine aw_cond rfl (fun h => ?_) (fun h => ?_) <;> try (exfalso; first | (simp at h; done) | (simp at h; omega))) | ((with_reducible refine And.intro ?_ ?_); focus (first | omega | (intros; simp_all; done) | (simp; omega)))
      exact done0 (by simp only [go_sem]) (.refl _)
    · have hli : decide ((n : Int) = 0) = false := decide_eq_false (by omega)
      have hli2 : decide ((s.length : Int) < ((pos + n : Nat) : Int)) = true := decide_eq_true (by omega)
      have ct0 := ct hsz callOk115F; repeat' first | ((first | refine cK (by assumption) ?_ | refine cP (by assumption) ?_ | refine cM (by assumption) ?_ | refine callP_false (.bool false) ?_ | refine aw_region rfl ?_ | refine aw_region_draw mixedF rfl (by kernel_rfl) ?_ | refine aE rfl ?_); simp only [go_sem, hpl, hb0, hli, hli2, hw0]) | refine callG_y ?_ | refine callG_p ?_ | refine aw_seq ?_ | refine aw_block ?_ | refine aw_scope ?_ | (refine aw_cond rfl (fun h => ?_) (fun h => ?_) <;> try (exfalso; first | (simp at h; done) | (simp at h; omega))) | ((with_reducible refine And.intro ?_ ?_); focus (first | omega | (intros; simp_all; done) | (simp; omega)))
      exact done0 (by simp only [go_sem]) (.refl _)
  · rw [if_neg c0]
    have hli : decide ((n : Int) = 0) = false := decide_eq_false (by omega)
    have hli2 : decide ((s.length : Int) < ((pos + n : Nat) : Int)) = false := decide_eq_false (by omega)
    by_cases c1 : n = 1
    · rw [if_pos c1]
      have hli3 : decide ((n : Int) = 1) = true := decide_eq_true (by omega)
      have ct0 := ct hsz callOk115F; repeat' first | ((first | refine cK (by assumption) ?_ | refine cP (by assumption) ?_ | refine cM (by assumption) ?_ | refine callP_false (.bool false) ?_ | refine aw_region rfl ?_ | refine aw_region_draw mixedF rfl (by kernel_rfl) ?_ | refine aE rfl ?_); simp only [go_sem, hpl, hb0, hli, hli2, hli3, hw0, hw1]) | refine callG_y ?_ | refine callG_p ?_ | refine aw_seq ?_ | refine aw_block ?_ | refine aw_scope ?_ | (refine aw_cond rfl (fun h => ?_) (fun h => ?_) <;> try (exfalso; first | (simp at h; done) | (simp at h; omega))) | ((with_reducible refine And.intro ?_ ?_); focus (first | omega | (intros; simp_all; done) | (simp; omega)))
      exact done0 (by simp only [go_sem]) (.refl _)
    · rw [if_neg c1]
      have hli3 : decide ((n : Int) = 1) = false := decide_eq_false (by omega)
      have t64 : ((bt s pos 0 : Nat) : Int).tmod 64 = ((bt s pos 0 % 64 : Nat) : Int) := tmod_nat (bt s pos 0) 64
      have t16 : ((bt s pos 0 : Nat) : Int).tmod 16 = ((bt s pos 0 % 16 : Nat) : Int) := tmod_nat (bt s pos 0) 16
      have t8 : ((bt s pos 0 : Nat) : Int).tmod 8 = ((bt s pos 0 % 8 : Nat) : Int) := tmod_nat (bt s pos 0) 8
      have ct0 := ct hsz callOk115F; repeat' first | ((first | refine cK (by assumption) ?_ | refine cP (by assumption) ?_ | refine cM (by assumption) ?_ | refine callP_false (.bool false) ?_ | refine aw_region rfl ?_ | refine aw_region_draw mixedF rfl (by kernel_rfl) ?_ | refine aE rfl ?_); simp only [go_sem, hpl, hb0, hli, hli2, hli3, hw0, hw1]) | refine callG_y ?_ | refine callG_p ?_ | refine aw_seq ?_ | refine aw_block ?_ | refine aw_scope ?_ | ((with_reducible refine And.intro ?_ ?_); focus (first | omega | (intros; simp_all; done) | (simp; omega)))
      refine aw_cond rfl (fun h => by simp at h) (fun _ => ?_)
      repeat' first | ((first | refine callP_false (.bool false) ?_ | refine aw_region rfl ?_ | refine aw_region_draw mixedF rfl (by kernel_rfl) ?_ | refine aE rfl ?_); simp only [go_sem, hli3]) | refine callG_y ?_ | refine callG_p ?_ | refine aw_seq ?_ | refine aw_block ?_ | refine aw_scope ?_ | ((with_reducible refine And.intro ?_ ?_); focus (first | omega | (intros; simp_all; done) | (simp; omega)))
      refine aw_cond rfl (fun h => by simp at h) (fun _ => ?_)
      repeat' first | ((first | refine callP_false (.bool false) ?_ | refine aw_region rfl ?_ | refine aw_region_draw mixedF rfl (by kernel_rfl) ?_ | refine aE rfl ?_); simp only [go_sem, hpl, hb0, hw1, t64]) | refine callG_y ?_ | refine callG_p ?_ | refine aw_seq ?_ | refine aw_block ?_ | refine aw_scope ?_ | ((with_reducible refine And.intro ?_ ?_); focus (first | omega | (intros; simp_all; done) | (simp; omega)))
      refine aw_cutT (ι := Unit) (fun _ => [(0, .str s), (1, .int .i64 pos), (6, .int .i64 n), (7, .int .i64 (if n = 3 then bt s pos 0 % 16 else bt s pos 0 % 64 : Nat))]) (fun _ => H) (fun _ => True) ?_ ?_
      · refine aw_cond rfl (fun h => ?_) (fun h => ?_)
        · rw [decide_eq_true_eq] at h
          repeat' first | ((first | refine callP_false (.bool false) ?_ | refine aw_region rfl ?_ | refine aw_region_draw mixedF rfl (by kernel_rfl) ?_ | refine aE rfl ?_); simp only [go_sem, hpl, hb0, hw1, t16]) | refine callG_y ?_ | refine callG_p ?_ | refine aw_seq ?_ | refine aw_block ?_ | refine aw_scope ?_ | (refine aw_cond rfl (fun h => ?_) (fun h => ?_) <;> try (exfalso; first | (simp at h; done) | (simp at h; omega))) | ((with_reducible refine And.intro ?_ ?_); focus (first | omega | (intros; simp_all; done) | (simp; omega)))
          rw [if_pos (by omega)]; exact ⟨(), rfl⟩
        · rw [decide_eq_false_iff_not] at h
          repeat' first | ((first | refine callP_false (.bool false) ?_ | refine aw_region rfl ?_ | refine aw_region_draw mixedF rfl (by kernel_rfl) ?_ | refine aE rfl ?_); simp only [go_sem]) | refine callG_y ?_ | refine callG_p ?_ | refine aw_seq ?_ | refine aw_block ?_ | refine aw_scope ?_ | (refine aw_cond rfl (fun h => ?_) (fun h => ?_) <;> try (exfalso; first | (simp at h; done) | (simp at h; omega))) | ((with_reducible refine And.intro ?_ ?_); focus (first | omega | (intros; simp_all; done) | (simp; omega)))
          rw [if_neg (by omega)]; exact ⟨(), rfl⟩
      intro _ _
      repeat' first | ((first | refine callP_false (.bool false) ?_ | refine aw_region rfl ?_ | refine aw_region_draw mixedF rfl (by kernel_rfl) ?_ | refine aE rfl ?_); simp only [go_sem]) | refine callG_y ?_ | refine callG_p ?_ | refine aw_seq ?_ | refine aw_block ?_ | refine aw_scope ?_ | ((with_reducible refine And.intro ?_ ?_); focus (first | omega | (intros; simp_all; done) | (simp; omega)))
      refine aw_cutT (ι := Unit) (fun _ => [(0, .str s), (1, .int .i64 pos), (6, .int .i64 n), (7, .int .i64 (headB n (bt s pos 0) : Nat))]) (fun _ => H) (fun _ => True) ?_ ?_
      · refine aw_cond rfl (fun h => ?_) (fun h => ?_)
        · rw [decide_eq_true_eq] at h
          repeat' first | ((first | refine callP_false (.bool false) ?_ | refine aw_region rfl ?_ | refine aw_region_draw mixedF rfl (by kernel_rfl) ?_ | refine aE rfl ?_); simp only [go_sem, hpl, hb0, hw1, t8]) | refine callG_y ?_ | refine callG_p ?_ | refine aw_seq ?_ | refine aw_block ?_ | refine aw_scope ?_ | (refine aw_cond rfl (fun h => ?_) (fun h => ?_) <;> try (exfalso; first | (simp at h; done) | (simp at h; omega))) | ((with_reducible refine And.intro ?_ ?_); focus (first | omega | (intros; simp_all; done) | (simp; omega)))
          rw [headB, if_neg (by omega), if_pos (by omega)]; exact ⟨(), rfl⟩
        · rw [decide_eq_false_iff_not] at h
          repeat' first | ((first | refine callP_false (.bool false) ?_ | refine aw_region rfl ?_ | refine aw_region_draw mixedF rfl (by kernel_rfl) ?_ | refine aE rfl ?_); simp only [go_sem]) | refine callG_y ?_ | refine callG_p ?_ | refine aw_seq ?_ | refine aw_block ?_ | refine aw_scope ?_ | (refine aw_cond rfl (fun h => ?_) (fun h => ?_) <;> try (exfalso; first | (simp at h; done) | (simp at h; omega))) | ((with_reducible refine And.intro ?_ ?_); focus (first | omega | (intros; simp_all; done) | (simp; omega)))
          refine ⟨(), ?_⟩
          unfold headB
          by_cases h3 : n = 3
          · rw [if_pos h3, if_pos h3]
          · rw [if_neg h3, if_neg h3, if_neg (by omega)]
      intro _ _
      have hR := rAcc_lt s pos n
      repeat' first | ((first | refine callP_false (.bool false) ?_ | refine aw_region rfl ?_ | refine aw_region_draw mixedF rfl (by kernel_rfl) ?_ | refine aE rfl ?_); simp only [go_sem]) | refine callG_y ?_ | refine callG_p ?_ | refine aw_seq ?_ | refine aw_block ?_ | refine aw_scope ?_ | ((with_reducible refine And.intro ?_ ?_); focus (first | omega | (intros; simp_all; done) | (simp; omega)))
      refine aw_loopS (ι := Nat) (fun i => [(0, .str s), (1, .int .i64 pos), (6, .int .i64 n), (7, .int .i64 (rAcc s pos n i)), (8, .int .i64 (i + 1 : Nat))]) (fun _ => H) (fun i => i + 1 ≤ n ∧ contN s pos i = true) (fun i => n - i) 0 ⟨by omega, rfl⟩ ?_ rfl ?_
      · simp [go_sem, rAcc]
      · rintro i ⟨hi, hco⟩
        have hRi := hR i
        have hRl : 64 ^ (i + 1) ≤ 16777216 := by
          rcases (show i = 0 ∨ i = 1 ∨ i = 2 ∨ i = 3 by omega) with rfl | rfl | rfl | rfl <;> decide
        by_cases hlt : i + 1 < n
        · have hlt2 : decide (((i + 1 : Nat) : Int) < (n : Int)) = true := decide_eq_true (by omega)
          obtain ⟨q, hq⟩ : ∃ q, q = pos + (i + 1) := ⟨_, rfl⟩
          have hw2 : IntKind.i64.wrap ((pos : Int) + ((i + 1 : Nat) : Int)) = (q : Int) := wrap_nat (by omega) (by omega)
          have hw3 : IntKind.i64.wrap (((i + 1 : Nat) : Int) + 1) = ((i + 1 + 1 : Nat) : Int) := wrap_nat (by omega) (by omega)
          have hql : ((q : Int) < (s.length : Int)) := by omega
          have hbi : (s.getD q 0).toNat = bt s pos (i + 1) := by rw [hq]; rfl
          have hb2 := bt_lt s pos (i + 1)
          have hw4 : IntKind.i64.wrap (bt s pos (i + 1) : Int) = (bt s pos (i + 1) : Int) := wrap_nat rfl (by omega)
          have t2 : ((bt s pos (i + 1) : Nat) : Int).tmod 64 = ((bt s pos (i + 1) % 64 : Nat) : Int) := tmod_nat (bt s pos (i + 1)) 64
          have hw5 : IntKind.i64.wrap ((rAcc s pos n i : Int) * 64) = ((rAcc s pos n i * 64 : Nat) : Int) := wrap_nat (by omega) (by omega)
          have hw6 : IntKind.i64.wrap (((rAcc s pos n i * 64 : Nat) : Int) + ((bt s pos (i + 1) % 64 : Nat) : Int)) = ((rAcc s pos n (i + 1) : Nat) : Int) := wrap_nat (by rw [rAcc]; omega) (by rw [rAcc]; omega)
          cases hcb : contB s pos (i + 1) with
          | true =>
            unfold contB at hcb
            rw [Bool.and_eq_true, decide_eq_true_eq, decide_eq_true_eq] at hcb
            have hc1 : decide ((bt s pos (i + 1) : Int) < 128) = false := decide_eq_false (by omega)
            have hc2 : decide ((192 : Int) ≤ (bt s pos (i + 1) : Int)) = false := decide_eq_false (by omega)
            repeat' first | ((first | refine callP_false (.bool false) ?_ | refine aw_region rfl ?_ | refine aw_region_draw mixedF rfl (by kernel_rfl) ?_ | refine aE rfl ?_); simp only [go_sem, hlt2, hw2, hw3, hql, hbi, hw4, t2, hw5, hw6, hc1, hc2]) | refine callG_y ?_ | refine callG_p ?_ | refine aw_seq ?_ | refine aw_block ?_ | refine aw_scope ?_ | (refine aw_cond rfl (fun h => ?_) (fun h => ?_) <;> try (exfalso; first | (simp at h; done) | (simp at h; omega))) | ((with_reducible refine And.intro ?_ ?_); focus (first | omega | (intros; simp_all; done) | (simp; omega)))
            refine ⟨i + 1, ⟨hlt, by rw [contN, hco]; unfold contB; rw [decide_eq_true hcb.1, decide_eq_true hcb.2]; rfl⟩, by omega, rfl, rfl⟩
          | false =>
            have hno : ¬ (contN s pos (n - 1) = true ∧ badR n (rAcc s pos n (n - 1)) = false) := by
              rintro ⟨q1, -⟩
              have key : ∀ k, contN s pos (i + 1 + k) = true → False := by
                intro k
                induction k with
                | zero => intro h; rw [Nat.add_zero, contN, hcb, Bool.and_false] at h; cases h
                | succ k ih => intro h; rw [← Nat.add_assoc, contN, Bool.and_eq_true] at h; exact ih h.1
              obtain ⟨k, hk⟩ : ∃ k, n - 1 = i + 1 + k := ⟨n - 1 - (i + 1), by omega⟩
              rw [hk] at q1
              exact key k q1
            rw [if_neg hno]
            unfold contB at hcb
            rw [Bool.and_eq_false_iff, decide_eq_false_iff_not, decide_eq_false_iff_not] at hcb
            by_cases h128 : bt s pos (i + 1) < 128
            · have hc1 : decide ((bt s pos (i + 1) : Int) < 128) = true := decide_eq_true (by omega)
              repeat' first | ((first | refine callP_false (.bool false) ?_ | refine aw_region rfl ?_ | refine aw_region_draw mixedF rfl (by kernel_rfl) ?_ | refine aE rfl ?_); simp only [go_sem, hlt2, hw2, hw3, hql, hbi, hw4, t2, hw5, hw6, hc1]) | refine callG_y ?_ | refine callG_p ?_ | refine aw_seq ?_ | refine aw_block ?_ | refine aw_scope ?_ | (refine aw_cond rfl (fun h => ?_) (fun h => ?_) <;> try (exfalso; first | (simp at h; done) | (simp at h; omega))) | ((with_reducible refine And.intro ?_ ?_); focus (first | omega | (intros; simp_all; done) | (simp; omega)))
              exact done0 (by simp only [go_sem]) (.refl _)
            · have hc1 : decide ((bt s pos (i + 1) : Int) < 128) = false := decide_eq_false (by omega)
              have hc2 : decide ((192 : Int) ≤ (bt s pos (i + 1) : Int)) = true := decide_eq_true (by omega)
              repeat' first | ((first | refine callP_false (.bool false) ?_ | refine aw_region rfl ?_ | refine aw_region_draw mixedF rfl (by kernel_rfl) ?_ | refine aE rfl ?_); simp only [go_sem, hlt2, hw2, hw3, hql, hbi, hw4, t2, hw5, hw6, hc1, hc2]) | refine callG_y ?_ | refine callG_p ?_ | refine aw_seq ?_ | refine aw_block ?_ | refine aw_scope ?_ | (refine aw_cond rfl (fun h => ?_) (fun h => ?_) <;> try (exfalso; first | (simp at h; done) | (simp at h; omega))) | ((with_reducible refine And.intro ?_ ?_); focus (first | omega | (intros; simp_all; done) | (simp; omega)))
              exact done0 (by simp only [go_sem]) (.refl _)
        · have hie : i = n - 1 := by omega
          have hlt2 : decide (((i + 1 : Nat) : Int) < (n : Int)) = false := decide_eq_false (by omega)
          have hle := rleast_c n
          rw [← hie]
          have hbad : badR n (rAcc s pos n i) = (decide ((rAcc s pos n i : Int) < (leastB n : Int)) || (decide ((55296 : Int) ≤ (rAcc s pos n i : Int)) && decide ((rAcc s pos n i : Int) ≤ 57343)) || decide ((1114111 : Int) < (rAcc s pos n i : Int))) := by
            unfold badR
            simp only [Int.ofNat_lt]
            have e1 : decide (55296 ≤ rAcc s pos n i) = decide ((55296 : Int) ≤ (rAcc s pos n i : Int)) := by rw [decide_eq_decide]; omega
            have e2 : decide (rAcc s pos n i ≤ 57343) = decide ((rAcc s pos n i : Int) ≤ 57343) := by rw [decide_eq_decide]; omega
            have e3 : decide (1114111 < rAcc s pos n i) = decide ((1114111 : Int) < (rAcc s pos n i : Int)) := by rw [decide_eq_decide]; omega
            rw [e1, e2, e3]
          cases hb : badR n (rAcc s pos n i) with
          | true =>
            rw [if_neg (by rintro ⟨-, q⟩; cases q)]
            rw [hb] at hbad
            have ct0 := ct hle callOk116F; repeat' first | ((first | refine cK (by assumption) ?_ | refine cP (by assumption) ?_ | refine cM (by assumption) ?_ | refine callP_false (.bool false) ?_ | refine aw_region rfl ?_ | refine aw_region_draw mixedF rfl (by kernel_rfl) ?_ | refine aE rfl ?_); simp only [go_sem, hlt2, ← hbad]) | refine callG_y ?_ | refine callG_p ?_ | refine aw_seq ?_ | refine aw_block ?_ | refine aw_scope ?_ | (refine aw_cond rfl (fun h => ?_) (fun h => ?_) <;> try (exfalso; first | (simp at h; done) | (simp at h; omega))) | ((with_reducible refine And.intro ?_ ?_); focus (first | omega | (intros; simp_all; done) | (simp; omega)))
            exact done0 (by simp only [go_sem]) (.refl _)
          | false =>
            rw [if_pos ⟨hco, rfl⟩]
            rw [hb] at hbad
            have ct0 := ct hle callOk116F; repeat' first | ((first | refine cK (by assumption) ?_ | refine cP (by assumption) ?_ | refine cM (by assumption) ?_ | refine callP_false (.bool false) ?_ | refine aw_region rfl ?_ | refine aw_region_draw mixedF rfl (by kernel_rfl) ?_ | refine aE rfl ?_); simp only [go_sem, hlt2, ← hbad]) | refine callG_y ?_ | refine callG_p ?_ | refine aw_seq ?_ | refine aw_block ?_ | refine aw_scope ?_ | (refine aw_cond rfl (fun h => ?_) (fun h => ?_) <;> try (exfalso; first | (simp at h; done) | (simp at h; omega))) | ((with_reducible refine And.intro ?_ ?_); focus (first | omega | (intros; simp_all; done) | (simp; omega)))
            exact done0 (by simp only [go_sem]) (.refl _)

def spellI (r : Option (List Int)) : AV :=
  match r with
  | some l => .tup [.sl false (l.map inA), .bool true]
  | none => .tup [.sl false [], .bool false]
theorem takeB_le {s : Txt} {pos : Nat} (h : (takeB s pos).2 ≠ 0) : pos + (takeB s pos).2 ≤ s.length ∧ (takeB s pos).1 < 16777216 := by
  have h4 := szB_le (bt s pos 0)
  have hb := bt_lt s pos 0
  have hr := rAcc_lt s pos (szB (bt s pos 0)) (szB (bt s pos 0) - 1)
  unfold takeB at h ⊢
  split at h
  · exact absurd rfl h
  · rename_i h1
    rw [if_neg h1]
    split at h
    · rename_i h2
      rw [if_pos h2]; exact ⟨by simp only; omega, by simp only; omega⟩
    · rename_i h2
      rw [if_neg h2]
      split at h
      · rename_i h3
        rw [if_pos h3]
        refine ⟨by simp only; omega, ?_⟩
        simp only
        have : 64 ^ (szB (bt s pos 0) - 1 + 1) ≤ 16777216 := by
          rcases (show szB (bt s pos 0) = 2 ∨ szB (bt s pos 0) = 3 ∨ szB (bt s pos 0) = 4 by omega) with e | e | e <;> rw [e] <;> decide
        omega
      · exact absurd rfl h

theorem rall_c (s : Txt) (hs : s.length ≤ 1073741824) (H : AHeap) : FnC Tryz.prog 85 [.str s] H (spellI (spell s)) := by
  refine fnC_of Tryz.func85 rfl (Nat.le_of_ble_eq_true rfl) ?_
  repeat' first | ((first | refine callP_false (.bool false) ?_ | refine aw_region rfl ?_ | refine aw_region_draw mixedF rfl (by kernel_rfl) ?_ | refine aE rfl ?_); simp only [go_sem]) | refine callG_y ?_ | refine callG_p ?_ | refine aw_seq ?_ | refine aw_block ?_ | refine aw_scope ?_ | (refine aw_cond rfl (fun h => ?_) (fun h => ?_) <;> try (exfalso; first | (simp at h; done) | (simp at h; omega))) | ((with_reducible refine And.intro ?_ ?_); focus (first | omega | (intros; simp_all; done) | (simp; omega)))
  refine aw_void 4 1 rfl ?_
  refine aw_loopS (ι := Nat × List Int) (fun x => [(0, .str s), (4, .osl 1 H.length (x.2.length + 1) 0 x.2.length x.2.length), (5, .int .i64 x.1)]) (fun x => H ++ [.cells (x.2.length + 1) (x.2.map inA)])
    (fun x => spellT s x.2 x.1 = spell s ∧ x.2.length ≤ x.1 ∧ x.1 ≤ s.length) (fun x => s.length - x.1) (0, []) ⟨?_, Nat.le_refl _, Nat.zero_le _⟩ ?_ ?_ ?_
  · show (spellA s (s.length - 0) 0).map _ = _
    rw [spell, Nat.sub_zero]
    cases spellA s s.length 0 <;> simp
  · simp [go_sem]
  · simp
  · rintro ⟨pos, acc⟩ ⟨h1, h2, h3⟩
    simp only at h1 h2 h3 ⊢
    by_cases hlt : pos < s.length
    · have hli : decide ((pos : Int) < (s.length : Int)) = true := decide_eq_true (by omega)
      have hst := spell_step (acc := acc) hlt
      rw [h1] at hst
      have htk := rtake_c s pos hlt hs
      by_cases hz : (takeB s pos).2 = 0
      · rw [if_pos hz] at hst
        rw [hst]
        have hzz : decide (((takeB s pos).2 : Int) = 0) = true := decide_eq_true (by omega)
        have ct0 := ct htk callOk102F; repeat' first | ((first | refine cK (by assumption) ?_ | refine cP (by assumption) ?_ | refine cM (by assumption) ?_ | refine callP_false (.bool false) ?_ | refine aw_region rfl ?_ | refine aw_region_draw mixedF rfl (by kernel_rfl) ?_ | refine aE rfl ?_); simp only [go_sem, hli, hzz]) | refine callG_y ?_ | refine callG_p ?_ | refine aw_seq ?_ | refine aw_block ?_ | refine aw_scope ?_ | (refine aw_cond rfl (fun h => ?_) (fun h => ?_) <;> try (exfalso; first | (simp at h; done) | (simp at h; omega))) | ((with_reducible refine And.intro ?_ ?_); focus (first | omega | (intros; simp_all; done) | (simp; omega)))
        exact done (by simp only [go_sem]) (.tup _ _ rfl (sims_cons (.sl _ _) (sims_cons (.refl _) sims_nil)))
      · rw [if_neg hz] at hst
        obtain ⟨hl1, hl2⟩ := takeB_le hz
        have hzz : decide (((takeB s pos).2 : Int) = 0) = false := decide_eq_false (by omega)
        have hw : IntKind.i64.wrap ((pos : Int) + ((takeB s pos).2 : Int)) = ((pos + (takeB s pos).2 : Nat) : Int) := wrap_nat (by omega) (by omega)
        generalize (takeB s pos).2 = k at *
        generalize (takeB s pos).1 = r at *
        have ct0 := ct htk callOk102F; repeat' first | ((first | refine cK (by assumption) ?_ | refine cP (by assumption) ?_ | refine cM (by assumption) ?_ | refine callP_false (.bool false) ?_ | refine aw_region rfl ?_ | refine aw_region_draw mixedF rfl (by kernel_rfl) ?_ | refine aE rfl ?_); simp only [go_sem, hli, hzz, hw]) | refine callG_y ?_ | refine callG_p ?_ | refine aw_seq ?_ | refine aw_block ?_ | refine aw_scope ?_ | (refine aw_cond rfl (fun h => ?_) (fun h => ?_) <;> try (exfalso; first | (simp at h; done) | (simp at h; omega))) | ((with_reducible refine And.intro ?_ ?_); focus (first | omega | (intros; simp_all; done) | (simp; omega)))
        refine ⟨⟨by omega, fun e he => by rw [he]; rfl, by omega⟩, ?_⟩
        repeat' first | ((first | refine callP_false (.bool false) ?_ | refine aw_region rfl ?_ | refine aw_region_draw mixedF rfl (by kernel_rfl) ?_ | refine aE rfl ?_); simp only [go_sem, hw]) | refine callG_y ?_ | refine callG_p ?_ | refine aw_seq ?_ | refine aw_block ?_ | refine aw_scope ?_ | (refine aw_cond rfl (fun h => ?_) (fun h => ?_) <;> try (exfalso; first | (simp at h; done) | (simp at h; omega))) | ((with_reducible refine And.intro ?_ ?_); focus (first | omega | (intros; simp_all; done) | (simp; omega)))
        exact ⟨(pos + k, acc ++ [(r : Int)]), ⟨hst.symm, by simp only [List.length_append, List.length_singleton]; omega, hl1⟩, by simp only; omega, ⟨by simp only [List.length_append, List.length_singleton], rfl⟩, by simp only [List.map_append, List.length_append, List.length_singleton]; rfl⟩
    · have hli : decide ((pos : Int) < (s.length : Int)) = false := decide_eq_false (by omega)
      rw [← h1, spellT_end hlt]
      repeat' first | ((first | refine callP_false (.bool false) ?_ | refine aw_region rfl ?_ | refine aw_region_draw mixedF rfl (by kernel_rfl) ?_ | refine aE rfl ?_); simp only [go_sem, hli]) | refine callG_y ?_ | refine callG_p ?_ | refine aw_seq ?_ | refine aw_block ?_ | refine aw_scope ?_ | (refine aw_cond rfl (fun h => ?_) (fun h => ?_) <;> try (exfalso; first | (simp at h; done) | (simp at h; omega))) | ((with_reducible refine And.intro ?_ ?_); focus (first | omega | (intros; simp_all; done) | (simp; omega)))
      refine ⟨_, _, rfl, ?_, rfl⟩
      refine .tup _ _ rfl fun i x y hx hy => ?_
      match i, hx, hy with
      | 0, hx, hy =>
        cases hx; cases hy
        exact frz_osl (es := acc.map inA) (rest := []) (Nat.le_refl _) (by simp only [go_sem]; rfl) (by rw [List.append_nil, flat_in]) (List.length_map ..) (fun e he => by obtain ⟨x, _, rfl⟩ := List.mem_map.1 he; rfl) (fun e he => by obtain ⟨x, _, rfl⟩ := List.mem_map.1 he; exact (by simp only [go_sem]))
      | 1, hx, hy => cases hx; cases hy; exact .cl _ (.bool _)
      | i + 2, hx, _ => simp at hx

theorem rname_c (s : Txt) (hs : s.length ≤ 1073741824) (H : AHeap) : FnC Tryz.prog 58 [.str s] H (.bool (nameOk s)) := by
  refine fnC_of Tryz.func58 rfl (Nat.le_of_ble_eq_true rfl) ?_
  have hall := rall_c s hs
  unfold nameOk
  cases hr : spell s with
  | none =>
    rw [hr] at hall
    simp only [spellI] at hall
    have ct0 := ct hall callOk85F; repeat' first | ((first | refine cK (by assumption) ?_ | refine cP (by assumption) ?_ | refine cM (by assumption) ?_ | refine callP_false (.bool false) ?_ | refine aw_region rfl ?_ | refine aw_region_draw mixedF rfl (by kernel_rfl) ?_ | refine aE rfl ?_); simp only [go_sem]) | refine callG_y ?_ | refine callG_p ?_ | refine aw_seq ?_ | refine aw_block ?_ | refine aw_scope ?_ | (refine aw_cond rfl (fun h => ?_) (fun h => ?_) <;> try (exfalso; first | (simp at h; done) | (simp at h; omega))) | ((with_reducible refine And.intro ?_ ?_); focus (first | omega | (intros; simp_all; done) | (simp; omega)))
    exact done0 (by simp only [go_sem]) (.refl _)
  | some l =>
    rw [hr] at hall
    simp only [spellI] at hall
    simp only
    have ct0 := ct hall callOk85F; repeat' first | ((first | refine cK (by assumption) ?_ | refine cP (by assumption) ?_ | refine cM (by assumption) ?_ | refine callP_false (.bool false) ?_ | refine aw_region rfl ?_ | refine aw_region_draw mixedF rfl (by kernel_rfl) ?_ | refine aE rfl ?_); simp only [go_sem]) | refine callG_y ?_ | refine callG_p ?_ | refine aw_seq ?_ | refine aw_block ?_ | refine aw_scope ?_ | ((with_reducible refine And.intro ?_ ?_); focus (first | omega | (intros; simp_all; done) | (simp; omega)))
    refine aw_cond rfl (fun h => ?_) (fun h => ?_)
    · rw [h]
      repeat' first | ((first | refine callP_false (.bool false) ?_ | refine aw_region rfl ?_ | refine aw_region_draw mixedF rfl (by kernel_rfl) ?_ | refine aE rfl ?_); simp only [go_sem]) | refine callG_y ?_ | refine callG_p ?_ | refine aw_seq ?_ | refine aw_block ?_ | refine aw_scope ?_ | (refine aw_cond rfl (fun h => ?_) (fun h => ?_) <;> try (exfalso; first | (simp at h; done) | (simp at h; omega))) | ((with_reducible refine And.intro ?_ ?_); focus (first | omega | (intros; simp_all; done) | (simp; omega)))
      exact done0 (by simp only [go_sem]) (.refl _)
    rw [h]
    refine aw_skip ?_
    simp only [go_sem]
    repeat' first | ((first | refine callP_false (.bool false) ?_ | refine aw_region rfl ?_ | refine aw_region_draw mixedF rfl (by kernel_rfl) ?_ | refine aE rfl ?_); simp only [go_sem]) | refine callG_y ?_ | refine callG_p ?_ | refine aw_seq ?_ | refine aw_block ?_ | refine aw_scope ?_ | (refine aw_cond rfl (fun h => ?_) (fun h => ?_) <;> try (exfalso; first | (simp at h; done) | (simp at h; omega))) | ((with_reducible refine And.intro ?_ ?_); focus (first | omega | (intros; simp_all; done) | (simp; omega)))
    refine aw_loopS (ι := Nat) (fun i => [(3, .sl false (l.map inA)), (5, .int .i64 i)]) (fun _ => H) (fun i => i ≤ l.length ∧ ∀ x ∈ l.take i, barredI x = false) (fun i => l.length - i) 0 ⟨Nat.zero_le _, by simp⟩ ?_ rfl ?_
    · simp [go_sem]
    · rintro i ⟨hi, hall2⟩
      by_cases hlt : i < l.length
      · have hpi := getD_map inA hlt
        have hli : decide ((i : Int) < (l.length : Int)) = true := decide_eq_true (by omega)
        have htk : l.take (i + 1) = l.take i ++ [l[i]] := List.take_succ_eq_append_getElem hlt
        have hmem : l[i] ∈ l := List.getElem_mem hlt
        have hbd : barredI l[i] = (decide (l[i] < 32) || decide (l[i] = 47) || decide (l[i] = 127)) := rfl
        have hsl := spellA_le s s.length 0 l hr
        have hws := wrap_succ hlt (show l.length ≤ 9223372036854775807 by omega)
        generalize l[i] = c at *
        cases hb : barredI c with
        | true =>
          rw [hb] at hbd
          have hany : l.any barredI = true := List.any_eq_true.2 ⟨c, hmem, hb⟩
          repeat' first | ((first | refine callP_false (.bool false) ?_ | refine aw_region rfl ?_ | refine aw_region_draw mixedF rfl (by kernel_rfl) ?_ | refine aE rfl ?_); simp only [go_sem, hpi, hli, inA, ← hbd]) | refine callG_y ?_ | refine callG_p ?_ | refine aw_seq ?_ | refine aw_block ?_ | refine aw_scope ?_ | (refine aw_cond rfl (fun h => ?_) (fun h => ?_) <;> try (exfalso; first | (simp at h; done) | (simp at h; omega))) | ((with_reducible refine And.intro ?_ ?_); focus (first | omega | (intros; simp_all; done) | (simp; omega)))
          rw [hany]; exact done0 (by simp only [go_sem]) (.refl _)
        | false =>
          rw [hb] at hbd
          repeat' first | ((first | refine callP_false (.bool false) ?_ | refine aw_region rfl ?_ | refine aw_region_draw mixedF rfl (by kernel_rfl) ?_ | refine aE rfl ?_); simp only [go_sem, hpi, hli, inA, ← hbd]) | refine callG_y ?_ | refine callG_p ?_ | refine aw_seq ?_ | refine aw_block ?_ | refine aw_scope ?_ | (refine aw_cond rfl (fun h => ?_) (fun h => ?_) <;> try (exfalso; first | (simp at h; done) | (simp at h; omega))) | ((with_reducible refine And.intro ?_ ?_); focus (first | omega | (intros; simp_all; done) | (simp; omega)))
          refine ⟨i + 1, ⟨hlt, fun x hx => ?_⟩, by omega, congrArg _ hws⟩
          rw [htk, List.mem_append] at hx
          rcases hx with hx | hx
          · exact hall2 x hx
          · rw [List.mem_singleton] at hx; rw [hx, hb]
      · have hie : i = l.length := by omega
        subst hie
        have hli : decide ((l.length : Int) < (l.length : Int)) = false := by simp
        have hany : l.any barredI = false := by
          rw [List.take_length] at hall2
          rw [List.any_eq_false]; intro x hx; rw [hall2 x hx]; decide
        repeat' first | ((first | refine callP_false (.bool false) ?_ | refine aw_region rfl ?_ | refine aw_region_draw mixedF rfl (by kernel_rfl) ?_ | refine aE rfl ?_); simp only [go_sem, hli]) | refine callG_y ?_ | refine callG_p ?_ | refine aw_seq ?_ | refine aw_block ?_ | refine aw_scope ?_ | (refine aw_cond rfl (fun h => ?_) (fun h => ?_) <;> try (exfalso; first | (simp at h; done) | (simp at h; omega))) | ((with_reducible refine And.intro ?_ ?_); focus (first | omega | (intros; simp_all; done) | (simp; omega)))
        rw [hany]; exact done0 (by simp only [go_sem]) (.refl _)
end Go.Proofs.YtmknmapgfjmioaaGreatDoor
/- The document's paths, and what it sees in a directory. No condition but the length of what comes in. -/
namespace Go.Gw
open Go Go.Aw Go.Proofs.YtmknmapgfjmioaaGreatDoor
/-- The names of what is left of a path, behind some names and the beginning of one more. -/
def rsp (out : List Txt) (seg : Txt) : List UInt8 → Option (List Txt)
  | [] => if nameOk seg = true ∧ out.length ≠ 16 then some (out ++ [seg]) else none
  | c :: rest => if c = 47 then (if nameOk seg = true ∧ out.length ≠ 16 then rsp (out ++ [seg]) [] rest else none) else rsp out (seg ++ [c]) rest
def prefH (seg : Txt) : List Txt → List Txt
  | [] => [seg]
  | x :: t => (seg ++ x) :: t
theorem rsp_eq (rest : List UInt8) : ∀ (out : List Txt) (seg : Txt), out.length ≤ 16 → rsp out seg rest = if (prefH seg (splitB 47 rest)).all nameOk = true ∧ out.length + (splitB 47 rest).length ≤ 16 then some (out ++ prefH seg (splitB 47 rest)) else none := by
  induction rest with
  | nil =>
    intro out seg h
    simp only [rsp, splitB, prefH, List.append_nil, List.all_cons, List.all_nil, Bool.and_true, List.length_cons, List.length_nil]
    by_cases h1 : nameOk seg = true ∧ out.length ≠ 16
    · rw [if_pos h1, if_pos ⟨h1.1, by omega⟩]
    · rw [if_neg h1, if_neg (fun q => h1 ⟨q.1, by omega⟩)]
  | cons c rest ih =>
    intro out seg h
    obtain ⟨y, t, hs⟩ : ∃ y t, splitB 47 rest = y :: t := by
      cases hs : splitB 47 rest with
      | nil => exact absurd hs (splitB_ne 47 rest)
      | cons y t => exact ⟨y, t, rfl⟩
    rw [rsp, splitB, hs]
    simp only
    by_cases hc : c = 47
    · rw [if_pos hc, if_pos hc]
      by_cases h1 : nameOk seg = true ∧ out.length ≠ 16
      · rw [if_pos h1, ih _ _ (by simp; omega), hs]
        simp only [prefH, List.nil_append, List.append_nil, List.all_cons, h1.1, Bool.true_and, List.length_append, List.length_cons, List.length_nil, List.append_assoc, List.cons_append]
        congr 1
        apply propext
        constructor <;> rintro ⟨a, b⟩ <;> exact ⟨a, by omega⟩
      · rw [if_neg h1, if_neg]
        simp only [prefH, List.append_nil, List.all_cons, Bool.and_eq_true, List.length_cons]
        rintro ⟨⟨a, -⟩, b⟩
        exact h1 ⟨a, by omega⟩
    · rw [if_neg hc, if_neg hc, ih _ _ h, hs]
      have e1 : prefH (seg ++ [c]) (y :: t) = prefH seg ((c :: y) :: t) := by simp [prefH]
      rw [e1]
      rfl
theorem prefH_nil (l : List Txt) (h : l ≠ []) : prefH [] l = l := by
  cases l with
  | nil => exact absurd rfl h
  | cons x t => rfl
theorem rsp_top (l : Txt) : rsp [] [] l = if fitN (splitB 47 l) = true then some (splitB 47 l) else none := by
  rw [rsp_eq l [] [] (Nat.zero_le _), prefH_nil _ (splitB_ne 47 l), fitN]
  simp only [List.length_nil, Nat.zero_add, List.nil_append, Bool.and_eq_true, decide_eq_true_eq]
  congr 1
  apply propext
  constructor <;> rintro ⟨a, b⟩ <;> exact ⟨by omega, by first | exact a | omega⟩
/-! ### What is seen by a name -/
def behB (a b : Nd) : Bool := lessI b.moved.c b.moved.r a.moved.c a.moved.r || (decide (a.moved = b.moved) && decide (b.id < a.id))
def stepB (dir : Int) (s : Txt) (b : Option Nd) (n : Nd) : Option Nd := if (inD dir n && decide (n.name = s) && (match b with | none => true | some o => behB n o)) = true then some n else b
theorem lookN_set (s : Txt) (n : Nd) (m : List (Txt × Nd)) (u : Txt) : lookN s (setN u n m) = if u = s then some n else lookN s m := by
  induction m with
  | nil => simp only [setN, lookN]
  | cons p m ih =>
    obtain ⟨k, x⟩ := p
    rw [setN]
    by_cases h : k = u
    · rw [if_pos h, lookN, lookN]
      subst h
      split
      · rfl
      · rfl
    · rw [if_neg h, lookN, lookN, ih]
      by_cases h2 : k = s
      · rw [if_pos h2, if_pos h2]
        split
        · rename_i h3; exact absurd (h2.trans h3.symm) h
        · rfl
      · rw [if_neg h2, if_neg h2]
theorem less_beh {a b : Nd} (h : b.id < a.id) : behB a b = !lessI a.moved.c a.moved.r b.moved.c b.moved.r := by
  unfold behB lessI
  rw [decide_eq_true h, Bool.and_true, Bool.eq_iff_iff]
  obtain ⟨_, _, _, ⟨c1, r1⟩, _, _⟩ := a
  obtain ⟨_, _, _, ⟨c2, r2⟩, _, _⟩ := b
  simp only [Bool.or_eq_true, Bool.and_eq_true, decide_eq_true_eq, Bool.not_eq_true', Bool.or_eq_false_iff, Bool.and_eq_false_iff, decide_eq_false_iff_not, Stm.mk.injEq]
  omega
theorem look_step {dir : Int} {s : Txt} {m : List (Txt × Nd)} {n : Nd} (h : ∀ o, lookN s m = some o → o.id < n.id) : lookN s (seeN dir m n) = stepB dir s (lookN s m) n := by
  unfold seeN stepB
  cases hi : inD dir n with
  | false => simp
  | true =>
    rw [if_pos rfl, Bool.true_and]
    unfold putV
    by_cases hs : n.name = s
    · subst hs
      rw [decide_eq_true rfl, Bool.true_and]
      cases hl : lookN n.name m with
      | none => simp only [lookN_set]; simp
      | some o =>
        simp only [less_beh (h o hl)]
        cases hb : lessI n.moved.c n.moved.r o.moved.c o.moved.r with
        | true => simp [hl]
        | false => simp [lookN_set]
    · rw [decide_eq_false hs, Bool.false_and]
      simp only [Bool.false_eq_true, if_false]
      split
      · rw [lookN_set, if_neg hs]
      · split
        · rfl
        · rw [lookN_set, if_neg hs]
theorem stepB_mem {dir : Int} {s : Txt} {b : Option Nd} {n o : Nd} (h : stepB dir s b n = some o) : o = n ∨ b = some o := by
  unfold stepB at h
  cases b with
  | none =>
    cases hq : (inD dir n && decide (n.name = s)) <;> simp only [hq] at h <;> simp at h
    exact .inl h.symm
  | some o' =>
    cases hq : (inD dir n && decide (n.name = s)) <;> cases hb : behB n o' <;> simp only [hq, hb] at h <;> simp at h
    · exact .inr (by rw [h])
    · exact .inr (by rw [h])
    · exact .inr (by rw [h])
    · exact .inl h.symm
theorem look_fold (dir : Int) (s : Txt) : ∀ (k : List Nd) (m : List (Txt × Nd)), (∀ o, lookN s m = some o → ∀ n ∈ k, o.id < n.id) → k.Pairwise (fun a b => a.id < b.id) → lookN s (k.foldl (seeN dir) m) = k.foldl (stepB dir s) (lookN s m) := by
  intro k
  induction k with
  | nil => intro m _ _; rfl
  | cons n k ih =>
    intro m h hp
    rw [List.pairwise_cons] at hp
    have h1 := look_step (dir := dir) (s := s) (m := m) (n := n) (fun o ho => h o ho n (by simp))
    rw [List.foldl_cons, List.foldl_cons, ih _ (fun o ho x hx => ?_) hp.2, h1]
    rw [h1] at ho
    rcases stepB_mem ho with rfl | ho
    · exact hp.1 x hx
    · exact h o ho x (by simp [hx])
theorem child_fold (l : List Nd) (dir : Int) (s : Txt) : childN l dir s = if chk l = true then l.foldl (stepB dir s) none else none := by
  unfold childN
  cases hc : chk l with
  | false => rfl
  | true =>
    rw [if_pos rfl, if_pos rfl, seenN]
    exact look_fold dir s l [] (fun o ho => by cases ho) ((chk_iff l).1 hc).2
end Go.Gw
namespace Go.Proofs.YtmknmapgfjmioaaGreatDoor
open Go Go.Aw Go.Gw
set_option linter.unusedSimpArgs false
set_option linter.unusedVariables false
set_option maxRecDepth 20000
set_option maxHeartbeats 4000000

theorem rin_c (n : Nd) (dir : Int) (H : AHeap) : FnC Tryz.prog 91 [ndA n, .int .i64 dir] H (.bool (inD dir n)) := by
  refine fnC_of Tryz.func91 rfl (Nat.le_of_ble_eq_true rfl) ?_
  have h := rcheck_c n.moved.c n.moved.r
  unfold inD
  cases hk : okI n.moved.c n.moved.r with
  | false =>
    rw [hk] at h
    have ct0 := ct h callOk103F; repeat' first | ((first | refine cK (by assumption) ?_ | refine cP (by assumption) ?_ | refine cM (by assumption) ?_ | refine callP_false (.bool false) ?_ | refine aw_region rfl ?_ | refine aw_region_draw mixedF rfl (by kernel_rfl) ?_ | refine aE rfl ?_); simp only [go_sem, ndA]) | refine callG_y ?_ | refine callG_p ?_ | refine aw_seq ?_ | refine aw_block ?_ | refine aw_scope ?_ | (refine aw_cond rfl (fun h => ?_) (fun h => ?_) <;> try (exfalso; first | (simp at h; done) | (simp at h; omega))) | ((with_reducible refine And.intro ?_ ?_); focus (first | omega | (intros; simp_all; done) | (simp; omega)))
    exact done (by simp only [go_sem]) (.refl _)
  | true =>
    rw [hk] at h
    have ct0 := ct h callOk103F; repeat' first | ((first | refine cK (by assumption) ?_ | refine cP (by assumption) ?_ | refine cM (by assumption) ?_ | refine callP_false (.bool false) ?_ | refine aw_region rfl ?_ | refine aw_region_draw mixedF rfl (by kernel_rfl) ?_ | refine aE rfl ?_); simp only [go_sem, ndA]) | refine callG_y ?_ | refine callG_p ?_ | refine aw_seq ?_ | refine aw_block ?_ | refine aw_scope ?_ | (refine aw_cond rfl (fun h => ?_) (fun h => ?_) <;> try (exfalso; first | (simp at h; done) | (simp at h; omega))) | ((with_reducible refine And.intro ?_ ?_); focus (first | omega | (intros; simp_all; done) | (simp; omega)))
    exact done (by simp only [go_sem]) (.refl _)
theorem rbeh_c (a b : Nd) (H : AHeap) : FnC Tryz.prog 92 [ndA a, ndA b] H (.bool (behB a b)) := by
  refine fnC_of Tryz.func92 rfl (Nat.le_of_ble_eq_true rfl) ?_
  have h := rless_c b.moved.c b.moved.r a.moved.c a.moved.r
  have he := stm_eq a.moved b.moved
  unfold behB
  cases hk : lessI b.moved.c b.moved.r a.moved.c a.moved.r with
  | true =>
    rw [hk] at h
    have ct0 := ct h callOk104F; repeat' first | ((first | refine cK (by assumption) ?_ | refine cP (by assumption) ?_ | refine cM (by assumption) ?_ | refine callP_false (.bool false) ?_ | refine aw_region rfl ?_ | refine aw_region_draw mixedF rfl (by kernel_rfl) ?_ | refine aE rfl ?_); simp only [go_sem, ndA]) | refine callG_y ?_ | refine callG_p ?_ | refine aw_seq ?_ | refine aw_block ?_ | refine aw_scope ?_ | (refine aw_cond rfl (fun h => ?_) (fun h => ?_) <;> try (exfalso; first | (simp at h; done) | (simp at h; omega))) | ((with_reducible refine And.intro ?_ ?_); focus (first | omega | (intros; simp_all; done) | (simp; omega)))
    exact done (by simp only [go_sem]) (.refl _)
  | false =>
    rw [hk] at h
    cases hm : decide (a.moved = b.moved) with
    | false =>
      rw [hm] at he
      have ct0 := ct h callOk104F; repeat' first | ((first | refine cK (by assumption) ?_ | refine cP (by assumption) ?_ | refine cM (by assumption) ?_ | refine callP_false (.bool false) ?_ | refine aw_region rfl ?_ | refine aw_region_draw mixedF rfl (by kernel_rfl) ?_ | refine aE rfl ?_); simp only [go_sem, ndA, he]) | refine callG_y ?_ | refine callG_p ?_ | refine aw_seq ?_ | refine aw_block ?_ | refine aw_scope ?_ | (refine aw_cond rfl (fun h => ?_) (fun h => ?_) <;> try (exfalso; first | (simp at h; done) | (simp at h; omega))) | ((with_reducible refine And.intro ?_ ?_); focus (first | omega | (intros; simp_all; done) | (simp; omega)))
      exact done (by simp only [go_sem]) (.refl _)
    | true =>
      rw [hm] at he
      have ct0 := ct h callOk104F; repeat' first | ((first | refine cK (by assumption) ?_ | refine cP (by assumption) ?_ | refine cM (by assumption) ?_ | refine callP_false (.bool false) ?_ | refine aw_region rfl ?_ | refine aw_region_draw mixedF rfl (by kernel_rfl) ?_ | refine aE rfl ?_); simp only [go_sem, ndA, he]) | refine callG_y ?_ | refine callG_p ?_ | refine aw_seq ?_ | refine aw_block ?_ | refine aw_scope ?_ | (refine aw_cond rfl (fun h => ?_) (fun h => ?_) <;> try (exfalso; first | (simp at h; done) | (simp at h; omega))) | ((with_reducible refine And.intro ?_ ?_); focus (first | omega | (intros; simp_all; done) | (simp; omega)))
      exact done (by simp only [go_sem]) (.refl _)

theorem flat_str (l : List Txt) : (l.map AV.str).flatMap AV.cells = l.map AV.str := by
  rw [List.flatMap_map]; induction l with | nil => rfl | cons x l ih => rw [List.flatMap_cons, List.map_cons, ih]; rfl
theorem rchild_c (b : Bool) (l : List Nd) (dir : Int) (s : Txt) (hl : l.length ≤ 1073741824) (H : AHeap) : FnC Tryz.prog 66 [.sl b (l.map ndA), .int .i64 dir, .str s] H (childV (childN l dir s)) := by
  refine fnC_of Tryz.func66 rfl (Nat.le_of_ble_eq_true rfl) ?_
  have hck := rchk_c b l
  rw [child_fold]
  cases hc : chk l with
  | false =>
    rw [hc] at hck
    rw [if_neg (by simp)]
    have ct0 := ct hck callOk89F; repeat' first | ((first | refine cK (by assumption) ?_ | refine cP (by assumption) ?_ | refine cM (by assumption) ?_ | refine callP_false (.bool false) ?_ | refine aw_region rfl ?_ | refine aw_region_draw mixedF rfl (by kernel_rfl) ?_ | refine aE rfl ?_); simp only [go_sem]) | refine callG_y ?_ | refine callG_p ?_ | refine aw_seq ?_ | refine aw_block ?_ | refine aw_scope ?_ | (refine aw_cond rfl (fun h => ?_) (fun h => ?_) <;> try (exfalso; first | (simp at h; done) | (simp at h; omega))) | ((with_reducible refine And.intro ?_ ?_); focus (first | omega | (intros; simp_all; done) | (simp; omega)))
    refine aw_loopS (ι := Unit) (fun _ => [(0, .sl b (l.map ndA)), (8, .bool false), (9, .int .i64 (-1)), (10, .int .i64 0)]) (fun _ => H) (fun _ => True) (fun _ => 0) () trivial ?_ rfl ?_
    · simp [go_sem]
    · rintro _ _
      by_cases h0 : 0 < l.length
      · have hli : ((0 : Int) < ((l.length : Nat) : Int)) = True := eq_true (by omega)
        repeat' first | ((first | refine callP_false (.bool false) ?_ | refine aw_region rfl ?_ | refine aw_region_draw mixedF rfl (by kernel_rfl) ?_ | refine aE rfl ?_); simp only [go_sem, hli]) | refine callG_y ?_ | refine callG_p ?_ | refine aw_seq ?_ | refine aw_block ?_ | refine aw_scope ?_ | (refine aw_cond rfl (fun h => ?_) (fun h => ?_) <;> try (exfalso; first | (simp at h; done) | (simp at h; omega))) | ((with_reducible refine And.intro ?_ ?_); focus (first | omega | (intros; simp_all; done) | (simp; omega)))
        exact done0 (by simp only [go_sem]) (.refl _)
      · have hli : ((0 : Int) < ((l.length : Nat) : Int)) = False := eq_false (by omega)
        repeat' first | ((first | refine callP_false (.bool false) ?_ | refine aw_region rfl ?_ | refine aw_region_draw mixedF rfl (by kernel_rfl) ?_ | refine aE rfl ?_); simp only [go_sem, hli]) | refine callG_y ?_ | refine callG_p ?_ | refine aw_seq ?_ | refine aw_block ?_ | refine aw_scope ?_ | (refine aw_cond rfl (fun h => ?_) (fun h => ?_) <;> try (exfalso; first | (simp at h; done) | (simp at h; omega))) | ((with_reducible refine And.intro ?_ ?_); focus (first | omega | (intros; simp_all; done) | (simp; omega)))
        exact done0 (by simp only [go_sem]) (.refl _)
  | true =>
    rw [hc] at hck
    rw [if_pos rfl]
    have ct0 := ct hck callOk89F; repeat' first | ((first | refine cK (by assumption) ?_ | refine cP (by assumption) ?_ | refine cM (by assumption) ?_ | refine callP_false (.bool false) ?_ | refine aw_region rfl ?_ | refine aw_region_draw mixedF rfl (by kernel_rfl) ?_ | refine aE rfl ?_); simp only [go_sem]) | refine callG_y ?_ | refine callG_p ?_ | refine aw_seq ?_ | refine aw_block ?_ | refine aw_scope ?_ | (refine aw_cond rfl (fun h => ?_) (fun h => ?_) <;> try (exfalso; first | (simp at h; done) | (simp at h; omega))) | ((with_reducible refine And.intro ?_ ?_); focus (first | omega | (intros; simp_all; done) | (simp; omega)))
    refine aw_loopS (ι := Nat × Int) (fun x => [(0, .sl b (l.map ndA)), (1, .int .i64 dir), (2, .str s), (8, .bool true), (9, .int .i64 x.2), (10, .int .i64 x.1)]) (fun _ => H)
      (fun x => x.1 ≤ l.length ∧ ((x.2 = -1 ∧ (l.take x.1).foldl (stepB dir s) none = none) ∨ ∃ j, ∃ h : j < l.length, x.2 = (j : Int) ∧ (l.take x.1).foldl (stepB dir s) none = some l[j])) (fun x => l.length - x.1) (0, -1) ⟨Nat.zero_le _, .inl ⟨rfl, rfl⟩⟩ ?_ rfl ?_
    · simp [go_sem]
    · rintro ⟨k, bi⟩ ⟨hk, hb⟩
      simp only at hk hb ⊢
      by_cases hlt : k < l.length
      · have hli : ((k : Int) < ((l.length : Nat) : Int)) = True := eq_true (by omega)
        have hp := getD_map ndA hlt
        have hin := rin_c l[k] dir
        have hw : IntKind.i64.wrap ((k : Int) + 1) = ((k + 1 : Nat) : Int) := by rw [wrap_i64 (by omega) (by omega)]; rfl
        have hst : (l.take (k + 1)).foldl (stepB dir s) none = stepB dir s ((l.take k).foldl (stepB dir s) none) l[k] := by rw [List.take_succ_eq_append_getElem hlt, List.foldl_append]; rfl
        cases hi : inD dir l[k] with
        | false =>
          rw [hi] at hin
          simp only [ndA] at hin
          have ct0 := ct hin callOk91F; repeat' first | ((first | refine cK (by assumption) ?_ | refine cP (by assumption) ?_ | refine cM (by assumption) ?_ | refine callP_false (.bool false) ?_ | refine aw_region rfl ?_ | refine aw_region_draw mixedF rfl (by kernel_rfl) ?_ | refine aE rfl ?_); simp only [go_sem, hli, hp, ndA]) | refine callG_y ?_ | refine callG_p ?_ | refine aw_seq ?_ | refine aw_block ?_ | refine aw_scope ?_ | (refine aw_cond rfl (fun h => ?_) (fun h => ?_) <;> try (exfalso; first | (simp at h; done) | (simp at h; omega))) | ((with_reducible refine And.intro ?_ ?_); focus (first | omega | (intros; simp_all; done) | (simp; omega)))
          exact ⟨(k + 1, bi), ⟨hlt, by simp only [hst, stepB, hi]; exact hb⟩, by simp only; omega, ⟨rfl, congrArg _ hw⟩⟩
        | true =>
          rw [hi] at hin
          simp only [ndA] at hin
          by_cases hs : l[k].name = s
          · have hz : decide (l[k].name = s) = true := decide_eq_true hs
            rcases hb with ⟨rfl, hb⟩ | ⟨j, hj, rfl, hb⟩
            · have ct0 := ct hin callOk91F; repeat' first | ((first | refine cK (by assumption) ?_ | refine cP (by assumption) ?_ | refine cM (by assumption) ?_ | refine callP_false (.bool false) ?_ | refine aw_region rfl ?_ | refine aw_region_draw mixedF rfl (by kernel_rfl) ?_ | refine aE rfl ?_); simp only [go_sem, hli, hp, ndA, hz]) | refine callG_y ?_ | refine callG_p ?_ | refine aw_seq ?_ | refine aw_block ?_ | refine aw_scope ?_ | (refine aw_cond rfl (fun h => ?_) (fun h => ?_) <;> try (exfalso; first | (simp at h; done) | (simp at h; omega))) | ((with_reducible refine And.intro ?_ ?_); focus (first | omega | (intros; simp_all; done) | (simp; omega)))
              exact ⟨(k + 1, (k : Int)), ⟨hlt, .inr ⟨k, hlt, rfl, by simp only [hst, hb, stepB, hi, hz]; rfl⟩⟩, by simp only; omega, ⟨rfl, congrArg _ hw⟩⟩
            · have hj0 : ((j : Int) < 0) = False := eq_false (by omega)
              have hjl : ((j : Int) < ((l.length : Nat) : Int)) = True := eq_true (by omega)
              have hq := getD_map ndA hj
              have hbe := rbeh_c l[k] l[j]
              cases hbb : behB l[k] l[j] with
              | true =>
                rw [hbb] at hbe
                simp only [ndA] at hbe
                have ct0 := ct hin callOk91F; have ct1 := ct hbe callOk92F; repeat' first | ((first | refine cK (by assumption) ?_ | refine cP (by assumption) ?_ | refine cM (by assumption) ?_ | refine callP_false (.bool false) ?_ | refine aw_region rfl ?_ | refine aw_region_draw mixedF rfl (by kernel_rfl) ?_ | refine aE rfl ?_); simp only [go_sem, hli, hp, ndA, hz, hj0, hjl, hq]) | refine callG_y ?_ | refine callG_p ?_ | refine aw_seq ?_ | refine aw_block ?_ | refine aw_scope ?_ | (refine aw_cond rfl (fun h => ?_) (fun h => ?_) <;> try (exfalso; first | (simp at h; done) | (simp at h; omega))) | ((with_reducible refine And.intro ?_ ?_); focus (first | omega | (intros; simp_all; done) | (simp; omega)))
                exact ⟨(k + 1, (k : Int)), ⟨hlt, .inr ⟨k, hlt, rfl, by simp only [hst, hb, stepB, hi, hz, hbb]; rfl⟩⟩, by simp only; omega, ⟨rfl, congrArg _ hw⟩⟩
              | false =>
                rw [hbb] at hbe
                simp only [ndA] at hbe
                have ct0 := ct hin callOk91F; have ct1 := ct hbe callOk92F; repeat' first | ((first | refine cK (by assumption) ?_ | refine cP (by assumption) ?_ | refine cM (by assumption) ?_ | refine callP_false (.bool false) ?_ | refine aw_region rfl ?_ | refine aw_region_draw mixedF rfl (by kernel_rfl) ?_ | refine aE rfl ?_); simp only [go_sem, hli, hp, ndA, hz, hj0, hjl, hq]) | refine callG_y ?_ | refine callG_p ?_ | refine aw_seq ?_ | refine aw_block ?_ | refine aw_scope ?_ | (refine aw_cond rfl (fun h => ?_) (fun h => ?_) <;> try (exfalso; first | (simp at h; done) | (simp at h; omega))) | ((with_reducible refine And.intro ?_ ?_); focus (first | omega | (intros; simp_all; done) | (simp; omega)))
                exact ⟨(k + 1, (j : Int)), ⟨hlt, .inr ⟨j, hj, rfl, by simp only [hst, hb, stepB, hi, hz, hbb]; rfl⟩⟩, by simp only; omega, ⟨rfl, congrArg _ hw⟩⟩
          · have hz : decide (l[k].name = s) = false := decide_eq_false hs
            have ct0 := ct hin callOk91F; repeat' first | ((first | refine cK (by assumption) ?_ | refine cP (by assumption) ?_ | refine cM (by assumption) ?_ | refine callP_false (.bool false) ?_ | refine aw_region rfl ?_ | refine aw_region_draw mixedF rfl (by kernel_rfl) ?_ | refine aE rfl ?_); simp only [go_sem, hli, hp, ndA, hz]) | refine callG_y ?_ | refine callG_p ?_ | refine aw_seq ?_ | refine aw_block ?_ | refine aw_scope ?_ | (refine aw_cond rfl (fun h => ?_) (fun h => ?_) <;> try (exfalso; first | (simp at h; done) | (simp at h; omega))) | ((with_reducible refine And.intro ?_ ?_); focus (first | omega | (intros; simp_all; done) | (simp; omega)))
            exact ⟨(k + 1, bi), ⟨hlt, by simp only [hst, stepB, hi, hz]; exact hb⟩, by simp only; omega, ⟨rfl, congrArg _ hw⟩⟩
      · have hke : k = l.length := by omega
        subst hke
        rw [List.take_length] at hb
        have hli : ((l.length : Int) < ((l.length : Nat) : Int)) = False := eq_false (by omega)
        rcases hb with ⟨rfl, hb⟩ | ⟨j, hj, rfl, hb⟩
        · rw [hb]
          repeat' first | ((first | refine callP_false (.bool false) ?_ | refine aw_region rfl ?_ | refine aw_region_draw mixedF rfl (by kernel_rfl) ?_ | refine aE rfl ?_); simp only [go_sem, hli]) | refine callG_y ?_ | refine callG_p ?_ | refine aw_seq ?_ | refine aw_block ?_ | refine aw_scope ?_ | (refine aw_cond rfl (fun h => ?_) (fun h => ?_) <;> try (exfalso; first | (simp at h; done) | (simp at h; omega))) | ((with_reducible refine And.intro ?_ ?_); focus (first | omega | (intros; simp_all; done) | (simp; omega)))
          exact done0 (by simp only [go_sem]) (.refl _)
        · rw [hb]
          have hj0 : ((j : Int) < 0) = False := eq_false (by omega)
          have hjl : ((j : Int) < ((l.length : Nat) : Int)) = True := eq_true (by omega)
          have hq := getD_map ndA hj
          repeat' first | ((first | refine callP_false (.bool false) ?_ | refine aw_region rfl ?_ | refine aw_region_draw mixedF rfl (by kernel_rfl) ?_ | refine aE rfl ?_); simp only [go_sem, hli, hj0, hjl, hq, ndA]) | refine callG_y ?_ | refine callG_p ?_ | refine aw_seq ?_ | refine aw_block ?_ | refine aw_scope ?_ | (refine aw_cond rfl (fun h => ?_) (fun h => ?_) <;> try (exfalso; first | (simp at h; done) | (simp at h; omega))) | ((with_reducible refine And.intro ?_ ?_); focus (first | omega | (intros; simp_all; done) | (simp; omega)))
          exact done0 (by simp only [go_sem]) (.refl _)

theorem rfind8_c (b b' : Bool) (l : List Nd) (names : List Txt) (hl : l.length ≤ 1073741824) (hn : names.length ≤ 1073741824) (H : AHeap) : FnC Tryz.prog 63 [.sl b (l.map ndA), .sl b' (names.map AV.str)] H (findV (findN l names)) := by
  refine fnC_of Tryz.func63 rfl (Nat.le_of_ble_eq_true rfl) ?_
  unfold findV
  repeat' first | ((first | refine callP_false (.bool false) ?_ | refine aw_region rfl ?_ | refine aw_region_draw mixedF rfl (by kernel_rfl) ?_ | refine aE rfl ?_); simp only [go_sem]) | refine callG_y ?_ | refine callG_p ?_ | refine aw_seq ?_ | refine aw_block ?_ | refine aw_scope ?_ | (refine aw_cond rfl (fun h => ?_) (fun h => ?_) <;> try (exfalso; first | (simp at h; done) | (simp at h; omega))) | ((with_reducible refine And.intro ?_ ?_); focus (first | omega | (intros; simp_all; done) | (simp; omega)))
  refine aw_loopS (ι := Nat × Int) (fun x => [(0, .sl b (l.map ndA)), (1, .sl b' (names.map AV.str)), (6, .int .i64 x.2), (7, .int .i64 x.1)]) (fun _ => H)
    (fun x => x.1 ≤ names.length ∧ findN l names = pathN l x.2 (names.drop x.1)) (fun x => names.length - x.1) (0, 0) ⟨Nat.zero_le _, rfl⟩ ?_ rfl ?_
  · simp [go_sem]
  · rintro ⟨k, at_⟩ ⟨hk, he⟩
    simp only at hk he ⊢
    by_cases hlt : k < names.length
    · have hli : ((k : Int) < ((names.length : Nat) : Int)) = True := eq_true (by omega)
      have hp := getD_map AV.str hlt
      have hw : IntKind.i64.wrap ((k : Int) + 1) = ((k + 1 : Nat) : Int) := by rw [wrap_i64 (by omega) (by omega)]; rfl
      rw [List.drop_eq_getElem_cons hlt, pathN_step] at he
      have hd := rdir_c at_
      cases hdi : dirI at_ with
      | false =>
        rw [hdi] at hd
        rw [hdi, if_neg (by simp)] at he
        rw [he]
        have ct0 := ct hd callOk64F; repeat' first | ((first | refine cK (by assumption) ?_ | refine cP (by assumption) ?_ | refine cM (by assumption) ?_ | refine callP_false (.bool false) ?_ | refine aw_region rfl ?_ | refine aw_region_draw mixedF rfl (by kernel_rfl) ?_ | refine aE rfl ?_); simp only [go_sem, hli]) | refine callG_y ?_ | refine callG_p ?_ | refine aw_seq ?_ | refine aw_block ?_ | refine aw_scope ?_ | (refine aw_cond rfl (fun h => ?_) (fun h => ?_) <;> try (exfalso; first | (simp at h; done) | (simp at h; omega))) | ((with_reducible refine And.intro ?_ ?_); focus (first | omega | (intros; simp_all; done) | (simp; omega)))
        exact done0 (by simp only [go_sem]) (.refl _)
      | true =>
        rw [hdi] at hd
        rw [hdi, if_pos rfl] at he
        have hch := rchild_c b l at_ names[k] hl
        cases hc : childN l at_ names[k] with
        | none =>
          rw [hc] at hch he
          simp only [childV, Option.map_none, Option.getD_none, Option.isSome_none] at hch he
          rw [he]
          have ct0 := ct hd callOk64F; have ct1 := ct hch callOk66F; repeat' first | ((first | refine cK (by assumption) ?_ | refine cP (by assumption) ?_ | refine cM (by assumption) ?_ | refine callP_false (.bool false) ?_ | refine aw_region rfl ?_ | refine aw_region_draw mixedF rfl (by kernel_rfl) ?_ | refine aE rfl ?_); simp only [go_sem, hli, hp]) | refine callG_y ?_ | refine callG_p ?_ | refine aw_seq ?_ | refine aw_block ?_ | refine aw_scope ?_ | (refine aw_cond rfl (fun h => ?_) (fun h => ?_) <;> try (exfalso; first | (simp at h; done) | (simp at h; omega))) | ((with_reducible refine And.intro ?_ ?_); focus (first | omega | (intros; simp_all; done) | (simp; omega)))
          exact done0 (by simp only [go_sem]) (.refl _)
        | some n =>
          rw [hc] at hch he
          simp only [childV, Option.map_some, Option.getD_some, Option.isSome_some] at hch he
          have ct0 := ct hd callOk64F; have ct1 := ct hch callOk66F; repeat' first | ((first | refine cK (by assumption) ?_ | refine cP (by assumption) ?_ | refine cM (by assumption) ?_ | refine callP_false (.bool false) ?_ | refine aw_region rfl ?_ | refine aw_region_draw mixedF rfl (by kernel_rfl) ?_ | refine aE rfl ?_); simp only [go_sem, hli, hp]) | refine callG_y ?_ | refine callG_p ?_ | refine aw_seq ?_ | refine aw_block ?_ | refine aw_scope ?_ | (refine aw_cond rfl (fun h => ?_) (fun h => ?_) <;> try (exfalso; first | (simp at h; done) | (simp at h; omega))) | ((with_reducible refine And.intro ?_ ?_); focus (first | omega | (intros; simp_all; done) | (simp; omega)))
          exact ⟨(k + 1, n.id), ⟨hlt, he⟩, by simp only; omega, ⟨rfl, congrArg _ hw⟩⟩
    · have hke : k = names.length := by omega
      subst hke
      rw [List.drop_length] at he
      rw [he]
      have hli : ((names.length : Int) < ((names.length : Nat) : Int)) = False := eq_false (by omega)
      repeat' first | ((first | refine callP_false (.bool false) ?_ | refine aw_region rfl ?_ | refine aw_region_draw mixedF rfl (by kernel_rfl) ?_ | refine aE rfl ?_); simp only [go_sem, hli]) | refine callG_y ?_ | refine callG_p ?_ | refine aw_seq ?_ | refine aw_block ?_ | refine aw_scope ?_ | (refine aw_cond rfl (fun h => ?_) (fun h => ?_) <;> try (exfalso; first | (simp at h; done) | (simp at h; omega))) | ((with_reducible refine And.intro ?_ ?_); focus (first | omega | (intros; simp_all; done) | (simp; omega)))
      exact done0 (by simp only [go_sem]) (.refl _)

/-- What the document's Split answers. -/
def rpathV (p : Txt) : AV := match namesOf p with
  | none => .tup [.sl true [], .int .i64 10]
  | some l => .tup [.sl false (l.map AV.str), .int .i64 0]
theorem rsplit_c (p : Txt) (hs : p.length ≤ 1048576) (H : AHeap) : FnC Tryz.prog 31 [.str p] H (rpathV p) := by
  refine fnC_of Tryz.func31 rfl (Nat.le_of_ble_eq_true rfl) ?_
  unfold rpathV namesOf
  cases p with
  | nil =>
    rw [if_neg (by simp)]
    repeat' first | ((first | refine callP_false (.bool false) ?_ | refine aw_region rfl ?_ | refine aw_region_draw mixedF rfl (by kernel_rfl) ?_ | refine aE rfl ?_); simp only [go_sem]) | refine callG_y ?_ | refine callG_p ?_ | refine aw_seq ?_ | refine aw_block ?_ | refine aw_scope ?_ | (refine aw_cond rfl (fun h => ?_) (fun h => ?_) <;> try (exfalso; first | (simp at h; done) | (simp at h; omega))) | ((with_reducible refine And.intro ?_ ?_); focus (first | omega | (intros; simp_all; done) | (simp; omega)))
    exact done0 (by simp only [go_sem]) (.refl _)
  | cons c l =>
    rw [List.length_cons] at hs
    by_cases hc : c = 47
    · subst hc
      cases l with
      | nil =>
        rw [if_pos rfl]
        trace "ONE"
        repeat' first | ((first | refine callP_false (.bool false) ?_ | refine aw_region rfl ?_ | refine aw_region_draw mixedF rfl (by kernel_rfl) ?_ | refine aE rfl ?_); simp only [go_sem, Int.reduceEq]) | refine callG_y ?_ | refine callG_p ?_ | refine aw_seq ?_ | refine aw_block ?_ | refine aw_scope ?_ | (refine aw_cond rfl (fun h => ?_) (fun h => ?_) <;> try (exfalso; first | (simp at h; done) | (simp at h; omega))) | ((with_reducible refine And.intro ?_ ?_); focus (first | omega | (intros; simp_all; done) | (simp; omega)))
        exact done0 (by simp only [go_sem]) (.tup _ _ rfl (sims_cons (.sl _ _) (sims_cons (.refl _) sims_nil)))
      | cons d l =>
        rw [if_neg (by simp)]
        simp only [if_true]
        have htop := rsp_top (d :: l)
        have hz0 : decide ((((d :: l).length + 1 : Nat) : Int) = 0) = false := decide_eq_false (by omega)
        have hz1 : decide ((((d :: l).length + 1 : Nat) : Int) = 1) = false := decide_eq_false (by simp; omega)
        generalize d :: l = r at *
        repeat' first | ((first | refine callP_false (.bool false) ?_ | refine aw_region rfl ?_ | refine aw_region_draw mixedF rfl (by kernel_rfl) ?_ | refine aE rfl ?_); simp only [go_sem, Int.reduceEq, hz0, hz1, UInt8.reduceToNat]) | refine callG_y ?_ | refine callG_p ?_ | refine aw_seq ?_ | refine aw_block ?_ | refine aw_scope ?_ | (refine aw_cond rfl (fun h => ?_) (fun h => ?_) <;> try (exfalso; first | (simp at h; done) | (simp at h; omega))) | ((with_reducible refine And.intro ?_ ?_); focus (first | omega | (intros; simp_all; done) | (simp; omega)))
        rw [← htop]
        refine aw_void 4 1 rfl ?_
        refine aw_loopS (ι := Nat × Nat × List Txt) (fun x => [(0, .str (47 :: r)), (4, .osl 1 H.length (x.2.2.length + 1) 0 x.2.2.length x.2.2.length), (5, .int .i64 x.2.1), (6, .int .i64 x.1)]) (fun x => H ++ [.cells (x.2.2.length + 1) (x.2.2.map AV.str)])
          (fun x => x.2.2.length ≤ 16 ∧ 1 ≤ x.2.1 ∧ ((x.1 ≤ r.length + 1 ∧ x.2.1 ≤ x.1 ∧ rsp [] [] r = rsp x.2.2 ((r.drop (x.2.1 - 1)).take (x.1 - x.2.1)) (r.drop (x.1 - 1))) ∨ (x.1 = r.length + 2 ∧ rsp [] [] r = some x.2.2))) (fun x => r.length + 2 - x.1)
          (1, 1, []) ⟨by simp, by simp, .inl ⟨by simp, by simp, by simp⟩⟩ ?_ rfl ?_
        · simp [go_sem]
        · rintro ⟨i, fr, out⟩ ⟨ho, hf, hI⟩
          simp only at ho hf hI ⊢
          rcases hI with ⟨hi, hfi, he⟩ | ⟨hi, he⟩
          · obtain ⟨j, rfl⟩ : ∃ j, i = j + 1 := ⟨i - 1, by omega⟩
            obtain ⟨f, rfl⟩ : ∃ f, fr = f + 1 := ⟨fr - 1, by omega⟩
            simp only [Nat.add_sub_cancel, Nat.reduceSubDiff] at he
            have hli : (((j + 1 : Nat) : Int) ≤ ((r.length + 1 : Nat) : Int)) = True := eq_true (by omega)
            have hw : IntKind.i64.wrap (((j + 1 : Nat) : Int) + 1) = ((j + 2 : Nat) : Int) := by rw [wrap_i64 (by omega) (by omega)]; rfl
            by_cases hlt : j < r.length
            · have hlj : (((j + 1 : Nat) : Int) < ((r.length + 1 : Nat) : Int)) = True := eq_true (by omega)
              have hgi : r.getD j 0 = r[j] := by rw [List.getD_eq_getElem?_getD, List.getElem?_eq_getElem hlt]; rfl
              have hdr : r.drop j = r[j] :: r.drop (j + 1) := List.drop_eq_getElem_cons hlt
              by_cases h47 : r[j] = 47
              · have hz : decide (((r.getD j 0).toNat : Int) = 47) = true := by rw [hgi, h47]; rfl
                have hseg : List.drop f (List.take j r) = List.take (j - f) (List.drop f r) := List.drop_take
                have hsl : (List.take (j - f) (List.drop f r)).length ≤ 1073741824 := by rw [List.length_take, List.length_drop]; omega
                have hck := rname_c (List.take (j - f) (List.drop f r)) hsl
                generalize List.take (j - f) (List.drop f r) = seg at *
                cases hnk : nameOk seg with
                | false =>
                  rw [hnk] at hck
                  rw [hdr, rsp, if_pos h47, if_neg (fun q => by rw [hnk] at q; cases q.1)] at he
                  rw [he]
                  have ct0 := ct hck callOk58F; repeat' first | ((first | refine cK (by assumption) ?_ | refine cP (by assumption) ?_ | refine cM (by assumption) ?_ | refine callP_false (.bool false) ?_ | refine aw_region rfl ?_ | refine aw_region_draw mixedF rfl (by kernel_rfl) ?_ | refine aE rfl ?_); simp only [go_sem, hli, hlj, hz, hseg, hw]) | refine callG_y ?_ | refine callG_p ?_ | refine aw_seq ?_ | refine aw_block ?_ | refine aw_scope ?_ | (refine aw_cond rfl (fun h => ?_) (fun h => ?_) <;> try (exfalso; first | (simp at h; done) | (simp at h; omega))) | ((with_reducible refine And.intro ?_ ?_); focus (first | omega | (intros; simp_all; done) | (simp; omega)))
                  exact done (by simp only [go_sem]) (.refl _)
                | true =>
                  rw [hnk] at hck
                  by_cases h16 : out.length = 16
                  · have hz16 : decide ((out.length : Int) = 16) = true := decide_eq_true (by omega)
                    rw [hdr, rsp, if_pos h47, if_neg (fun q => q.2 h16)] at he
                    rw [he]
                    have ct0 := ct hck callOk58F; repeat' first | ((first | refine cK (by assumption) ?_ | refine cP (by assumption) ?_ | refine cM (by assumption) ?_ | refine callP_false (.bool false) ?_ | refine aw_region rfl ?_ | refine aw_region_draw mixedF rfl (by kernel_rfl) ?_ | refine aE rfl ?_); simp only [go_sem, hli, hlj, hz, hseg, hw, hz16]) | refine callG_y ?_ | refine callG_p ?_ | refine aw_seq ?_ | refine aw_block ?_ | refine aw_scope ?_ | (refine aw_cond rfl (fun h => ?_) (fun h => ?_) <;> try (exfalso; first | (simp at h; done) | (simp at h; omega))) | ((with_reducible refine And.intro ?_ ?_); focus (first | omega | (intros; simp_all; done) | (simp; omega)))
                    exact done (by simp only [go_sem]) (.refl _)
                  · have hz16 : decide ((out.length : Int) = 16) = false := decide_eq_false (by omega)
                    rw [hdr, rsp, if_pos h47, if_pos ⟨hnk, h16⟩] at he
                    have ct0 := ct hck callOk58F; repeat' first | ((first | refine cK (by assumption) ?_ | refine cP (by assumption) ?_ | refine cM (by assumption) ?_ | refine callP_false (.bool false) ?_ | refine aw_region rfl ?_ | refine aw_region_draw mixedF rfl (by kernel_rfl) ?_ | refine aE rfl ?_); simp only [go_sem, hli, hlj, hz, hseg, hw, hz16]) | refine callG_y ?_ | refine callG_p ?_ | refine aw_seq ?_ | refine aw_block ?_ | refine aw_scope ?_ | (refine aw_cond rfl (fun h => ?_) (fun h => ?_) <;> try (exfalso; first | (simp at h; done) | (simp at h; omega))) | ((with_reducible refine And.intro ?_ ?_); focus (first | omega | (intros; simp_all; done) | (simp; omega)))
                    refine ⟨⟨by omega, fun e he => by rw [he]; rfl, by omega⟩, ?_⟩
                    repeat' first | ((first | refine callP_false (.bool false) ?_ | refine aw_region rfl ?_ | refine aw_region_draw mixedF rfl (by kernel_rfl) ?_ | refine aE rfl ?_); simp only [go_sem, hw]) | refine callG_y ?_ | refine callG_p ?_ | refine aw_seq ?_ | refine aw_block ?_ | refine aw_scope ?_ | (refine aw_cond rfl (fun h => ?_) (fun h => ?_) <;> try (exfalso; first | (simp at h; done) | (simp at h; omega))) | ((with_reducible refine And.intro ?_ ?_); focus (first | omega | (intros; simp_all; done) | (simp; omega)))
                    exact ⟨(j + 2, j + 2, out ++ [seg]), ⟨by simp only [List.length_append, List.length_singleton]; omega, by simp only; omega, .inl ⟨by simp only; omega, Nat.le_refl _, by simp only [Nat.sub_self, List.take_zero]; exact he⟩⟩, by simp only; omega, ⟨by simp only [List.length_append, List.length_singleton], rfl, rfl⟩, by simp only [List.map_append, List.length_append, List.length_singleton]; rfl⟩
              · have hz : decide (((r.getD j 0).toNat : Int) = 47) = false := decide_eq_false (fun h => h47 (by rw [hgi] at h; apply UInt8.toNat_inj.1; simp; omega))
                repeat' first | ((first | refine callP_false (.bool false) ?_ | refine aw_region rfl ?_ | refine aw_region_draw mixedF rfl (by kernel_rfl) ?_ | refine aE rfl ?_); simp only [go_sem, hli, hlj, hz]) | refine callG_y ?_ | refine callG_p ?_ | refine aw_seq ?_ | refine aw_block ?_ | refine aw_scope ?_ | (refine aw_cond rfl (fun h => ?_) (fun h => ?_) <;> try (exfalso; first | (simp at h; done) | (simp at h; omega))) | ((with_reducible refine And.intro ?_ ?_); focus (first | omega | (intros; simp_all; done) | (simp; omega)))
                refine ⟨(j + 2, f + 1, out), ⟨ho, hf, .inl ⟨by simp only; omega, by simp only; omega, ?_⟩⟩, by simp only; omega, ⟨rfl, rfl, congrArg _ hw⟩, rfl⟩
                rw [he, hdr, rsp, if_neg h47]
                simp only [Nat.add_sub_cancel, Nat.reduceSubDiff]
                congr 1
                rw [show j + 1 - f = (j - f) + 1 by omega, List.take_add_one, List.getElem?_drop, show f + (j - f) = j by omega, List.getElem?_eq_getElem hlt]
                rfl
            · have hje : j = r.length := by omega
              have hlj : (((j + 1 : Nat) : Int) < ((r.length + 1 : Nat) : Int)) = False := eq_false (by omega)
              have hdr : r.drop j = [] := by rw [hje, List.drop_length]
              have hseg : List.drop f (List.take j r) = List.take (j - f) (List.drop f r) := List.drop_take
              have hsl : (List.take (j - f) (List.drop f r)).length ≤ 1073741824 := by rw [List.length_take, List.length_drop]; omega
              have hck := rname_c (List.take (j - f) (List.drop f r)) hsl
              generalize List.take (j - f) (List.drop f r) = seg at *
              cases hnk : nameOk seg with
              | false =>
                rw [hnk] at hck
                rw [hdr, rsp, if_neg (fun q => by rw [hnk] at q; cases q.1)] at he
                rw [he]
                have ct0 := ct hck callOk58F; repeat' first | ((first | refine cK (by assumption) ?_ | refine cP (by assumption) ?_ | refine cM (by assumption) ?_ | refine callP_false (.bool false) ?_ | refine aw_region rfl ?_ | refine aw_region_draw mixedF rfl (by kernel_rfl) ?_ | refine aE rfl ?_); simp only [go_sem, hli, hlj, hseg, hw]) | refine callG_y ?_ | refine callG_p ?_ | refine aw_seq ?_ | refine aw_block ?_ | refine aw_scope ?_ | (refine aw_cond rfl (fun h => ?_) (fun h => ?_) <;> try (exfalso; first | (simp at h; done) | (simp at h; omega))) | ((with_reducible refine And.intro ?_ ?_); focus (first | omega | (intros; simp_all; done) | (simp; omega)))
                exact done (by simp only [go_sem]) (.refl _)
              | true =>
                rw [hnk] at hck
                by_cases h16 : out.length = 16
                · have hz16 : decide ((out.length : Int) = 16) = true := decide_eq_true (by omega)
                  rw [hdr, rsp, if_neg (fun q => q.2 h16)] at he
                  rw [he]
                  have ct0 := ct hck callOk58F; repeat' first | ((first | refine cK (by assumption) ?_ | refine cP (by assumption) ?_ | refine cM (by assumption) ?_ | refine callP_false (.bool false) ?_ | refine aw_region rfl ?_ | refine aw_region_draw mixedF rfl (by kernel_rfl) ?_ | refine aE rfl ?_); simp only [go_sem, hli, hlj, hseg, hw, hz16]) | refine callG_y ?_ | refine callG_p ?_ | refine aw_seq ?_ | refine aw_block ?_ | refine aw_scope ?_ | (refine aw_cond rfl (fun h => ?_) (fun h => ?_) <;> try (exfalso; first | (simp at h; done) | (simp at h; omega))) | ((with_reducible refine And.intro ?_ ?_); focus (first | omega | (intros; simp_all; done) | (simp; omega)))
                  exact done (by simp only [go_sem]) (.refl _)
                · have hz16 : decide ((out.length : Int) = 16) = false := decide_eq_false (by omega)
                  rw [hdr, rsp, if_pos ⟨hnk, h16⟩] at he
                  have ct0 := ct hck callOk58F; repeat' first | ((first | refine cK (by assumption) ?_ | refine cP (by assumption) ?_ | refine cM (by assumption) ?_ | refine callP_false (.bool false) ?_ | refine aw_region rfl ?_ | refine aw_region_draw mixedF rfl (by kernel_rfl) ?_ | refine aE rfl ?_); simp only [go_sem, hli, hlj, hseg, hw, hz16]) | refine callG_y ?_ | refine callG_p ?_ | refine aw_seq ?_ | refine aw_block ?_ | refine aw_scope ?_ | (refine aw_cond rfl (fun h => ?_) (fun h => ?_) <;> try (exfalso; first | (simp at h; done) | (simp at h; omega))) | ((with_reducible refine And.intro ?_ ?_); focus (first | omega | (intros; simp_all; done) | (simp; omega)))
                  refine ⟨⟨by omega, fun e he => by rw [he]; rfl, by omega⟩, ?_⟩
                  repeat' first | ((first | refine callP_false (.bool false) ?_ | refine aw_region rfl ?_ | refine aw_region_draw mixedF rfl (by kernel_rfl) ?_ | refine aE rfl ?_); simp only [go_sem, hw]) | refine callG_y ?_ | refine callG_p ?_ | refine aw_seq ?_ | refine aw_block ?_ | refine aw_scope ?_ | (refine aw_cond rfl (fun h => ?_) (fun h => ?_) <;> try (exfalso; first | (simp at h; done) | (simp at h; omega))) | ((with_reducible refine And.intro ?_ ?_); focus (first | omega | (intros; simp_all; done) | (simp; omega)))
                  exact ⟨(j + 2, j + 2, out ++ [seg]), ⟨by simp only [List.length_append, List.length_singleton]; omega, by simp only; omega, .inr ⟨by simp only; omega, he⟩⟩, by simp only; omega, ⟨by simp only [List.length_append, List.length_singleton], rfl, rfl⟩, by simp only [List.map_append, List.length_append, List.length_singleton]; rfl⟩
          · subst hi
            have hli : (((r.length + 2 : Nat) : Int) ≤ ((r.length + 1 : Nat) : Int)) = False := eq_false (by omega)
            rw [he]
            repeat' first | ((first | refine callP_false (.bool false) ?_ | refine aw_region rfl ?_ | refine aw_region_draw mixedF rfl (by kernel_rfl) ?_ | refine aE rfl ?_); simp only [go_sem, hli]) | refine callG_y ?_ | refine callG_p ?_ | refine aw_seq ?_ | refine aw_block ?_ | refine aw_scope ?_ | (refine aw_cond rfl (fun h => ?_) (fun h => ?_) <;> try (exfalso; first | (simp at h; done) | (simp at h; omega))) | ((with_reducible refine And.intro ?_ ?_); focus (first | omega | (intros; simp_all; done) | (simp; omega)))
            refine ⟨_, _, rfl, ?_, rfl⟩
            refine .tup _ _ rfl fun i x y hx hy => ?_
            match i, hx, hy with
            | 0, hx, hy =>
              cases hx; cases hy
              exact frz_osl (es := out.map AV.str) (rest := []) (Nat.le_refl _) (by simp only [go_sem]; rfl) (by rw [List.append_nil, flat_str]) (List.length_map ..) (fun e he => by obtain ⟨x, _, rfl⟩ := List.mem_map.1 he; rfl) (fun e he => by obtain ⟨x, _, rfl⟩ := List.mem_map.1 he; exact (by simp only [go_sem]))
            | 1, hx, hy => cases hx; cases hy; exact .cl _ (.int _ _)
            | i + 2, hx, _ => simp at hx
    · rw [if_neg (fun h => hc (by cases h; rfl))]
      simp only [if_neg hc]
      have hcn : decide ((c.toNat : Int) = 47) = false := decide_eq_false (fun h => hc (by apply UInt8.toNat_inj.1; simp; omega))
      have hz0 : decide ((((l.length + 1 : Nat)) : Int) = 0) = false := decide_eq_false (by omega)
      repeat' first | ((first | refine callP_false (.bool false) ?_ | refine aw_region rfl ?_ | refine aw_region_draw mixedF rfl (by kernel_rfl) ?_ | refine aE rfl ?_); simp only [go_sem, Int.reduceEq, hcn, hz0]) | refine callG_y ?_ | refine callG_p ?_ | refine aw_seq ?_ | refine aw_block ?_ | refine aw_scope ?_ | (refine aw_cond rfl (fun h => ?_) (fun h => ?_) <;> try (exfalso; first | (simp at h; done) | (simp at h; omega))) | ((with_reducible refine And.intro ?_ ?_); focus (first | omega | (intros; simp_all; done) | (simp; omega)))
      exact done0 (by simp only [go_sem]) (.refl _)
end Go.Proofs.YtmknmapgfjmioaaGreatDoor
/- The document's nodes, in plain Lean: one put in, one taken out. No condition. -/
namespace Go.Gw
open Go Go.Aw Go.Proofs.YtmknmapgfjmioaaGreatDoor

end Go.Gw
/- What the document's functions of the nodes answer: at, Find, Above, loops, without, with. No condition. -/
namespace Go.Gw
open Go Go.Aw Go.Proofs.YtmknmapgfjmioaaGreatDoor
theorem idx_cases {α : Type} (p : α → Bool) (l : List α) : (idxI p l = -1 ∧ l.find? p = none) ∨ ∃ i, ∃ h : i < l.length, idxI p l = (i : Int) ∧ l.find? p = some l[i] := by
  induction l with
  | nil => exact .inl ⟨rfl, rfl⟩
  | cons x l ih =>
    unfold idxI
    rw [List.find?_cons]
    cases hp : p x with
    | true => exact .inr ⟨0, by simp, by simp⟩
    | false =>
      simp only [Bool.false_eq_true, if_false]
      rcases ih with ⟨h1, h2⟩ | ⟨i, hi, h1, h2⟩
      · exact .inl ⟨by rw [if_pos h1], h2⟩
      · refine .inr ⟨i + 1, by simp; omega, ?_, by simpa using h2⟩
        rw [if_neg (by omega), h1]; simp
def rAtI (l : List Nd) (id : Int) : Int := idxI (fun n => decide (n.id = id)) l
end Go.Gw
namespace Go.Proofs.YtmknmapgfjmioaaGreatDoor
open Go Go.Aw Go.Gw
set_option linter.unusedSimpArgs false
set_option maxRecDepth 20000
set_option maxHeartbeats 1000000

theorem rat_c (b : Bool) (l : List Nd) (id : Int) (H : AHeap) : FnC Tryz.prog 90 [.sl b (l.map ndA), .int .i64 id] H (.int .i64 (rAtI l id)) := by
  refine fnC_ok2 fun hok _ => ?_
  have hl := ok_sl hok
  rw [List.length_map] at hl
  refine fnC_of Tryz.func90 rfl (Nat.le_of_ble_eq_true rfl) ?_
  repeat' first | ((first | refine callP_false (.bool false) ?_ | refine aw_region rfl ?_ | refine aw_region_draw mixedF rfl (by kernel_rfl) ?_ | refine aE rfl ?_); simp only [go_sem]) | refine callG_y ?_ | refine callG_p ?_ | refine aw_seq ?_ | refine aw_block ?_ | refine aw_scope ?_ | (refine aw_cond rfl (fun h => ?_) (fun h => ?_) <;> try (exfalso; first | (simp at h; done) | (simp at h; omega))) | ((with_reducible refine And.intro ?_ ?_); focus (first | omega | (intros; simp_all; done) | (simp; omega)))
  refine aw_loopS (ι := Nat) (fun i => [(0, .sl b (l.map ndA)), (1, .int .i64 id), (5, .int .i64 i)]) (fun _ => H) (fun i => i ≤ l.length ∧ ∀ k (hk : k < i) (hk2 : k < l.length), ¬ l[k].id = id) (fun i => l.length - i) 0 ⟨Nat.zero_le _, fun k hk => by omega⟩ ?_ rfl ?_
  · simp [go_sem]
  · rintro i ⟨hi, hno⟩
    by_cases hlt : i < l.length
    · have hp := getD_map ndA hlt
      repeat' first | ((first | refine callP_false (.bool false) ?_ | refine aw_region rfl ?_ | refine aw_region_draw mixedF rfl (by kernel_rfl) ?_ | refine aE rfl ?_); simp only [go_sem, hp, ndA]) | refine callG_y ?_ | refine callG_p ?_ | refine aw_seq ?_ | refine aw_block ?_ | refine aw_scope ?_ | (refine aw_cond rfl (fun h => ?_) (fun h => ?_) <;> try (exfalso; first | (simp at h; done) | (simp at h; omega))) | ((with_reducible refine And.intro ?_ ?_); focus (first | omega | (intros; simp_all; done) | (simp; omega)))
      · exact done0 (by simp only [go_sem]) (.of (by rw [rAtI, idxI_at _ l i hlt (fun k hk => decide_eq_false (hno k hk (by omega))) h]))
      · refine ⟨i + 1, ⟨hlt, fun k hk hk2 => ?_⟩, by omega, congrArg _ (wrap_succ hlt (by omega))⟩
        by_cases e : k = i
        · subst e; exact of_decide_eq_false h
        · exact hno k (by omega) hk2
    · have hi' : i = l.length := by omega
      repeat' first | ((first | refine callP_false (.bool false) ?_ | refine aw_region rfl ?_ | refine aw_region_draw mixedF rfl (by kernel_rfl) ?_ | refine aE rfl ?_); simp only [go_sem]) | refine callG_y ?_ | refine callG_p ?_ | refine aw_seq ?_ | refine aw_block ?_ | refine aw_scope ?_ | (refine aw_cond rfl (fun h => ?_) (fun h => ?_) <;> try (exfalso; first | (simp at h; done) | (simp at h; omega))) | ((with_reducible refine And.intro ?_ ?_); focus (first | omega | (intros; simp_all; done) | (simp; omega)))
      subst hi'
      exact done0 (by simp only [go_sem]) (.of (by rw [rAtI, idxI_no _ l fun k hk => decide_eq_false (hno k hk hk)]))

theorem rabove_c (b : Bool) (l : List Nd) (id : Int) (hl : l.length ≤ 1073741824) (H : AHeap) : FnC Tryz.prog 65 [.sl b (l.map ndA), .int .i64 id] H (.sl false ((aboveC l id).map inA)) := by
  refine fnC_of Tryz.func65 rfl (Nat.le_of_ble_eq_true rfl) ?_
  have hat := fun id => rat_c b l id
  unfold aboveC
  cases hs : chk l with
  | false =>
    repeat' first | ((first | refine cK (ct (rchk_c _ _) callOk89F) ?_ | refine cP (ct (rchk_c _ _) callOk89F) ?_ | refine cM (ct (rchk_c _ _) callOk89F) ?_ | refine callP_false (.bool false) ?_ | refine aw_region rfl ?_ | refine aw_region_draw mixedF rfl (by kernel_rfl) ?_ | refine aE rfl ?_); simp only [go_sem, hs]) | refine callG_y ?_ | refine callG_p ?_ | refine aw_seq ?_ | refine aw_block ?_ | refine aw_scope ?_ | (refine aw_cond rfl (fun h => ?_) (fun h => ?_) <;> try (exfalso; first | (simp at h; done) | (simp at h; omega))) | ((with_reducible refine And.intro ?_ ?_); focus (first | omega | (intros; simp_all; done) | (simp; omega)))
    exact done0 (by simp only [go_sem]) (.sl _ _)
  | true =>
    repeat' first | ((first | refine cK (ct (rchk_c _ _) callOk89F) ?_ | refine cP (ct (rchk_c _ _) callOk89F) ?_ | refine cM (ct (rchk_c _ _) callOk89F) ?_ | refine callP_false (.bool false) ?_ | refine aw_region rfl ?_ | refine aw_region_draw mixedF rfl (by kernel_rfl) ?_ | refine aE rfl ?_); simp only [go_sem, hs]) | refine callG_y ?_ | refine callG_p ?_ | refine aw_seq ?_ | refine aw_block ?_ | refine aw_scope ?_ | (refine aw_cond rfl (fun h => ?_) (fun h => ?_) <;> try (exfalso; first | (simp at h; done) | (simp at h; omega))) | ((with_reducible refine And.intro ?_ ?_); focus (first | omega | (intros; simp_all; done) | (simp; omega)))
    refine aw_void 5 1 rfl ?_
    refine aw_loopS (ι := List Int × Int) (fun x => [(0, .sl b (l.map ndA)), (1, .int .i64 x.2), (5, .osl 1 H.length (x.1.length + 1) 0 x.1.length x.1.length), (7, .int .i64 x.1.length)]) (fun x => H ++ [.cells (x.1.length + 1) (x.1.map inA)])
      (fun x => x.1.length ≤ l.length ∧ x.1 ++ aboveN l (l.length - x.1.length) x.2 = aboveI l id) (fun x => l.length - x.1.length) ([], id) ⟨Nat.zero_le _, rfl⟩ ?_ rfl ?_
    · simp [go_sem]
    · rintro ⟨acc, id'⟩ ⟨hn, he⟩
      simp only at hn he ⊢
      have ha := hat id'
      by_cases hlt : acc.length < l.length
      · obtain ⟨m, hm⟩ : ∃ m, l.length - acc.length = m + 1 := ⟨l.length - acc.length - 1, by omega⟩
        rw [hm, aboveN] at he
        rcases idx_cases (fun n : Nd => decide (n.id = id')) l with ⟨h1, h2⟩ | ⟨i, hil, h1, h2⟩
        · have e1 : rAtI l id' = -1 := h1
          have e2 : fnd l id' = none := h2
          rw [e1] at ha
          rw [e2] at he
          have ct0 := ct ha callOk90F; repeat' first | ((first | refine cK (by assumption) ?_ | refine cP (by assumption) ?_ | refine cM (by assumption) ?_ | refine callP_false (.bool false) ?_ | refine aw_region rfl ?_ | refine aw_region_draw mixedF rfl (by kernel_rfl) ?_ | refine aE rfl ?_); simp only [go_sem]) | refine callG_y ?_ | refine callG_p ?_ | refine aw_seq ?_ | refine aw_block ?_ | refine aw_scope ?_ | (refine aw_cond rfl (fun h => ?_) (fun h => ?_) <;> try (exfalso; first | (simp at h; done) | (simp at h; omega))) | ((with_reducible refine And.intro ?_ ?_); focus (first | omega | (intros; simp_all; done) | (simp; omega)))
          exact doneOsl (cs := acc.map inA) (es := acc.map inA) (rest := []) (Nat.le_refl _) (by simp only [go_sem]) (by rw [flat_in, List.append_nil]) (by simp) (cells_in acc) (fun e he => by obtain ⟨c, _, rfl⟩ := List.mem_map.1 he; exact .int _ _) (by rw [← he]; simp)
        · have e1 : rAtI l id' = (i : Int) := h1
          have e2 : fnd l id' = some l[i] := h2
          have hp := getD_map ndA hil
          have hin : decide ((i : Int) < 0) = false := decide_eq_false (by omega)
          rw [e1] at ha
          rw [e2] at he
          simp only at he
          have ct0 := ct ha callOk90F; repeat' first | ((first | refine cK (by assumption) ?_ | refine cP (by assumption) ?_ | refine cM (by assumption) ?_ | refine callP_false (.bool false) ?_ | refine aw_region rfl ?_ | refine aw_region_draw mixedF rfl (by kernel_rfl) ?_ | refine aE rfl ?_); simp only [go_sem, hp, ndA, hin]) | refine callG_y ?_ | refine callG_p ?_ | refine aw_seq ?_ | refine aw_block ?_ | refine aw_scope ?_ | (refine aw_cond rfl (fun h => ?_) (fun h => ?_) <;> try (exfalso; first | (simp at h; done) | (simp at h; omega))) | ((with_reducible refine And.intro ?_ ?_); focus (first | omega | (intros; simp_all; done) | (simp; omega)))
          · rw [if_pos (of_decide_eq_true h)] at he
            exact doneOsl (cs := acc.map inA) (es := acc.map inA) (rest := []) (Nat.le_refl _) (by simp only [go_sem]) (by rw [flat_in, List.append_nil]) (by simp) (cells_in acc) (fun e he => by obtain ⟨c, _, rfl⟩ := List.mem_map.1 he; exact .int _ _) (by rw [← he]; simp)
          · rw [if_neg (of_decide_eq_false h)] at he
            refine ⟨⟨by omega, fun e he => by rw [he]; rfl, by omega⟩, ?_⟩
            repeat' first | ((first | refine callP_false (.bool false) ?_ | refine aw_region rfl ?_ | refine aw_region_draw mixedF rfl (by kernel_rfl) ?_ | refine aE rfl ?_); simp only [go_sem]) | refine callG_y ?_ | refine callG_p ?_ | refine aw_seq ?_ | refine aw_block ?_ | refine aw_scope ?_ | (refine aw_cond rfl (fun h => ?_) (fun h => ?_) <;> try (exfalso; first | (simp at h; done) | (simp at h; omega))) | ((with_reducible refine And.intro ?_ ?_); focus (first | omega | (intros; simp_all; done) | (simp; omega)))
            exact ⟨(acc ++ [l[i].parent], l[i].parent), ⟨by simp; omega, by rw [← he]; simp [show l.length - (acc.length + 1) = m by omega]⟩, by simp; omega, ⟨rfl, by simp, by rw [wrap_succ hlt (by omega)]; simp⟩, by simp [inA]⟩
      · repeat' first | ((first | refine callP_false (.bool false) ?_ | refine aw_region rfl ?_ | refine aw_region_draw mixedF rfl (by kernel_rfl) ?_ | refine aE rfl ?_); simp only [go_sem, hlt]) | refine callG_y ?_ | refine callG_p ?_ | refine aw_seq ?_ | refine aw_block ?_ | refine aw_scope ?_ | (refine aw_cond rfl (fun h => ?_) (fun h => ?_) <;> try (exfalso; first | (simp at h; done) | (simp at h; omega))) | ((with_reducible refine And.intro ?_ ?_); focus (first | omega | (intros; simp_all; done) | (simp; omega)))
        have he2 : l.length - acc.length = 0 := by omega
        rw [he2] at he
        exact doneOsl (cs := acc.map inA) (es := acc.map inA) (rest := []) (Nat.le_refl _) (by simp only [go_sem]) (by rw [flat_in, List.append_nil]) (by simp) (cells_in acc) (fun e he => by obtain ⟨c, _, rfl⟩ := List.mem_map.1 he; exact .int _ _) (by rw [← he]; simp [aboveN])
end Go.Proofs.YtmknmapgfjmioaaGreatDoor
/- What the document's functions of the nodes answer: loops, without, with. No condition. -/
namespace Go.Gw
open Go Go.Aw Go.Proofs.YtmknmapgfjmioaaGreatDoor
end Go.Gw
namespace Go.Proofs.YtmknmapgfjmioaaGreatDoor
open Go Go.Aw Go.Gw
set_option linter.unusedSimpArgs false
set_option maxRecDepth 20000
set_option maxHeartbeats 1000000

end Go.Proofs.YtmknmapgfjmioaaGreatDoor
/- What the document's Do answers, where its test of an operation is known. No condition else. -/
namespace Go.Proofs.YtmknmapgfjmioaaGreatDoor
open Go Go.Aw Go.Gw
set_option linter.unusedSimpArgs false
set_option maxRecDepth 20000
set_option maxHeartbeats 2000000

end Go.Proofs.YtmknmapgfjmioaaGreatDoor
/- The document's plan: what its functions answer. No condition but the length of what comes in. -/
namespace Go.Proofs.YtmknmapgfjmioaaGreatDoor
open Go Go.Aw Go.Gw
set_option linter.unusedSimpArgs false
set_option linter.unusedVariables false
set_option maxRecDepth 20000
set_option maxHeartbeats 8000000

theorem rwalks_c (c : Cal) (H : AHeap) : FnC Tryz.prog 30 [caA c] H (.bool (walksK c)) := by
  refine fnC_of Tryz.func30 rfl (Nat.le_of_ble_eq_true rfl) ?_
  obtain ⟨kd, pa, to, da, n⟩ := c
  rcases kind_cases kd with rfl | rfl | rfl | rfl | rfl | rfl | rfl | rfl | rfl | ⟨h1, h2, h3, h4, h5, h6, h7, h8, h9⟩
  iterate 9 focus ((repeat' first | ((first | refine callP_false (.bool false) ?_ | refine aw_region rfl ?_ | refine aw_region_draw mixedF rfl (by kernel_rfl) ?_ | refine aE rfl ?_); simp only [go_sem, Int.reduceEq, caA]) | refine callG_y ?_ | refine callG_p ?_ | refine aw_seq ?_ | refine aw_block ?_ | refine aw_scope ?_ | (refine aw_cond rfl (fun h => ?_) (fun h => ?_) <;> try (exfalso; first | (simp at h; done) | (simp at h; omega))) | ((with_reducible refine And.intro ?_ ?_); focus (first | omega | (intros; simp_all; done) | (simp; omega)))); exact done (by simp only [go_sem]) (.of (congrArg AV.bool (by simp [walksK]))))
  repeat' first | ((first | refine callP_false (.bool false) ?_ | refine aw_region rfl ?_ | refine aw_region_draw mixedF rfl (by kernel_rfl) ?_ | refine aE rfl ?_); simp only [go_sem, h1, h2, h3, h4, h5, h6, h7, h8, h9, caA]) | refine callG_y ?_ | refine callG_p ?_ | refine aw_seq ?_ | refine aw_block ?_ | refine aw_scope ?_ | (refine aw_cond rfl (fun h => ?_) (fun h => ?_) <;> try (exfalso; first | (simp at h; done) | (simp at h; omega))) | ((with_reducible refine And.intro ?_ ?_); focus (first | omega | (intros; simp_all; done) | (simp; omega)))
  exact done (by simp only [go_sem]) (.of (congrArg AV.bool (by simp [walksK, h1, h2, h3, h4, h5, h6])))
theorem rturns_c (c : Cal) (H : AHeap) : FnC Tryz.prog 33 [caA c] H (.bool (turnsK c)) := by
  refine fnC_of Tryz.func33 rfl (Nat.le_of_ble_eq_true rfl) ?_
  obtain ⟨kd, pa, to, da, n⟩ := c
  rcases kind_cases kd with rfl | rfl | rfl | rfl | rfl | rfl | rfl | rfl | rfl | ⟨h1, h2, h3, h4, h5, h6, h7, h8, h9⟩
  iterate 9 focus ((repeat' first | ((first | refine callP_false (.bool false) ?_ | refine aw_region rfl ?_ | refine aw_region_draw mixedF rfl (by kernel_rfl) ?_ | refine aE rfl ?_); simp only [go_sem, Int.reduceEq, caA]) | refine callG_y ?_ | refine callG_p ?_ | refine aw_seq ?_ | refine aw_block ?_ | refine aw_scope ?_ | (refine aw_cond rfl (fun h => ?_) (fun h => ?_) <;> try (exfalso; first | (simp at h; done) | (simp at h; omega))) | ((with_reducible refine And.intro ?_ ?_); focus (first | omega | (intros; simp_all; done) | (simp; omega)))); exact done (by simp only [go_sem]) (.of (congrArg AV.bool (by simp [turnsK]))))
  repeat' first | ((first | refine callP_false (.bool false) ?_ | refine aw_region rfl ?_ | refine aw_region_draw mixedF rfl (by kernel_rfl) ?_ | refine aE rfl ?_); simp only [go_sem, h1, h2, h3, h4, h5, h6, h7, h8, h9, caA]) | refine callG_y ?_ | refine callG_p ?_ | refine aw_seq ?_ | refine aw_block ?_ | refine aw_scope ?_ | (refine aw_cond rfl (fun h => ?_) (fun h => ?_) <;> try (exfalso; first | (simp at h; done) | (simp at h; omega))) | ((with_reducible refine And.intro ?_ ?_); focus (first | omega | (intros; simp_all; done) | (simp; omega)))
  exact done (by simp only [go_sem]) (.of (congrArg AV.bool (by simp [turnsK, h7, h8, h9])))

theorem take_drop (l : List Txt) (h : l ≠ []) : (l.map AV.str).take (l.length - 1) = (l.dropLast).map AV.str := by
  rw [List.dropLast_eq_take, List.map_take]

theorem rnames20_c (c : Cal) (hp : c.path.length ≤ 1048576) (H : AHeap) : FnC Tryz.prog 9 [caA c] H (if walksK c = true then .tup [.sl false ((wnames c).map AV.str), .bool true] else .tup [.sl true [], .bool false]) := by
  refine fnC_of Tryz.func9 rfl (Nat.le_of_ble_eq_true rfl) ?_
  have hw := rwalks_c c
  have hs := rsplit_c c.path hp
  simp only [caA] at hw
  cases hwk : walksK c with
  | false =>
    rw [hwk] at hw
    rw [if_neg (by simp)]
    have ct0 := ct hw callOk30F; repeat' first | ((first | refine cK (by assumption) ?_ | refine cP (by assumption) ?_ | refine cM (by assumption) ?_ | refine callP_false (.bool false) ?_ | refine aw_region rfl ?_ | refine aw_region_draw mixedF rfl (by kernel_rfl) ?_ | refine aE rfl ?_); simp only [go_sem, caA]) | refine callG_y ?_ | refine callG_p ?_ | refine aw_seq ?_ | refine aw_block ?_ | refine aw_scope ?_ | (refine aw_cond rfl (fun h => ?_) (fun h => ?_) <;> try (exfalso; first | (simp at h; done) | (simp at h; omega))) | ((with_reducible refine And.intro ?_ ?_); focus (first | omega | (intros; simp_all; done) | (simp; omega)))
    exact done (by simp only [go_sem]) (.refl _)
  | true =>
    rw [hwk] at hw
    rw [if_pos rfl]
    unfold rpathV at hs
    unfold wnames
    cases hn : namesOf c.path with
    | none =>
      simp only [hn, List.map_nil] at hs ⊢
      by_cases h7 : c.kind = 7
      · have z7 : decide (c.kind = 7) = true := decide_eq_true h7
        have ct0 := ct hw callOk30F; have ct1 := ct hs callOk31F; repeat' first | ((first | refine cK (by assumption) ?_ | refine cP (by assumption) ?_ | refine cM (by assumption) ?_ | refine callP_false (.bool false) ?_ | refine aw_region rfl ?_ | refine aw_region_draw mixedF rfl (by kernel_rfl) ?_ | refine aE rfl ?_); simp only [go_sem, caA, z7]) | refine callG_y ?_ | refine callG_p ?_ | refine aw_seq ?_ | refine aw_block ?_ | refine aw_scope ?_ | (refine aw_cond rfl (fun h => ?_) (fun h => ?_) <;> try (exfalso; first | (simp at h; done) | (simp at h; omega))) | ((with_reducible refine And.intro ?_ ?_); focus (first | omega | (intros; simp_all; done) | (simp; omega)))
        exact done (by simp only [go_sem]) (.tup _ _ rfl (sims_cons (.sl _ _) (sims_cons (.refl _) sims_nil)))
      · have z7 : decide (c.kind = 7) = false := decide_eq_false h7
        by_cases h10 : c.kind = 10
        · have z10 : decide (c.kind = 10) = true := decide_eq_true h10
          have ct0 := ct hw callOk30F; have ct1 := ct hs callOk31F; repeat' first | ((first | refine cK (by assumption) ?_ | refine cP (by assumption) ?_ | refine cM (by assumption) ?_ | refine callP_false (.bool false) ?_ | refine aw_region rfl ?_ | refine aw_region_draw mixedF rfl (by kernel_rfl) ?_ | refine aE rfl ?_); simp only [go_sem, caA, z7, z10]) | refine callG_y ?_ | refine callG_p ?_ | refine aw_seq ?_ | refine aw_block ?_ | refine aw_scope ?_ | (refine aw_cond rfl (fun h => ?_) (fun h => ?_) <;> try (exfalso; first | (simp at h; done) | (simp at h; omega))) | ((with_reducible refine And.intro ?_ ?_); focus (first | omega | (intros; simp_all; done) | (simp; omega)))
          exact done (by simp only [go_sem]) (.tup _ _ rfl (sims_cons (.sl _ _) (sims_cons (.refl _) sims_nil)))
        · have z10 : decide (c.kind = 10) = false := decide_eq_false h10
          have ct0 := ct hw callOk30F; have ct1 := ct hs callOk31F; repeat' first | ((first | refine cK (by assumption) ?_ | refine cP (by assumption) ?_ | refine cM (by assumption) ?_ | refine callP_false (.bool false) ?_ | refine aw_region rfl ?_ | refine aw_region_draw mixedF rfl (by kernel_rfl) ?_ | refine aE rfl ?_); simp only [go_sem, caA, z7, z10]) | refine callG_y ?_ | refine callG_p ?_ | refine aw_seq ?_ | refine aw_block ?_ | refine aw_scope ?_ | (refine aw_cond rfl (fun h => ?_) (fun h => ?_) <;> try (exfalso; first | (simp at h; done) | (simp at h; omega))) | ((with_reducible refine And.intro ?_ ?_); focus (first | omega | (intros; simp_all; done) | (simp; omega)))
          exact done (by simp only [go_sem]) (.tup _ _ rfl (sims_cons (.sl _ _) (sims_cons (.refl _) sims_nil)))
    | some l =>
      have h16 := namesOf_len hn
      simp only [hn] at hs ⊢
      by_cases h7 : c.kind = 7
      · have z7 : decide (c.kind = 7) = true := decide_eq_true h7
        rw [if_pos (.inl h7)]
        have ct0 := ct hw callOk30F; have ct1 := ct hs callOk31F; repeat' first | ((first | refine cK (by assumption) ?_ | refine cP (by assumption) ?_ | refine cM (by assumption) ?_ | refine callP_false (.bool false) ?_ | refine aw_region rfl ?_ | refine aw_region_draw mixedF rfl (by kernel_rfl) ?_ | refine aE rfl ?_); simp only [go_sem, caA, z7]) | refine callG_y ?_ | refine callG_p ?_ | refine aw_seq ?_ | refine aw_block ?_ | refine aw_scope ?_ | (refine aw_cond rfl (fun h => ?_) (fun h => ?_) <;> try (exfalso; first | (simp at h; done) | (simp at h; omega))) | ((with_reducible refine And.intro ?_ ?_); focus (first | omega | (intros; simp_all; done) | (simp; omega)))
        exact done (by simp only [go_sem]) (.refl _)
      · have z7 : decide (c.kind = 7) = false := decide_eq_false h7
        by_cases h10 : c.kind = 10
        · have z10 : decide (c.kind = 10) = true := decide_eq_true h10
          rw [if_pos (.inr h10)]
          have ct0 := ct hw callOk30F; have ct1 := ct hs callOk31F; repeat' first | ((first | refine cK (by assumption) ?_ | refine cP (by assumption) ?_ | refine cM (by assumption) ?_ | refine callP_false (.bool false) ?_ | refine aw_region rfl ?_ | refine aw_region_draw mixedF rfl (by kernel_rfl) ?_ | refine aE rfl ?_); simp only [go_sem, caA, z7, z10]) | refine callG_y ?_ | refine callG_p ?_ | refine aw_seq ?_ | refine aw_block ?_ | refine aw_scope ?_ | (refine aw_cond rfl (fun h => ?_) (fun h => ?_) <;> try (exfalso; first | (simp at h; done) | (simp at h; omega))) | ((with_reducible refine And.intro ?_ ?_); focus (first | omega | (intros; simp_all; done) | (simp; omega)))
          exact done (by simp only [go_sem]) (.refl _)
        · have z10 : decide (c.kind = 10) = false := decide_eq_false h10
          rw [if_neg (fun h => h.elim h7 h10)]
          cases l with
          | nil =>
            simp only [List.map_nil] at hs
            have ct0 := ct hw callOk30F; have ct1 := ct hs callOk31F; repeat' first | ((first | refine cK (by assumption) ?_ | refine cP (by assumption) ?_ | refine cM (by assumption) ?_ | refine callP_false (.bool false) ?_ | refine aw_region rfl ?_ | refine aw_region_draw mixedF rfl (by kernel_rfl) ?_ | refine aE rfl ?_); simp only [go_sem, caA, z7, z10]) | refine callG_y ?_ | refine callG_p ?_ | refine aw_seq ?_ | refine aw_block ?_ | refine aw_scope ?_ | (refine aw_cond rfl (fun h => ?_) (fun h => ?_) <;> try (exfalso; first | (simp at h; done) | (simp at h; omega))) | ((with_reducible refine And.intro ?_ ?_); focus (first | omega | (intros; simp_all; done) | (simp; omega)))
            exact done (by simp only [go_sem]) (.refl _)
          | cons x xs =>
            rw [List.length_cons] at h16
            have hz : decide (((xs.length + 1 : Nat) : Int) = 0) = false := decide_eq_false (by omega)
            have hwr : IntKind.i64.wrap (((xs.length + 1 : Nat) : Int) - 1) = ((xs.length : Nat) : Int) := by rw [wrap_i64 (by omega) (by omega)]; omega
            have htk := take_drop (x :: xs) (by simp)
            simp only [List.map_cons, List.length_cons, Nat.add_sub_cancel] at hs htk
            have ct0 := ct hw callOk30F; have ct1 := ct hs callOk31F; repeat' first | ((first | refine cK (by assumption) ?_ | refine cP (by assumption) ?_ | refine cM (by assumption) ?_ | refine callP_false (.bool false) ?_ | refine aw_region rfl ?_ | refine aw_region_draw mixedF rfl (by kernel_rfl) ?_ | refine aE rfl ?_); simp only [go_sem, caA, z7, z10, hz, hwr, htk]) | refine callG_y ?_ | refine callG_p ?_ | refine aw_seq ?_ | refine aw_block ?_ | refine aw_scope ?_ | (refine aw_cond rfl (fun h => ?_) (fun h => ?_) <;> try (exfalso; first | (simp at h; done) | (simp at h; omega))) | ((with_reducible refine And.intro ?_ ?_); focus (first | omega | (intros; simp_all; done) | (simp; omega)))
            exact done (by simp only [go_sem]) (.refl _)
end Go.Proofs.YtmknmapgfjmioaaGreatDoor

/- The document's nodes, in plain Lean: one put in, one taken out. No condition. -/
import Derived.Test.YtoffonjlfomnbaaGwDoP
import Derived.Test.YtoffonjlfomnbaaGwTree3
import Derived.Test.YtoffonjlfomnbaaGwMerge2
import Derived.Test.YtoffonjlfomnbaaGwMerge4
namespace Go.Gw
open Go Go.Aw Go.Proofs.Ytoffonjlfomnbaa

def rOut (l : List Nd) (id : Int) : List Nd := l.filter fun n => !decide (n.id = id)
def rAt (l : List Nd) (id : Int) : Nat := (l.takeWhile fun n => decide (n.id < id)).length
def rWith (l : List Nd) (n : Nd) : List Nd := (rOut l n.id).take (rAt (rOut l n.id) n.id) ++ n :: (rOut l n.id).drop (rAt (rOut l n.id) n.id)

theorem rOut_no {l : List Nd} {id : Int} (h : ∀ x ∈ l, x.id ≠ id) : rOut l id = l := by
  unfold rOut
  rw [List.filter_eq_self]
  intro x hx
  simp [h x hx]
theorem takeWhileN (p : Nd → Bool) (a b : List Nd) (h : ∀ x ∈ a, p x = true) (hb : ∀ x ∈ b, p x = false) : (a ++ b).takeWhile p = a := by
  induction a with
  | nil =>
    cases b with
    | nil => rfl
    | cons x b => simp [hb x (by simp)]
  | cons x a ih => rw [List.cons_append, List.takeWhile_cons, if_pos (h x (by simp)), ih fun y hy => h y (by simp [hy])]

theorem rOut_split {l : List Nd} (hs : chk l = true) (id : Int) : ∃ A B, (∀ x ∈ A, x.id < id) ∧ (∀ x ∈ B, id < x.id) ∧ A = l.take (pos l id) ∧ B = l.drop (upto l id) ∧ rOut l id = A ++ B := by
  obtain ⟨A, B, hA, hB, eA, eB, h⟩ := split_at hs id
  refine ⟨A, B, hA, hB, eA, eB, ?_⟩
  have nA : rOut A id = A := rOut_no fun x hx => by have := hA x hx; omega
  have nB : rOut B id = B := rOut_no fun x hx => by have := hB x hx; omega
  rcases h with ⟨e, -⟩ | ⟨n, hn, e, -⟩
  · rw [e, rOut, List.filter_append]
    exact congr (congrArg _ nA) nB
  · rw [e, rOut, List.filter_append, List.filter_cons]
    simp only [hn, decide_true, Bool.not_true, Bool.false_eq_true, if_false]
    exact congr (congrArg _ nA) nB
theorem rOut_eq {l : List Nd} (hs : chk l = true) (id : Int) : rOut l id = layN l (pos l id) (upto l id) [] := by
  obtain ⟨A, B, _, _, eA, eB, e⟩ := rOut_split hs id
  rw [e, layN, ← eA, ← eB, List.append_nil]
theorem rWith_eq {l : List Nd} (hs : chk l = true) (n : Nd) : rWith l n = layN l (pos l n.id) (upto l n.id) [n] := by
  obtain ⟨A, B, hA, hB, eA, eB, e⟩ := rOut_split hs n.id
  have hk : rAt (A ++ B) n.id = A.length := by
    rw [rAt, takeWhileN _ A B (fun x hx => by simpa using hA x hx) (fun x hx => by have := hB x hx; simp; omega)]
  rw [rWith, e, hk, List.take_left' rfl, List.drop_left' rfl, layN, ← eA, ← eB]; simp
end Go.Gw
/- What the document's functions of the nodes answer: at, Find, Above, loops, without, with. No condition. -/
namespace Go.Gw
open Go Go.Aw Go.Proofs.Ytoffonjlfomnbaa
theorem idx_cases {α : Type} (p : α → Bool) (l : List α) : (idxI p l = -1 ∧ l.find? p = none) ∨ ∃ i, ∃ h : i < l.length, idxI p l = (i : Int) ∧ l.find? p = some l[i] := by
  induction l with
  | nil => exact .inl ⟨rfl, rfl⟩
  | cons x l ih =>
    unfold idxI
    rw [List.find?_cons]
    cases hp : p x with
    | true => exact .inr ⟨0, by simp, by simp⟩
    | false =>
      simp only [Bool.false_eq_true, if_false]
      rcases ih with ⟨h1, h2⟩ | ⟨i, hi, h1, h2⟩
      · exact .inl ⟨by rw [if_pos h1], h2⟩
      · refine .inr ⟨i + 1, by simp; omega, ?_, by simpa using h2⟩
        rw [if_neg (by omega), h1]; simp
def rAtI (l : List Nd) (id : Int) : Int := idxI (fun n => decide (n.id = id)) l
end Go.Gw
namespace Go.Proofs.Ytoffonjlfomnbaa
open Go Go.Aw Go.Gw
set_option linter.unusedSimpArgs false
set_option maxRecDepth 20000
set_option maxHeartbeats 1000000

theorem rat_c (b : Bool) (l : List Nd) (id : Int) (H : AHeap) : FnC Try.prog 69 [.sl b (l.map ndA), .int .i64 id] H (.int .i64 (rAtI l id)) := by
  refine fnC_ok2 fun hok _ => ?_
  have hl := ok_sl hok
  rw [List.length_map] at hl
  refine fnC_of Try.func69 rfl (Nat.le_of_ble_eq_true rfl) ?_
  repeat' first | ((first | refine callP_false (.bool false) ?_ | refine aw_region rfl ?_ | refine aw_region_draw mixedF rfl (by kernel_rfl) ?_ | refine aw_ret ?_ | refine aw_skip ?_ | refine aw_exit ?_ | refine aw_label ?_); simp only [go_sem, ↓reduceIte, Nat.reduceEqDiff, Nat.reduceAdd, Nat.reduceSub, Nat.reduceMul, Nat.reduceLeDiff, Nat.reduceLT, Nat.reduceBEq, Int.reduceNeg, Int.reduceLE, Int.reduceLT, Int.reduceToNat, String.reduceEq]) | refine aw_seq ?_ | refine aw_block ?_ | refine aw_scope ?_ | (refine aw_cond rfl (fun h => ?_) (fun h => ?_) <;> try (exfalso; first | (simp at h; done) | (simp at h; omega))) | ((with_reducible refine And.intro ?_ ?_); focus (first | omega | (intros; simp_all; done) | (simp; omega)))
  refine aw_loopS (ι := Nat) (fun i => [(0, .sl b (l.map ndA)), (1, .int .i64 id), (5, .int .i64 i)]) (fun _ => H) (fun i => i ≤ l.length ∧ ∀ k (hk : k < i) (hk2 : k < l.length), ¬ l[k].id = id) (fun i => l.length - i) 0 ⟨Nat.zero_le _, fun k hk => by omega⟩ ?_ rfl ?_
  · simp [go_sem]
  · rintro i ⟨hi, hno⟩
    by_cases hlt : i < l.length
    · have hp := getD_map ndA hlt
      repeat' first | ((first | refine callP_false (.bool false) ?_ | refine aw_region rfl ?_ | refine aw_region_draw mixedF rfl (by kernel_rfl) ?_ | refine aw_ret ?_ | refine aw_skip ?_ | refine aw_exit ?_ | refine aw_label ?_); simp only [go_sem, ↓reduceIte, Nat.reduceEqDiff, Nat.reduceAdd, Nat.reduceSub, Nat.reduceMul, Nat.reduceLeDiff, Nat.reduceLT, Nat.reduceBEq, Int.reduceNeg, Int.reduceLE, Int.reduceLT, Int.reduceToNat, String.reduceEq, hp, ndA]) | refine aw_seq ?_ | refine aw_block ?_ | refine aw_scope ?_ | (refine aw_cond rfl (fun h => ?_) (fun h => ?_) <;> try (exfalso; first | (simp at h; done) | (simp at h; omega))) | ((with_reducible refine And.intro ?_ ?_); focus (first | omega | (intros; simp_all; done) | (simp; omega)))
      · exact done0 (by simp only [pur_int, pur_bool, pur_str, pur_agg, pur_tup, pur_sl, pur_iface, pur_nilI, List.mem_cons, List.not_mem_nil, false_implies, forall_eq_or_imp, List.mem_map, forall_exists_index, and_imp, forall_apply_eq_imp_iff₂, or_false, forall_eq, implies_true, and_self, and_true, true_and, Go.Gw.stA, Go.Gw.opA, Go.Gw.ndA, Go.Gw.unA, Go.Gw.enA, Go.Gw.inA, Go.Gw.lgF, Go.Gw.lgA]) (.of (by rw [rAtI, idxI_at _ l i hlt (fun k hk => decide_eq_false (hno k hk (by omega))) h]))
      · refine ⟨i + 1, ⟨hlt, fun k hk hk2 => ?_⟩, by omega, congrArg _ (wrap_succ hlt (by omega))⟩
        by_cases e : k = i
        · subst e; exact of_decide_eq_false h
        · exact hno k (by omega) hk2
    · have hi' : i = l.length := by omega
      repeat' first | ((first | refine callP_false (.bool false) ?_ | refine aw_region rfl ?_ | refine aw_region_draw mixedF rfl (by kernel_rfl) ?_ | refine aw_ret ?_ | refine aw_skip ?_ | refine aw_exit ?_ | refine aw_label ?_); simp only [go_sem, ↓reduceIte, Nat.reduceEqDiff, Nat.reduceAdd, Nat.reduceSub, Nat.reduceMul, Nat.reduceLeDiff, Nat.reduceLT, Nat.reduceBEq, Int.reduceNeg, Int.reduceLE, Int.reduceLT, Int.reduceToNat, String.reduceEq]) | refine aw_seq ?_ | refine aw_block ?_ | refine aw_scope ?_ | (refine aw_cond rfl (fun h => ?_) (fun h => ?_) <;> try (exfalso; first | (simp at h; done) | (simp at h; omega))) | ((with_reducible refine And.intro ?_ ?_); focus (first | omega | (intros; simp_all; done) | (simp; omega)))
      subst hi'
      exact done0 (by simp only [pur_int, pur_bool, pur_str, pur_agg, pur_tup, pur_sl, pur_iface, pur_nilI, List.mem_cons, List.not_mem_nil, false_implies, forall_eq_or_imp, List.mem_map, forall_exists_index, and_imp, forall_apply_eq_imp_iff₂, or_false, forall_eq, implies_true, and_self, and_true, true_and, Go.Gw.stA, Go.Gw.opA, Go.Gw.ndA, Go.Gw.unA, Go.Gw.enA, Go.Gw.inA, Go.Gw.lgF, Go.Gw.lgA]) (.of (by rw [rAtI, idxI_no _ l fun k hk => decide_eq_false (hno k hk hk)]))

theorem rfind_c (b : Bool) (l : List Nd) (id : Int) (H : AHeap) : FnC Try.prog 37 [.sl b (l.map ndA), .int .i64 id] H (ndV (findI l id)) := by
  refine fnC_of Try.func37 rfl (Nat.le_of_ble_eq_true rfl) ?_
  have hat := rat_c b l id
  unfold findI
  cases hs : chk l with
  | false =>
    repeat' first | ((first | refine callK_fn (rchk_c _ _ _) callOk39F ?_ | refine callP_fn (rchk_c _ _ _) callOk39F ?_ | refine callM_fn (fun _ => rchk_c _ _ _) callOk39F ?_ | refine callK_fn (hat _) callOk69F ?_ | refine callP_fn (hat _) callOk69F ?_ | refine callM_fn (fun _ => hat _) callOk69F ?_ | refine callP_false (.bool false) ?_ | refine aw_region rfl ?_ | refine aw_region_draw mixedF rfl (by kernel_rfl) ?_ | refine aw_ret ?_ | refine aw_skip ?_ | refine aw_exit ?_ | refine aw_label ?_); simp only [go_sem, ↓reduceIte, Nat.reduceEqDiff, Nat.reduceAdd, Nat.reduceSub, Nat.reduceMul, Nat.reduceLeDiff, Nat.reduceLT, Nat.reduceBEq, Int.reduceNeg, Int.reduceLE, Int.reduceLT, Int.reduceToNat, String.reduceEq, hs]) | refine aw_seq ?_ | refine aw_block ?_ | refine aw_scope ?_ | (refine aw_cond rfl (fun h => ?_) (fun h => ?_) <;> try (exfalso; first | (simp at h; done) | (simp at h; omega))) | ((with_reducible refine And.intro ?_ ?_); focus (first | omega | (intros; simp_all; done) | (simp; omega)))
    exact done (by simp only [pur_int, pur_bool, pur_str, pur_agg, pur_tup, pur_sl, pur_iface, pur_nilI, List.mem_cons, List.not_mem_nil, false_implies, forall_eq_or_imp, List.mem_map, forall_exists_index, and_imp, forall_apply_eq_imp_iff₂, or_false, forall_eq, implies_true, and_self, and_true, true_and, Go.Gw.stA, Go.Gw.opA, Go.Gw.ndA, Go.Gw.unA, Go.Gw.enA, Go.Gw.inA, Go.Gw.lgF, Go.Gw.lgA]) (.refl _)
  | true =>
    rcases idx_cases (fun n : Nd => decide (n.id = id)) l with ⟨h1, h2⟩ | ⟨i, hlt, h1, h2⟩
    · have e1 : rAtI l id = -1 := h1
      have e2 : fnd l id = none := h2
      rw [e1] at hat
      rw [e2]
      repeat' first | ((first | refine callK_fn (rchk_c _ _ _) callOk39F ?_ | refine callP_fn (rchk_c _ _ _) callOk39F ?_ | refine callM_fn (fun _ => rchk_c _ _ _) callOk39F ?_ | refine callK_fn (hat _) callOk69F ?_ | refine callP_fn (hat _) callOk69F ?_ | refine callM_fn (fun _ => hat _) callOk69F ?_ | refine callP_false (.bool false) ?_ | refine aw_region rfl ?_ | refine aw_region_draw mixedF rfl (by kernel_rfl) ?_ | refine aw_ret ?_ | refine aw_skip ?_ | refine aw_exit ?_ | refine aw_label ?_); simp only [go_sem, ↓reduceIte, Nat.reduceEqDiff, Nat.reduceAdd, Nat.reduceSub, Nat.reduceMul, Nat.reduceLeDiff, Nat.reduceLT, Nat.reduceBEq, Int.reduceNeg, Int.reduceLE, Int.reduceLT, Int.reduceToNat, String.reduceEq, hs]) | refine aw_seq ?_ | refine aw_block ?_ | refine aw_scope ?_ | (refine aw_cond rfl (fun h => ?_) (fun h => ?_) <;> try (exfalso; first | (simp at h; done) | (simp at h; omega))) | ((with_reducible refine And.intro ?_ ?_); focus (first | omega | (intros; simp_all; done) | (simp; omega)))
      exact done (by simp only [pur_int, pur_bool, pur_str, pur_agg, pur_tup, pur_sl, pur_iface, pur_nilI, List.mem_cons, List.not_mem_nil, false_implies, forall_eq_or_imp, List.mem_map, forall_exists_index, and_imp, forall_apply_eq_imp_iff₂, or_false, forall_eq, implies_true, and_self, and_true, true_and, Go.Gw.stA, Go.Gw.opA, Go.Gw.ndA, Go.Gw.unA, Go.Gw.enA, Go.Gw.inA, Go.Gw.lgF, Go.Gw.lgA]) (.refl _)
    · have e1 : rAtI l id = (i : Int) := h1
      have e2 : fnd l id = some l[i] := h2
      have hp := getD_map ndA hlt
      have hn : decide ((i : Int) < 0) = false := decide_eq_false (by omega)
      rw [e1] at hat
      rw [e2]
      repeat' first | ((first | refine callK_fn (rchk_c _ _ _) callOk39F ?_ | refine callP_fn (rchk_c _ _ _) callOk39F ?_ | refine callM_fn (fun _ => rchk_c _ _ _) callOk39F ?_ | refine callK_fn (hat _) callOk69F ?_ | refine callP_fn (hat _) callOk69F ?_ | refine callM_fn (fun _ => hat _) callOk69F ?_ | refine callP_false (.bool false) ?_ | refine aw_region rfl ?_ | refine aw_region_draw mixedF rfl (by kernel_rfl) ?_ | refine aw_ret ?_ | refine aw_skip ?_ | refine aw_exit ?_ | refine aw_label ?_); simp only [go_sem, ↓reduceIte, Nat.reduceEqDiff, Nat.reduceAdd, Nat.reduceSub, Nat.reduceMul, Nat.reduceLeDiff, Nat.reduceLT, Nat.reduceBEq, Int.reduceNeg, Int.reduceLE, Int.reduceLT, Int.reduceToNat, String.reduceEq, hs, hp, ndA, hn]) | refine aw_seq ?_ | refine aw_block ?_ | refine aw_scope ?_ | (refine aw_cond rfl (fun h => ?_) (fun h => ?_) <;> try (exfalso; first | (simp at h; done) | (simp at h; omega))) | ((with_reducible refine And.intro ?_ ?_); focus (first | omega | (intros; simp_all; done) | (simp; omega)))
      exact done (by simp only [pur_int, pur_bool, pur_str, pur_agg, pur_tup, pur_sl, pur_iface, pur_nilI, List.mem_cons, List.not_mem_nil, false_implies, forall_eq_or_imp, List.mem_map, forall_exists_index, and_imp, forall_apply_eq_imp_iff₂, or_false, forall_eq, implies_true, and_self, and_true, true_and, Go.Gw.stA, Go.Gw.opA, Go.Gw.ndA, Go.Gw.unA, Go.Gw.enA, Go.Gw.inA, Go.Gw.lgF, Go.Gw.lgA]) (.refl _)

theorem rabove_c (b : Bool) (l : List Nd) (id : Int) (hl : l.length ≤ 1073741824) (H : AHeap) : FnC Try.prog 42 [.sl b (l.map ndA), .int .i64 id] H (.sl false ((aboveC l id).map inA)) := by
  refine fnC_of Try.func42 rfl (Nat.le_of_ble_eq_true rfl) ?_
  have hat := fun id => rat_c b l id
  unfold aboveC
  cases hs : chk l with
  | false =>
    repeat' first | ((first | refine callK_fn (rchk_c _ _ _) callOk39F ?_ | refine callP_fn (rchk_c _ _ _) callOk39F ?_ | refine callM_fn (fun _ => rchk_c _ _ _) callOk39F ?_ | refine callP_false (.bool false) ?_ | refine aw_region rfl ?_ | refine aw_region_draw mixedF rfl (by kernel_rfl) ?_ | refine aw_ret ?_ | refine aw_skip ?_ | refine aw_exit ?_ | refine aw_label ?_); simp only [go_sem, ↓reduceIte, Nat.reduceEqDiff, Nat.reduceAdd, Nat.reduceSub, Nat.reduceMul, Nat.reduceLeDiff, Nat.reduceLT, Nat.reduceBEq, Int.reduceNeg, Int.reduceLE, Int.reduceLT, Int.reduceToNat, String.reduceEq, hs]) | refine aw_seq ?_ | refine aw_block ?_ | refine aw_scope ?_ | (refine aw_cond rfl (fun h => ?_) (fun h => ?_) <;> try (exfalso; first | (simp at h; done) | (simp at h; omega))) | ((with_reducible refine And.intro ?_ ?_); focus (first | omega | (intros; simp_all; done) | (simp; omega)))
    exact done0 (by simp only [pur_int, pur_bool, pur_str, pur_agg, pur_tup, pur_sl, pur_iface, pur_nilI, List.mem_cons, List.not_mem_nil, false_implies, forall_eq_or_imp, List.mem_map, forall_exists_index, and_imp, forall_apply_eq_imp_iff₂, or_false, forall_eq, implies_true, and_self, and_true, true_and, Go.Gw.stA, Go.Gw.opA, Go.Gw.ndA, Go.Gw.unA, Go.Gw.enA, Go.Gw.inA, Go.Gw.lgF, Go.Gw.lgA]) (.sl _ _)
  | true =>
    repeat' first | ((first | refine callK_fn (rchk_c _ _ _) callOk39F ?_ | refine callP_fn (rchk_c _ _ _) callOk39F ?_ | refine callM_fn (fun _ => rchk_c _ _ _) callOk39F ?_ | refine callP_false (.bool false) ?_ | refine aw_region rfl ?_ | refine aw_region_draw mixedF rfl (by kernel_rfl) ?_ | refine aw_ret ?_ | refine aw_skip ?_ | refine aw_exit ?_ | refine aw_label ?_); simp only [go_sem, ↓reduceIte, Nat.reduceEqDiff, Nat.reduceAdd, Nat.reduceSub, Nat.reduceMul, Nat.reduceLeDiff, Nat.reduceLT, Nat.reduceBEq, Int.reduceNeg, Int.reduceLE, Int.reduceLT, Int.reduceToNat, String.reduceEq, hs]) | refine aw_seq ?_ | refine aw_block ?_ | refine aw_scope ?_ | (refine aw_cond rfl (fun h => ?_) (fun h => ?_) <;> try (exfalso; first | (simp at h; done) | (simp at h; omega))) | ((with_reducible refine And.intro ?_ ?_); focus (first | omega | (intros; simp_all; done) | (simp; omega)))
    refine aw_void 5 1 rfl ?_
    refine aw_loopS (ι := List Int × Int) (fun x => [(0, .sl b (l.map ndA)), (1, .int .i64 x.2), (5, .osl 1 H.length (x.1.length + 1) 0 x.1.length x.1.length), (7, .int .i64 x.1.length)]) (fun x => H ++ [.cells (x.1.length + 1) (x.1.map inA)])
      (fun x => x.1.length ≤ l.length ∧ x.1 ++ aboveN l (l.length - x.1.length) x.2 = aboveI l id) (fun x => l.length - x.1.length) ([], id) ⟨Nat.zero_le _, rfl⟩ ?_ rfl ?_
    · simp [go_sem]
    · rintro ⟨acc, id'⟩ ⟨hn, he⟩
      simp only at hn he ⊢
      have ha := hat id'
      by_cases hlt : acc.length < l.length
      · obtain ⟨m, hm⟩ : ∃ m, l.length - acc.length = m + 1 := ⟨l.length - acc.length - 1, by omega⟩
        rw [hm, aboveN] at he
        rcases idx_cases (fun n : Nd => decide (n.id = id')) l with ⟨h1, h2⟩ | ⟨i, hil, h1, h2⟩
        · have e1 : rAtI l id' = -1 := h1
          have e2 : fnd l id' = none := h2
          rw [e1] at ha
          rw [e2] at he
          repeat' first | ((first | refine callK_fn (ha _) callOk69F ?_ | refine callP_fn (ha _) callOk69F ?_ | refine callM_fn (fun _ => ha _) callOk69F ?_ | refine callP_false (.bool false) ?_ | refine aw_region rfl ?_ | refine aw_region_draw mixedF rfl (by kernel_rfl) ?_ | refine aw_ret ?_ | refine aw_skip ?_ | refine aw_exit ?_ | refine aw_label ?_); simp only [go_sem, ↓reduceIte, Nat.reduceEqDiff, Nat.reduceAdd, Nat.reduceSub, Nat.reduceMul, Nat.reduceLeDiff, Nat.reduceLT, Nat.reduceBEq, Int.reduceNeg, Int.reduceLE, Int.reduceLT, Int.reduceToNat, String.reduceEq]) | refine aw_seq ?_ | refine aw_block ?_ | refine aw_scope ?_ | (refine aw_cond rfl (fun h => ?_) (fun h => ?_) <;> try (exfalso; first | (simp at h; done) | (simp at h; omega))) | ((with_reducible refine And.intro ?_ ?_); focus (first | omega | (intros; simp_all; done) | (simp; omega)))
          exact doneOsl (cs := acc.map inA) (es := acc.map inA) (rest := []) (Nat.le_refl _) (by simp only [go_sem, ↓reduceIte, Nat.reduceEqDiff, Nat.reduceAdd, Nat.reduceSub, Nat.reduceMul, Nat.reduceLeDiff, Nat.reduceLT, Nat.reduceBEq, Int.reduceNeg, Int.reduceLE, Int.reduceLT, Int.reduceToNat, String.reduceEq]) (by rw [flat_in, List.append_nil]) (by simp) (cells_in acc) (fun e he => by obtain ⟨c, _, rfl⟩ := List.mem_map.1 he; exact .int _ _) (by rw [← he]; simp)
        · have e1 : rAtI l id' = (i : Int) := h1
          have e2 : fnd l id' = some l[i] := h2
          have hp := getD_map ndA hil
          have hin : decide ((i : Int) < 0) = false := decide_eq_false (by omega)
          rw [e1] at ha
          rw [e2] at he
          simp only at he
          repeat' first | ((first | refine callK_fn (ha _) callOk69F ?_ | refine callP_fn (ha _) callOk69F ?_ | refine callM_fn (fun _ => ha _) callOk69F ?_ | refine callP_false (.bool false) ?_ | refine aw_region rfl ?_ | refine aw_region_draw mixedF rfl (by kernel_rfl) ?_ | refine aw_ret ?_ | refine aw_skip ?_ | refine aw_exit ?_ | refine aw_label ?_); simp only [go_sem, ↓reduceIte, Nat.reduceEqDiff, Nat.reduceAdd, Nat.reduceSub, Nat.reduceMul, Nat.reduceLeDiff, Nat.reduceLT, Nat.reduceBEq, Int.reduceNeg, Int.reduceLE, Int.reduceLT, Int.reduceToNat, String.reduceEq, hp, ndA, hin]) | refine aw_seq ?_ | refine aw_block ?_ | refine aw_scope ?_ | (refine aw_cond rfl (fun h => ?_) (fun h => ?_) <;> try (exfalso; first | (simp at h; done) | (simp at h; omega))) | ((with_reducible refine And.intro ?_ ?_); focus (first | omega | (intros; simp_all; done) | (simp; omega)))
          · rw [if_pos (of_decide_eq_true h)] at he
            exact doneOsl (cs := acc.map inA) (es := acc.map inA) (rest := []) (Nat.le_refl _) (by simp only [go_sem, ↓reduceIte, Nat.reduceEqDiff, Nat.reduceAdd, Nat.reduceSub, Nat.reduceMul, Nat.reduceLeDiff, Nat.reduceLT, Nat.reduceBEq, Int.reduceNeg, Int.reduceLE, Int.reduceLT, Int.reduceToNat, String.reduceEq]) (by rw [flat_in, List.append_nil]) (by simp) (cells_in acc) (fun e he => by obtain ⟨c, _, rfl⟩ := List.mem_map.1 he; exact .int _ _) (by rw [← he]; simp)
          · rw [if_neg (of_decide_eq_false h)] at he
            refine ⟨⟨by omega, fun e he => by rw [he]; rfl, by omega⟩, ?_⟩
            repeat' first | ((first | refine callP_false (.bool false) ?_ | refine aw_region rfl ?_ | refine aw_region_draw mixedF rfl (by kernel_rfl) ?_ | refine aw_ret ?_ | refine aw_skip ?_ | refine aw_exit ?_ | refine aw_label ?_); simp only [go_sem, ↓reduceIte, Nat.reduceEqDiff, Nat.reduceAdd, Nat.reduceSub, Nat.reduceMul, Nat.reduceLeDiff, Nat.reduceLT, Nat.reduceBEq, Int.reduceNeg, Int.reduceLE, Int.reduceLT, Int.reduceToNat, String.reduceEq]) | refine aw_seq ?_ | refine aw_block ?_ | refine aw_scope ?_ | (refine aw_cond rfl (fun h => ?_) (fun h => ?_) <;> try (exfalso; first | (simp at h; done) | (simp at h; omega))) | ((with_reducible refine And.intro ?_ ?_); focus (first | omega | (intros; simp_all; done) | (simp; omega)))
            exact ⟨(acc ++ [l[i].parent], l[i].parent), ⟨by simp; omega, by rw [← he]; simp [show l.length - (acc.length + 1) = m by omega]⟩, by simp; omega, ⟨rfl, by simp, by rw [wrap_succ hlt (by omega)]; simp⟩, by simp [inA]⟩
      · repeat' first | ((first | refine callP_false (.bool false) ?_ | refine aw_region rfl ?_ | refine aw_region_draw mixedF rfl (by kernel_rfl) ?_ | refine aw_ret ?_ | refine aw_skip ?_ | refine aw_exit ?_ | refine aw_label ?_); simp only [go_sem, ↓reduceIte, Nat.reduceEqDiff, Nat.reduceAdd, Nat.reduceSub, Nat.reduceMul, Nat.reduceLeDiff, Nat.reduceLT, Nat.reduceBEq, Int.reduceNeg, Int.reduceLE, Int.reduceLT, Int.reduceToNat, String.reduceEq, hlt]) | refine aw_seq ?_ | refine aw_block ?_ | refine aw_scope ?_ | (refine aw_cond rfl (fun h => ?_) (fun h => ?_) <;> try (exfalso; first | (simp at h; done) | (simp at h; omega))) | ((with_reducible refine And.intro ?_ ?_); focus (first | omega | (intros; simp_all; done) | (simp; omega)))
        have he2 : l.length - acc.length = 0 := by omega
        rw [he2] at he
        exact doneOsl (cs := acc.map inA) (es := acc.map inA) (rest := []) (Nat.le_refl _) (by simp only [go_sem, ↓reduceIte, Nat.reduceEqDiff, Nat.reduceAdd, Nat.reduceSub, Nat.reduceMul, Nat.reduceLeDiff, Nat.reduceLT, Nat.reduceBEq, Int.reduceNeg, Int.reduceLE, Int.reduceLT, Int.reduceToNat, String.reduceEq]) (by rw [flat_in, List.append_nil]) (by simp) (cells_in acc) (fun e he => by obtain ⟨c, _, rfl⟩ := List.mem_map.1 he; exact .int _ _) (by rw [← he]; simp [aboveN])
end Go.Proofs.Ytoffonjlfomnbaa
/- What the document's functions of the nodes answer: loops, without, with. No condition. -/
namespace Go.Gw
open Go Go.Aw Go.Proofs.Ytoffonjlfomnbaa
theorem rAt_le (l : List Nd) (id : Int) : rAt l id ≤ l.length := by
  unfold rAt
  induction l with
  | nil => exact Nat.le_refl _
  | cons x l ih => rw [List.takeWhile_cons]; split <;> simp; exact ih
theorem rAt_lt {l : List Nd} {id : Int} {i : Nat} (h : i < rAt l id) : (l[i]'(Nat.lt_of_lt_of_le h (rAt_le l id))).id < id := by
  induction l generalizing i with
  | nil => simp [rAt] at h
  | cons x l ih =>
    unfold rAt at h
    rw [List.takeWhile_cons] at h
    split at h
    · rename_i hx
      cases i with
      | zero => simpa using hx
      | succ i => exact ih (by simpa [rAt] using h)
    · simp at h
theorem rAt_stop {l : List Nd} {id : Int} (h : rAt l id < l.length) : ¬ (l[rAt l id]).id < id := by
  induction l with
  | nil => simp at h
  | cons x l ih =>
    have e : rAt (x :: l) id = if x.id < id then rAt l id + 1 else 0 := by
      unfold rAt; rw [List.takeWhile_cons]; split <;> simp_all
    by_cases hx : x.id < id
    · have e1 : rAt (x :: l) id = rAt l id + 1 := by rw [e, if_pos hx]
      simp only [e1, List.getElem_cons_succ]
      exact ih (by simp [e1] at h; exact h)
    · have e1 : rAt (x :: l) id = 0 := by rw [e, if_neg hx]
      simp only [e1, List.getElem_cons_zero]
      exact hx
end Go.Gw
namespace Go.Proofs.Ytoffonjlfomnbaa
open Go Go.Aw Go.Gw
set_option linter.unusedSimpArgs false
set_option maxRecDepth 20000
set_option maxHeartbeats 1000000

theorem rloops_c (b : Bool) (l : List Nd) (o : Opn) (hs : chk l = true) (hl : l.length ≤ 1073741824) (H : AHeap) : FnC Try.prog 68 [.sl b (l.map ndA), opA o] H (.bool (loopsI l o)) := by
  refine fnC_of Try.func68 rfl (Nat.le_of_ble_eq_true rfl) ?_
  have hab := rabove_c b l o.parent hl
  have e : aboveC l o.parent = aboveI l o.parent := by rw [aboveC, if_pos hs]
  rw [e] at hab
  have hlen := aboveN_len l l.length o.parent
  unfold loopsI
  rw [show aboveI l o.parent = aboveN l l.length o.parent from rfl] at hab ⊢
  generalize aboveN l l.length o.parent = up at hab hlen
  simp only [opA]
  repeat' first | ((first | refine callK_fn (hab _) callOk42F ?_ | refine callP_fn (hab _) callOk42F ?_ | refine callM_fn (fun _ => hab _) callOk42F ?_ | refine callP_false (.bool false) ?_ | refine aw_region rfl ?_ | refine aw_region_draw mixedF rfl (by kernel_rfl) ?_ | refine aw_ret ?_ | refine aw_skip ?_ | refine aw_exit ?_ | refine aw_label ?_); simp only [go_sem, ↓reduceIte, Nat.reduceEqDiff, Nat.reduceAdd, Nat.reduceSub, Nat.reduceMul, Nat.reduceLeDiff, Nat.reduceLT, Nat.reduceBEq, Int.reduceNeg, Int.reduceLE, Int.reduceLT, Int.reduceToNat, String.reduceEq]) | refine aw_seq ?_ | refine aw_block ?_ | refine aw_scope ?_ | (refine aw_cond rfl (fun h => ?_) (fun h => ?_) <;> try (exfalso; first | (simp at h; done) | (simp at h; omega))) | ((with_reducible refine And.intro ?_ ?_); focus (first | omega | (intros; simp_all; done) | (simp; omega)))
  refine aw_loopS (ι := Nat) (fun i => [(3, .ref H.length 0 0), (5, .sl false (up.map inA)), (6, .int .i64 i)]) (fun _ => H ++ [.cells 0 [.int .i64 o.at_.c, .int .i64 o.at_.r, .int .i64 o.kind, .int .i64 o.node, .int .i64 o.parent, .str o.name, .str o.data]])
    (fun i => i ≤ up.length ∧ ∀ k (hk : k < i) (hk2 : k < up.length), ¬ up[k] = o.node) (fun i => up.length - i) 0 ⟨Nat.zero_le _, fun k hk => by omega⟩ ?_ rfl ?_
  · simp [go_sem]
  · rintro i ⟨hi, hno⟩
    by_cases hlt : i < up.length
    · have hp := getD_map inA hlt
      repeat' first | ((first | refine callP_false (.bool false) ?_ | refine aw_region rfl ?_ | refine aw_region_draw mixedF rfl (by kernel_rfl) ?_ | refine aw_ret ?_ | refine aw_skip ?_ | refine aw_exit ?_ | refine aw_label ?_); simp only [go_sem, ↓reduceIte, Nat.reduceEqDiff, Nat.reduceAdd, Nat.reduceSub, Nat.reduceMul, Nat.reduceLeDiff, Nat.reduceLT, Nat.reduceBEq, Int.reduceNeg, Int.reduceLE, Int.reduceLT, Int.reduceToNat, String.reduceEq, hp, inA]) | refine aw_seq ?_ | refine aw_block ?_ | refine aw_scope ?_ | (refine aw_cond rfl (fun h => ?_) (fun h => ?_) <;> try (exfalso; first | (simp at h; done) | (simp at h; omega))) | ((with_reducible refine And.intro ?_ ?_); focus (first | omega | (intros; simp_all; done) | (simp; omega)))
      · refine done (by simp only [pur_int, pur_bool, pur_str, pur_agg, pur_tup, pur_sl, pur_iface, pur_nilI, List.mem_cons, List.not_mem_nil, false_implies, forall_eq_or_imp, List.mem_map, forall_exists_index, and_imp, forall_apply_eq_imp_iff₂, or_false, forall_eq, implies_true, and_self, and_true, true_and, Go.Gw.stA, Go.Gw.opA, Go.Gw.ndA, Go.Gw.unA, Go.Gw.enA, Go.Gw.inA, Go.Gw.lgF, Go.Gw.lgA]) (.of (congrArg AV.bool ?_))
        have : up.any (fun x => decide (x = o.node)) = true := List.any_eq_true.2 ⟨_, List.getElem_mem hlt, h⟩
        rw [this, Bool.or_true]
      · refine ⟨i + 1, ⟨hlt, fun k hk hk2 => ?_⟩, by omega, congrArg _ (wrap_succ hlt (by omega))⟩
        by_cases e : k = i
        · subst e; exact of_decide_eq_false h
        · exact hno k (by omega) hk2
    · have hi' : i = up.length := by omega
      repeat' first | ((first | refine callP_false (.bool false) ?_ | refine aw_region rfl ?_ | refine aw_region_draw mixedF rfl (by kernel_rfl) ?_ | refine aw_ret ?_ | refine aw_skip ?_ | refine aw_exit ?_ | refine aw_label ?_); simp only [go_sem, ↓reduceIte, Nat.reduceEqDiff, Nat.reduceAdd, Nat.reduceSub, Nat.reduceMul, Nat.reduceLeDiff, Nat.reduceLT, Nat.reduceBEq, Int.reduceNeg, Int.reduceLE, Int.reduceLT, Int.reduceToNat, String.reduceEq]) | refine aw_seq ?_ | refine aw_block ?_ | refine aw_scope ?_ | (refine aw_cond rfl (fun h => ?_) (fun h => ?_) <;> try (exfalso; first | (simp at h; done) | (simp at h; omega))) | ((with_reducible refine And.intro ?_ ?_); focus (first | omega | (intros; simp_all; done) | (simp; omega)))
      subst hi'
      refine done (by simp only [pur_int, pur_bool, pur_str, pur_agg, pur_tup, pur_sl, pur_iface, pur_nilI, List.mem_cons, List.not_mem_nil, false_implies, forall_eq_or_imp, List.mem_map, forall_exists_index, and_imp, forall_apply_eq_imp_iff₂, or_false, forall_eq, implies_true, and_self, and_true, true_and, Go.Gw.stA, Go.Gw.opA, Go.Gw.ndA, Go.Gw.unA, Go.Gw.enA, Go.Gw.inA, Go.Gw.lgF, Go.Gw.lgA]) (.of (congrArg AV.bool ?_))
      have : up.any (fun x => decide (x = o.node)) = false := by
        rw [List.any_eq_false]
        intro x hx
        obtain ⟨k, hk, rfl⟩ := List.getElem_of_mem hx
        simpa using hno k hk hk
      rw [this, Bool.or_false]

theorem rwithout_c (b : Bool) (l : List Nd) (id : Int) (hl : l.length ≤ 1073741824) (H : AHeap) : FnC Try.prog 72 [.sl b (l.map ndA), .int .i64 id] H (.sl false ((rOut l id).map ndA)) := by
  refine fnC_of Try.func72 rfl (Nat.le_of_ble_eq_true rfl) ?_
  repeat' first | ((first | refine callP_false (.bool false) ?_ | refine aw_region rfl ?_ | refine aw_region_draw mixedF rfl (by kernel_rfl) ?_ | refine aw_ret ?_ | refine aw_skip ?_ | refine aw_exit ?_ | refine aw_label ?_); simp only [go_sem, ↓reduceIte, Nat.reduceEqDiff, Nat.reduceAdd, Nat.reduceSub, Nat.reduceMul, Nat.reduceLeDiff, Nat.reduceLT, Nat.reduceBEq, Int.reduceNeg, Int.reduceLE, Int.reduceLT, Int.reduceToNat, String.reduceEq]) | refine aw_seq ?_ | refine aw_block ?_ | refine aw_scope ?_ | (refine aw_cond rfl (fun h => ?_) (fun h => ?_) <;> try (exfalso; first | (simp at h; done) | (simp at h; omega))) | ((with_reducible refine And.intro ?_ ?_); focus (first | omega | (intros; simp_all; done) | (simp; omega)))
  refine aw_void 5 8 rfl ?_
  refine aw_loopS (ι := Nat × Nat) (fun x => [(0, .sl b (l.map ndA)), (1, .int .i64 id), (5, .osl 8 H.length (x.2 + 1) 0 x.2 x.2), (6, .int .i64 x.1)]) (fun x => H ++ [.cells (x.2 + 1) (((rOut (l.take x.1) id).map ndA).flatMap AV.cells)])
    (fun x => x.1 ≤ l.length ∧ (rOut (l.take x.1) id).length = x.2) (fun x => l.length - x.1) (0, 0) ⟨Nat.zero_le _, rfl⟩ ?_ rfl ?_
  · simp [go_sem]
  · rintro ⟨i, n⟩ ⟨hi, hn⟩
    simp only at hi hn ⊢
    have hfl := flat_nd_len' (rOut (l.take i) id)
    rw [hn] at hfl
    by_cases hlt : i < l.length
    · have hp := getD_map ndA hlt
      have htk : l.take (i + 1) = l.take i ++ [l[i]] := List.take_succ_eq_append_getElem hlt
      have hle : n ≤ i := by
        have := List.length_filter_le (fun n : Nd => !decide (n.id = id)) (l.take i)
        rw [List.length_take] at this
        rw [rOut] at hn; omega
      repeat' first | ((first | refine callP_false (.bool false) ?_ | refine aw_region rfl ?_ | refine aw_region_draw mixedF rfl (by kernel_rfl) ?_ | refine aw_ret ?_ | refine aw_skip ?_ | refine aw_exit ?_ | refine aw_label ?_); simp only [go_sem, ↓reduceIte, Nat.reduceEqDiff, Nat.reduceAdd, Nat.reduceSub, Nat.reduceMul, Nat.reduceLeDiff, Nat.reduceLT, Nat.reduceBEq, Int.reduceNeg, Int.reduceLE, Int.reduceLT, Int.reduceToNat, String.reduceEq, hp, ndA, hfl]) | refine aw_seq ?_ | refine aw_block ?_ | refine aw_scope ?_ | (refine aw_cond rfl (fun h => ?_) (fun h => ?_) <;> try (exfalso; first | (simp at h; done) | (simp at h; omega))) | ((with_reducible refine And.intro ?_ ?_); focus (first | omega | (intros; simp_all; done) | (simp; omega)))
      · have hne : ¬ l[i].id = id := by simpa using h
        have hr : rOut (l.take (i + 1)) id = rOut (l.take i) id ++ [l[i]] := by rw [htk, rOut, List.filter_append]; simp [rOut, hne]
        refine ⟨⟨fun e he => by rw [he]; rfl, by omega⟩, ?_⟩
        repeat' first | ((first | refine callP_false (.bool false) ?_ | refine aw_region rfl ?_ | refine aw_region_draw mixedF rfl (by kernel_rfl) ?_ | refine aw_ret ?_ | refine aw_skip ?_ | refine aw_exit ?_ | refine aw_label ?_); simp only [go_sem, ↓reduceIte, Nat.reduceEqDiff, Nat.reduceAdd, Nat.reduceSub, Nat.reduceMul, Nat.reduceLeDiff, Nat.reduceLT, Nat.reduceBEq, Int.reduceNeg, Int.reduceLE, Int.reduceLT, Int.reduceToNat, String.reduceEq]) | refine aw_seq ?_ | refine aw_block ?_ | refine aw_scope ?_ | (refine aw_cond rfl (fun h => ?_) (fun h => ?_) <;> try (exfalso; first | (simp at h; done) | (simp at h; omega))) | ((with_reducible refine And.intro ?_ ?_); focus (first | omega | (intros; simp_all; done) | (simp; omega)))
        exact ⟨(i + 1, n + 1), ⟨hlt, by simp only [hr, List.length_append, hn]; rfl⟩, by simp only; omega, ⟨rfl, congrArg _ (wrap_succ hlt (by omega))⟩, by simp only [hr, List.map_append, List.flatMap_append]; rfl⟩
      · have hne : l[i].id = id := by simpa using h
        have hr : rOut (l.take (i + 1)) id = rOut (l.take i) id := by rw [htk, rOut, List.filter_append]; simp [rOut, hne]
        exact ⟨(i + 1, n), ⟨hlt, by simp only [hr]; exact hn⟩, by simp only; omega, ⟨rfl, congrArg _ (wrap_succ hlt (by omega))⟩, by simp only [hr]⟩
    · have hi' : i = l.length := by omega
      subst hi'
      rw [List.take_length] at hn hfl ⊢
      repeat' first | ((first | refine callP_false (.bool false) ?_ | refine aw_region rfl ?_ | refine aw_region_draw mixedF rfl (by kernel_rfl) ?_ | refine aw_ret ?_ | refine aw_skip ?_ | refine aw_exit ?_ | refine aw_label ?_); simp only [go_sem, ↓reduceIte, Nat.reduceEqDiff, Nat.reduceAdd, Nat.reduceSub, Nat.reduceMul, Nat.reduceLeDiff, Nat.reduceLT, Nat.reduceBEq, Int.reduceNeg, Int.reduceLE, Int.reduceLT, Int.reduceToNat, String.reduceEq]) | refine aw_seq ?_ | refine aw_block ?_ | refine aw_scope ?_ | (refine aw_cond rfl (fun h => ?_) (fun h => ?_) <;> try (exfalso; first | (simp at h; done) | (simp at h; omega))) | ((with_reducible refine And.intro ?_ ?_); focus (first | omega | (intros; simp_all; done) | (simp; omega)))
      exact doneOsl (es := (rOut l id).map ndA) (rest := []) (Nat.le_refl _) (by simp only [go_sem, ↓reduceIte, Nat.reduceEqDiff, Nat.reduceAdd, Nat.reduceSub, Nat.reduceMul, Nat.reduceLeDiff, Nat.reduceLT, Nat.reduceBEq, Int.reduceNeg, Int.reduceLE, Int.reduceLT, Int.reduceToNat, String.reduceEq]) (List.append_nil _).symm (by rw [List.length_map]; exact hn) (cells_nd _) (pur_nd _) rfl

theorem rwith_c (b : Bool) (l : List Nd) (n : Nd) (hl : l.length ≤ 1000000000) (H : AHeap) : FnC Try.prog 67 [.sl b (l.map ndA), ndA n] H (.sl false ((rWith l n).map ndA)) := by
  refine fnC_of Try.func67 rfl (Nat.le_of_ble_eq_true rfl) ?_
  have hwo := rwithout_c b l n.id (by omega)
  have hrl := List.length_filter_le (fun x : Nd => !decide (x.id = n.id)) l
  unfold rWith
  rw [show List.filter (fun x : Nd => !decide (x.id = n.id)) l = rOut l n.id from rfl] at hrl
  generalize rOut l n.id = rest at hwo hrl
  simp only [ndA]
  repeat' first | ((first | refine callK_fn (hwo _) callOk72F ?_ | refine callP_fn (hwo _) callOk72F ?_ | refine callM_fn (fun _ => hwo _) callOk72F ?_ | refine aw_region_mix (id := 6) [.free, .free, .free, .pure 0, .eff [false], .pure 1, .free, .eff [true], .free, .eff [true], .free] mixedF rfl (by kernel_rfl) (by kernel_rfl) ?_ | refine callP_false (.bool false) ?_ | refine aw_region rfl ?_ | refine aw_region_draw mixedF rfl (by kernel_rfl) ?_ | refine aw_ret ?_ | refine aw_skip ?_ | refine aw_exit ?_ | refine aw_label ?_); simp only [go_sem, ↓reduceIte, Nat.reduceEqDiff, Nat.reduceAdd, Nat.reduceSub, Nat.reduceMul, Nat.reduceLeDiff, Nat.reduceLT, Nat.reduceBEq, Int.reduceNeg, Int.reduceLE, Int.reduceLT, Int.reduceToNat, String.reduceEq]) | refine aw_seq ?_ | refine aw_block ?_ | refine aw_scope ?_ | (refine aw_cond rfl (fun h => ?_) (fun h => ?_) <;> try (exfalso; first | (simp at h; done) | (simp at h; omega))) | ((with_reducible refine And.intro ?_ ?_); focus (first | omega | (intros; simp_all; done) | (simp; omega)))
  refine aw_cutB (ι := Unit) (fun _ => [(3, .ref H.length 0 0), (5, .sl false (rest.map ndA)), (6, .int .i64 (rAt rest n.id))]) (fun _ => H ++ [.cells 0 (ndA n).cells]) (fun _ => True) ?_ ?_
  · have hr0 := rAt_le rest n.id
    refine aw_loopS (ι := Nat) (fun i => [(3, .ref H.length 0 0), (5, .sl false (rest.map ndA)), (6, .int .i64 i)]) (fun _ => H ++ [.cells 0 (ndA n).cells]) (fun i => i ≤ rAt rest n.id) (fun i => rAt rest n.id - i) 0 (Nat.zero_le _) ?_ rfl ?_
    · simp [go_sem]
    · intro i hi
      by_cases hlt : i < rest.length
      · have hp := getD_map ndA hlt
        have hli : decide ((i : Int) < (rest.length : Int)) = true := decide_eq_true (by omega)
        by_cases hia : i < rAt rest n.id
        · have hle : decide (rest[i].id < n.id) = true := decide_eq_true (rAt_lt hia)
          repeat' first | ((first | refine aw_region_mix (id := 6) [.free, .free, .free, .pure 0, .eff [false], .pure 1, .free, .eff [true], .free, .eff [true], .free] mixedF rfl (by kernel_rfl) (by kernel_rfl) ?_ | refine callP_false (.bool false) ?_ | refine aw_region rfl ?_ | refine aw_region_draw mixedF rfl (by kernel_rfl) ?_ | refine aw_ret ?_ | refine aw_skip ?_ | refine aw_exit ?_ | refine aw_label ?_); simp only [go_sem, ↓reduceIte, Nat.reduceEqDiff, Nat.reduceAdd, Nat.reduceSub, Nat.reduceMul, Nat.reduceLeDiff, Nat.reduceLT, Nat.reduceBEq, Int.reduceNeg, Int.reduceLE, Int.reduceLT, Int.reduceToNat, String.reduceEq, hp, hli, ndA, hle]) | refine aw_seq ?_ | refine aw_block ?_ | refine aw_scope ?_ | (refine aw_cond rfl (fun h => ?_) (fun h => ?_) <;> try (exfalso; first | (simp at h; done) | (simp at h; omega))) | ((with_reducible refine And.intro ?_ ?_); focus (first | omega | (intros; simp_all; done) | (simp; omega)))
          exact ⟨i + 1, hia, by omega, congrArg _ (wrap_succ hlt (by omega))⟩
        · have hie : i = rAt rest n.id := by omega
          subst hie
          have hle : decide (rest[rAt rest n.id].id < n.id) = false := decide_eq_false (rAt_stop hlt)
          repeat' first | ((first | refine aw_region_mix (id := 6) [.free, .free, .free, .pure 0, .eff [false], .pure 1, .free, .eff [true], .free, .eff [true], .free] mixedF rfl (by kernel_rfl) (by kernel_rfl) ?_ | refine callP_false (.bool false) ?_ | refine aw_region rfl ?_ | refine aw_region_draw mixedF rfl (by kernel_rfl) ?_ | refine aw_ret ?_ | refine aw_skip ?_ | refine aw_exit ?_ | refine aw_label ?_); simp only [go_sem, ↓reduceIte, Nat.reduceEqDiff, Nat.reduceAdd, Nat.reduceSub, Nat.reduceMul, Nat.reduceLeDiff, Nat.reduceLT, Nat.reduceBEq, Int.reduceNeg, Int.reduceLE, Int.reduceLT, Int.reduceToNat, String.reduceEq, hp, hli, ndA, hle]) | refine aw_seq ?_ | refine aw_block ?_ | refine aw_scope ?_ | (refine aw_cond rfl (fun h => ?_) (fun h => ?_) <;> try (exfalso; first | (simp at h; done) | (simp at h; omega))) | ((with_reducible refine And.intro ?_ ?_); focus (first | omega | (intros; simp_all; done) | (simp; omega)))
          exact ⟨(), trivial⟩
      · have hie : i = rAt rest n.id := by omega
        subst hie
        have hli : decide ((rAt rest n.id : Int) < (rest.length : Int)) = false := decide_eq_false (by omega)
        repeat' first | ((first | refine aw_region_mix (id := 6) [.free, .free, .free, .pure 0, .eff [false], .pure 1, .free, .eff [true], .free, .eff [true], .free] mixedF rfl (by kernel_rfl) (by kernel_rfl) ?_ | refine callP_false (.bool false) ?_ | refine aw_region rfl ?_ | refine aw_region_draw mixedF rfl (by kernel_rfl) ?_ | refine aw_ret ?_ | refine aw_skip ?_ | refine aw_exit ?_ | refine aw_label ?_); simp only [go_sem, ↓reduceIte, Nat.reduceEqDiff, Nat.reduceAdd, Nat.reduceSub, Nat.reduceMul, Nat.reduceLeDiff, Nat.reduceLT, Nat.reduceBEq, Int.reduceNeg, Int.reduceLE, Int.reduceLT, Int.reduceToNat, String.reduceEq, hli, ndA]) | refine aw_seq ?_ | refine aw_block ?_ | refine aw_scope ?_ | (refine aw_cond rfl (fun h => ?_) (fun h => ?_) <;> try (exfalso; first | (simp at h; done) | (simp at h; omega))) | ((with_reducible refine And.intro ?_ ?_); focus (first | omega | (intros; simp_all; done) | (simp; omega)))
        exact ⟨(), trivial⟩
  · intro _ _
    have hr0 := rAt_le rest n.id
    generalize rAt rest n.id = k at hr0 ⊢
    have s1 : List.take k (rest.map ndA) = (rest.take k).map ndA := (List.map_take ..).symm
    have s2 : List.drop k (rest.map ndA) = (rest.drop k).map ndA := (List.map_drop ..).symm
    have l1 : (rest.take k).length = k := by rw [List.length_take]; omega
    have l2 : (rest.drop k).length = rest.length - k := List.length_drop ..
    have c1 := cells_ndT (rest.take k)
    have c2 := cells_ndT (rest.drop k)
    have f1 := flat_nd_len' (rest.take k)
    have f2 := flat_nd_len' (rest.drop k)
    have o2 := one_nd' (rest.drop k)
    repeat' first | ((first | refine aw_region_mix (id := 6) [.free, .free, .free, .pure 0, .eff [false], .pure 1, .free, .eff [true], .free, .eff [true], .free] mixedF rfl (by kernel_rfl) (by kernel_rfl) ?_ | refine callP_false (.bool false) ?_ | refine aw_region rfl ?_ | refine aw_region_draw mixedF rfl (by kernel_rfl) ?_ | refine aw_ret ?_ | refine aw_skip ?_ | refine aw_exit ?_ | refine aw_label ?_); simp only [go_sem, ↓reduceIte, Nat.reduceEqDiff, Nat.reduceAdd, Nat.reduceSub, Nat.reduceMul, Nat.reduceLeDiff, Nat.reduceLT, Nat.reduceBEq, Int.reduceNeg, Int.reduceLE, Int.reduceLT, Int.reduceToNat, String.reduceEq, s1, s2, c1, c2, f1, f2, o2, l1, l2, ndA]) | refine aw_seq ?_ | refine aw_block ?_ | refine aw_scope ?_ | (refine aw_cond rfl (fun h => ?_) (fun h => ?_) <;> try (exfalso; first | (simp at h; done) | (simp at h; omega))) | ((with_reducible refine And.intro ?_ ?_); focus (first | omega | (intros; simp_all; done) | (simp; omega)))
    refine ⟨⟨by omega, by omega, cells_nd _⟩, ⟨.inl trivial, by omega⟩, ?_⟩
    repeat' first | ((first | refine aw_region_mix (id := 6) [.free, .free, .free, .pure 0, .eff [false], .pure 1, .free, .eff [true], .free, .eff [true], .free] mixedF rfl (by kernel_rfl) (by kernel_rfl) ?_ | refine callP_false (.bool false) ?_ | refine aw_region rfl ?_ | refine aw_region_draw mixedF rfl (by kernel_rfl) ?_ | refine aw_ret ?_ | refine aw_skip ?_ | refine aw_exit ?_ | refine aw_label ?_); simp only [go_sem, ↓reduceIte, Nat.reduceEqDiff, Nat.reduceAdd, Nat.reduceSub, Nat.reduceMul, Nat.reduceLeDiff, Nat.reduceLT, Nat.reduceBEq, Int.reduceNeg, Int.reduceLE, Int.reduceLT, Int.reduceToNat, String.reduceEq, s1, s2, c1, c2, f1, f2, o2, l1, l2, ndA]) | refine aw_seq ?_ | refine aw_block ?_ | refine aw_scope ?_ | (refine aw_cond rfl (fun h => ?_) (fun h => ?_) <;> try (exfalso; first | (simp at h; done) | (simp at h; omega))) | ((with_reducible refine And.intro ?_ ?_); focus (first | omega | (intros; simp_all; done) | (simp; omega)))
    have ht : List.take ((rest.length - k) * 8) (List.flatMap AV.cells (List.map ndA (List.drop k rest))) = List.flatMap AV.cells (List.map ndA (List.drop k rest)) := List.take_of_length_le (by rw [f2, l2]; exact Nat.le_refl _)
    refine ⟨⟨fun e he => by rw [he]; rfl, by omega⟩, ⟨by omega, Nat.le_refl _, by omega, by rw [ht]; exact o2⟩, ?_⟩
    rw [ht]
    repeat' first | ((first | refine aw_region_mix (id := 6) [.free, .free, .free, .pure 0, .eff [false], .pure 1, .free, .eff [true], .free, .eff [true], .free] mixedF rfl (by kernel_rfl) (by kernel_rfl) ?_ | refine callP_false (.bool false) ?_ | refine aw_region rfl ?_ | refine aw_region_draw mixedF rfl (by kernel_rfl) ?_ | refine aw_ret ?_ | refine aw_skip ?_ | refine aw_exit ?_ | refine aw_label ?_); simp only [go_sem, ↓reduceIte, Nat.reduceEqDiff, Nat.reduceAdd, Nat.reduceSub, Nat.reduceMul, Nat.reduceLeDiff, Nat.reduceLT, Nat.reduceBEq, Int.reduceNeg, Int.reduceLE, Int.reduceLT, Int.reduceToNat, String.reduceEq]) | refine aw_seq ?_ | refine aw_block ?_ | refine aw_scope ?_ | (refine aw_cond rfl (fun h => ?_) (fun h => ?_) <;> try (exfalso; first | (simp at h; done) | (simp at h; omega))) | ((with_reducible refine And.intro ?_ ?_); focus (first | omega | (intros; simp_all; done) | (simp; omega)))
    exact doneOsl (es := (rest.take k ++ n :: rest.drop k).map ndA) (rest := []) (by omega) (by simp only [go_sem, ↓reduceIte, Nat.reduceEqDiff, Nat.reduceAdd, Nat.reduceSub, Nat.reduceMul, Nat.reduceLeDiff, Nat.reduceLT, Nat.reduceBEq, Int.reduceNeg, Int.reduceLE, Int.reduceLT, Int.reduceToNat, String.reduceEq]; rfl) (by rw [List.append_nil, List.map_append, List.map_cons, List.flatMap_append, List.flatMap_cons]; rfl) (by rw [List.length_map, List.length_append, List.length_cons, l1, l2]; omega) (cells_nd _) (pur_nd _) rfl
end Go.Proofs.Ytoffonjlfomnbaa
/- What the document's Do answers, where its test of an operation is known. No condition else. -/
namespace Go.Proofs.Ytoffonjlfomnbaa
open Go Go.Aw Go.Gw
set_option linter.unusedSimpArgs false
set_option maxRecDepth 20000
set_option maxHeartbeats 2000000

theorem rdo_c (b : Bool) (l : List Nd) (o : Opn) (hl : l.length ≤ 1000000000) (hc : ∀ H, FnC Try.prog 52 [opA o] H (.bool (opOk o))) (H : AHeap) :
    FnC Try.prog 35 [.sl b (l.map ndA), opA o] H (.tup [.sl (b && refused l o) ((doL l o).map ndA), unA (doU l o)]) := by
  refine fnC_of Try.func35 rfl (Nat.le_of_ble_eq_true rfl) ?_
  have hch := rchk_c b l
  have hfi := rfind_c b l o.node
  simp only [opA, ndV] at hc hfi ⊢
  cases hs : chk l with
  | false =>
    have hr : refused l o = true := by simp [refused, hs]
    rw [doL, doU, if_pos hr, if_pos hr, hr, Bool.and_true]
    repeat' first | ((first | refine callK_fn (hch _) callOk39F ?_ | refine callP_fn (hch _) callOk39F ?_ | refine callM_fn (fun _ => hch _) callOk39F ?_ | refine callK_fn (hc _) callOk52F ?_ | refine callP_fn (hc _) callOk52F ?_ | refine callM_fn (fun _ => hc _) callOk52F ?_ | refine aw_region_mix (id := 12) [.free, .pure 0, .pure 0, .pure 0, .free, .eff [false, false, false]] mixedF rfl (by kernel_rfl) (by kernel_rfl) ?_ | refine aw_region_mix (id := 19) [.free, .pure 0, .pure 0, .pure 0, .free, .eff [false, false, false]] mixedF rfl (by kernel_rfl) (by kernel_rfl) ?_ | refine callP_false (.bool false) ?_ | refine aw_region rfl ?_ | refine aw_region_draw mixedF rfl (by kernel_rfl) ?_ | refine aw_ret ?_ | refine aw_skip ?_ | refine aw_exit ?_ | refine aw_label ?_); simp only [go_sem, ↓reduceIte, Nat.reduceEqDiff, Nat.reduceAdd, Nat.reduceSub, Nat.reduceMul, Nat.reduceLeDiff, Nat.reduceLT, Nat.reduceBEq, Int.reduceNeg, Int.reduceLE, Int.reduceLT, Int.reduceToNat, String.reduceEq, hs]) | refine aw_seq ?_ | refine aw_block ?_ | refine aw_scope ?_ | (refine aw_cond rfl (fun h => ?_) (fun h => ?_) <;> try (exfalso; first | (simp at h; done) | (simp at h; omega))) | ((with_reducible refine And.intro ?_ ?_); focus (first | omega | (intros; simp_all; done) | (simp; omega)))
    exact done (by simp only [pur_int, pur_bool, pur_str, pur_agg, pur_tup, pur_sl, pur_iface, pur_nilI, List.mem_cons, List.not_mem_nil, false_implies, forall_eq_or_imp, List.mem_map, forall_exists_index, and_imp, forall_apply_eq_imp_iff₂, or_false, forall_eq, implies_true, and_self, and_true, true_and, Go.Gw.stA, Go.Gw.opA, Go.Gw.ndA, Go.Gw.unA, Go.Gw.enA, Go.Gw.inA, Go.Gw.lgF, Go.Gw.lgA]) (.refl _)
  | true =>
    cases ho : opOk o with
    | false =>
      have hr : refused l o = true := by simp [refused, ho]
      rw [doL, doU, if_pos hr, if_pos hr, hr, Bool.and_true]
      repeat' first | ((first | refine callK_fn (hch _) callOk39F ?_ | refine callP_fn (hch _) callOk39F ?_ | refine callM_fn (fun _ => hch _) callOk39F ?_ | refine callK_fn (hc _) callOk52F ?_ | refine callP_fn (hc _) callOk52F ?_ | refine callM_fn (fun _ => hc _) callOk52F ?_ | refine aw_region_mix (id := 12) [.free, .pure 0, .pure 0, .pure 0, .free, .eff [false, false, false]] mixedF rfl (by kernel_rfl) (by kernel_rfl) ?_ | refine aw_region_mix (id := 19) [.free, .pure 0, .pure 0, .pure 0, .free, .eff [false, false, false]] mixedF rfl (by kernel_rfl) (by kernel_rfl) ?_ | refine callP_false (.bool false) ?_ | refine aw_region rfl ?_ | refine aw_region_draw mixedF rfl (by kernel_rfl) ?_ | refine aw_ret ?_ | refine aw_skip ?_ | refine aw_exit ?_ | refine aw_label ?_); simp only [go_sem, ↓reduceIte, Nat.reduceEqDiff, Nat.reduceAdd, Nat.reduceSub, Nat.reduceMul, Nat.reduceLeDiff, Nat.reduceLT, Nat.reduceBEq, Int.reduceNeg, Int.reduceLE, Int.reduceLT, Int.reduceToNat, String.reduceEq, hs, ho]) | refine aw_seq ?_ | refine aw_block ?_ | refine aw_scope ?_ | (refine aw_cond rfl (fun h => ?_) (fun h => ?_) <;> try (exfalso; first | (simp at h; done) | (simp at h; omega))) | ((with_reducible refine And.intro ?_ ?_); focus (first | omega | (intros; simp_all; done) | (simp; omega)))
      exact done (by simp only [pur_int, pur_bool, pur_str, pur_agg, pur_tup, pur_sl, pur_iface, pur_nilI, List.mem_cons, List.not_mem_nil, false_implies, forall_eq_or_imp, List.mem_map, forall_exists_index, and_imp, forall_apply_eq_imp_iff₂, or_false, forall_eq, implies_true, and_self, and_true, true_and, Go.Gw.stA, Go.Gw.opA, Go.Gw.ndA, Go.Gw.unA, Go.Gw.enA, Go.Gw.inA, Go.Gw.lgF, Go.Gw.lgA]) (.refl _)
    | true =>
      have hlo := rloops_c b l o hs (by omega)
      have hwi := fun n => rwith_c b l n hl
      have hkind : o.kind = 1 ∨ o.kind = 2 := by
        simp only [opOk, Bool.and_eq_true, Bool.or_eq_true, decide_eq_true_eq] at ho
        exact ho.1.1.1
      have hfe : findI l o.node = fnd l o.node := by rw [findI, if_pos hs]
      rw [hfe] at hfi
      simp only [opA] at hlo
      rcases hkind with hk | hk
      · have hk2 : decide (o.kind = 2) = false := decide_eq_false (by omega)
        cases hlp : loopsI l o with
        | true =>
          have hr : refused l o = true := by simp [refused, hk, hlp]
          rw [doL, doU, if_pos hr, if_pos hr, hr, Bool.and_true]
          rw [hlp] at hlo
          cases hf : fnd l o.node with
          | none =>
            rw [hf] at hfi
            simp only [Option.getD_none, Option.isSome_none, ndA, nd0, st0] at hfi
            repeat' first | ((first | refine callK_fn (hch _) callOk39F ?_ | refine callP_fn (hch _) callOk39F ?_ | refine callM_fn (fun _ => hch _) callOk39F ?_ | refine callK_fn (hc _) callOk52F ?_ | refine callP_fn (hc _) callOk52F ?_ | refine callM_fn (fun _ => hc _) callOk52F ?_ | refine callK_fn (hfi _) callOk37F ?_ | refine callP_fn (hfi _) callOk37F ?_ | refine callM_fn (fun _ => hfi _) callOk37F ?_ | refine callK_fn (hlo _) callOk68F ?_ | refine callP_fn (hlo _) callOk68F ?_ | refine callM_fn (fun _ => hlo _) callOk68F ?_ | refine aw_region_mix (id := 12) [.free, .pure 0, .pure 0, .pure 0, .free, .eff [false, false, false]] mixedF rfl (by kernel_rfl) (by kernel_rfl) ?_ | refine aw_region_mix (id := 19) [.free, .pure 0, .pure 0, .pure 0, .free, .eff [false, false, false]] mixedF rfl (by kernel_rfl) (by kernel_rfl) ?_ | refine callP_false (.bool false) ?_ | refine aw_region rfl ?_ | refine aw_region_draw mixedF rfl (by kernel_rfl) ?_ | refine aw_ret ?_ | refine aw_skip ?_ | refine aw_exit ?_ | refine aw_label ?_); simp only [go_sem, ↓reduceIte, Nat.reduceEqDiff, Nat.reduceAdd, Nat.reduceSub, Nat.reduceMul, Nat.reduceLeDiff, Nat.reduceLT, Nat.reduceBEq, Int.reduceNeg, Int.reduceLE, Int.reduceLT, Int.reduceToNat, String.reduceEq, hs, ho, hk2]) | refine aw_seq ?_ | refine aw_block ?_ | refine aw_scope ?_ | (refine aw_cond rfl (fun h => ?_) (fun h => ?_) <;> try (exfalso; first | (simp at h; done) | (simp at h; omega))) | ((with_reducible refine And.intro ?_ ?_); focus (first | omega | (intros; simp_all; done) | (simp; omega)))
            exact done (by simp only [pur_int, pur_bool, pur_str, pur_agg, pur_tup, pur_sl, pur_iface, pur_nilI, List.mem_cons, List.not_mem_nil, false_implies, forall_eq_or_imp, List.mem_map, forall_exists_index, and_imp, forall_apply_eq_imp_iff₂, or_false, forall_eq, implies_true, and_self, and_true, true_and, Go.Gw.stA, Go.Gw.opA, Go.Gw.ndA, Go.Gw.unA, Go.Gw.enA, Go.Gw.inA, Go.Gw.lgF, Go.Gw.lgA]) (.refl _)
          | some m =>
            rw [hf] at hfi
            simp only [Option.getD_some, Option.isSome_some, ndA] at hfi
            repeat' first | ((first | refine callK_fn (hch _) callOk39F ?_ | refine callP_fn (hch _) callOk39F ?_ | refine callM_fn (fun _ => hch _) callOk39F ?_ | refine callK_fn (hc _) callOk52F ?_ | refine callP_fn (hc _) callOk52F ?_ | refine callM_fn (fun _ => hc _) callOk52F ?_ | refine callK_fn (hfi _) callOk37F ?_ | refine callP_fn (hfi _) callOk37F ?_ | refine callM_fn (fun _ => hfi _) callOk37F ?_ | refine callK_fn (hlo _) callOk68F ?_ | refine callP_fn (hlo _) callOk68F ?_ | refine callM_fn (fun _ => hlo _) callOk68F ?_ | refine aw_region_mix (id := 12) [.free, .pure 0, .pure 0, .pure 0, .free, .eff [false, false, false]] mixedF rfl (by kernel_rfl) (by kernel_rfl) ?_ | refine aw_region_mix (id := 19) [.free, .pure 0, .pure 0, .pure 0, .free, .eff [false, false, false]] mixedF rfl (by kernel_rfl) (by kernel_rfl) ?_ | refine callP_false (.bool false) ?_ | refine aw_region rfl ?_ | refine aw_region_draw mixedF rfl (by kernel_rfl) ?_ | refine aw_ret ?_ | refine aw_skip ?_ | refine aw_exit ?_ | refine aw_label ?_); simp only [go_sem, ↓reduceIte, Nat.reduceEqDiff, Nat.reduceAdd, Nat.reduceSub, Nat.reduceMul, Nat.reduceLeDiff, Nat.reduceLT, Nat.reduceBEq, Int.reduceNeg, Int.reduceLE, Int.reduceLT, Int.reduceToNat, String.reduceEq, hs, ho, hk2]) | refine aw_seq ?_ | refine aw_block ?_ | refine aw_scope ?_ | (refine aw_cond rfl (fun h => ?_) (fun h => ?_) <;> try (exfalso; first | (simp at h; done) | (simp at h; omega))) | ((with_reducible refine And.intro ?_ ?_); focus (first | omega | (intros; simp_all; done) | (simp; omega)))
            exact done (by simp only [pur_int, pur_bool, pur_str, pur_agg, pur_tup, pur_sl, pur_iface, pur_nilI, List.mem_cons, List.not_mem_nil, false_implies, forall_eq_or_imp, List.mem_map, forall_exists_index, and_imp, forall_apply_eq_imp_iff₂, or_false, forall_eq, implies_true, and_self, and_true, true_and, Go.Gw.stA, Go.Gw.opA, Go.Gw.ndA, Go.Gw.unA, Go.Gw.enA, Go.Gw.inA, Go.Gw.lgF, Go.Gw.lgA]) (.refl _)
        | false =>
          have hr : refused l o = false := by simp [refused, hs, ho, hlp]
          have hn : (nodeNew l o).id = o.node := nodeNew_id l o
          have hw := hwi (nodeNew l o)
          rw [rWith_eq hs, hn] at hw
          rw [doL, doU, if_neg (by rw [hr]; decide), if_neg (by rw [hr]; decide), hr, Bool.and_false]
          rw [hlp] at hlo
          rw [nodeNew, if_pos hk, nodeWas] at hw ⊢
          generalize layN l (pos l o.node) (upto l o.node) = lay at hw ⊢
          cases hf : fnd l o.node with
          | none =>
            have hh : had l o.node = false := by rw [had, hf]; rfl
            rw [hf] at hfi hw
            simp only [Option.getD_none, Option.isSome_none, ndA, nd0, st0] at hfi hw
            repeat' first | ((first | refine callK_fn (hch _) callOk39F ?_ | refine callP_fn (hch _) callOk39F ?_ | refine callM_fn (fun _ => hch _) callOk39F ?_ | refine callK_fn (hc _) callOk52F ?_ | refine callP_fn (hc _) callOk52F ?_ | refine callM_fn (fun _ => hc _) callOk52F ?_ | refine callK_fn (hfi _) callOk37F ?_ | refine callP_fn (hfi _) callOk37F ?_ | refine callM_fn (fun _ => hfi _) callOk37F ?_ | refine callK_fn (hlo _) callOk68F ?_ | refine callP_fn (hlo _) callOk68F ?_ | refine callM_fn (fun _ => hlo _) callOk68F ?_ | refine callK_fn (hw _) callOk67F ?_ | refine callP_fn (hw _) callOk67F ?_ | refine callM_fn (fun _ => hw _) callOk67F ?_ | refine aw_region_mix (id := 12) [.free, .pure 0, .pure 0, .pure 0, .free, .eff [false, false, false]] mixedF rfl (by kernel_rfl) (by kernel_rfl) ?_ | refine aw_region_mix (id := 19) [.free, .pure 0, .pure 0, .pure 0, .free, .eff [false, false, false]] mixedF rfl (by kernel_rfl) (by kernel_rfl) ?_ | refine callP_false (.bool false) ?_ | refine aw_region rfl ?_ | refine aw_region_draw mixedF rfl (by kernel_rfl) ?_ | refine aw_ret ?_ | refine aw_skip ?_ | refine aw_exit ?_ | refine aw_label ?_); simp only [go_sem, ↓reduceIte, Nat.reduceEqDiff, Nat.reduceAdd, Nat.reduceSub, Nat.reduceMul, Nat.reduceLeDiff, Nat.reduceLT, Nat.reduceBEq, Int.reduceNeg, Int.reduceLE, Int.reduceLT, Int.reduceToNat, String.reduceEq, hs, ho, hk2]) | ((with_reducible refine And.intro ?_ ?_); focus (exact callAt_of (hw _) callOk67F)) | ((with_reducible refine And.intro (And.intro ?_ ?_) ?_); focus (exact callAt_of (hw _) callOk67F)) | (exact callAt_of (hw _) callOk67F) | refine aw_seq ?_ | refine aw_block ?_ | refine aw_scope ?_ | (refine aw_cond rfl (fun h => ?_) (fun h => ?_) <;> try (exfalso; first | (simp at h; done) | (simp at h; omega))) | ((with_reducible refine And.intro ?_ ?_); focus (first | omega | (intros; simp_all; done) | (simp; omega)))
            rw [hh]
            exact done (by simp only [pur_int, pur_bool, pur_str, pur_agg, pur_tup, pur_sl, pur_iface, pur_nilI, List.mem_cons, List.not_mem_nil, false_implies, forall_eq_or_imp, List.mem_map, forall_exists_index, and_imp, forall_apply_eq_imp_iff₂, or_false, forall_eq, implies_true, and_self, and_true, true_and, Go.Gw.stA, Go.Gw.opA, Go.Gw.ndA, Go.Gw.unA, Go.Gw.enA, Go.Gw.inA, Go.Gw.lgF, Go.Gw.lgA]) (.refl _)
          | some m =>
            have hh : had l o.node = true := by rw [had, hf]; rfl
            rw [hf] at hfi hw
            simp only [Option.getD_some, Option.isSome_some, ndA] at hfi hw
            repeat' first | ((first | refine callK_fn (hch _) callOk39F ?_ | refine callP_fn (hch _) callOk39F ?_ | refine callM_fn (fun _ => hch _) callOk39F ?_ | refine callK_fn (hc _) callOk52F ?_ | refine callP_fn (hc _) callOk52F ?_ | refine callM_fn (fun _ => hc _) callOk52F ?_ | refine callK_fn (hfi _) callOk37F ?_ | refine callP_fn (hfi _) callOk37F ?_ | refine callM_fn (fun _ => hfi _) callOk37F ?_ | refine callK_fn (hlo _) callOk68F ?_ | refine callP_fn (hlo _) callOk68F ?_ | refine callM_fn (fun _ => hlo _) callOk68F ?_ | refine callK_fn (hw _) callOk67F ?_ | refine callP_fn (hw _) callOk67F ?_ | refine callM_fn (fun _ => hw _) callOk67F ?_ | refine aw_region_mix (id := 12) [.free, .pure 0, .pure 0, .pure 0, .free, .eff [false, false, false]] mixedF rfl (by kernel_rfl) (by kernel_rfl) ?_ | refine aw_region_mix (id := 19) [.free, .pure 0, .pure 0, .pure 0, .free, .eff [false, false, false]] mixedF rfl (by kernel_rfl) (by kernel_rfl) ?_ | refine callP_false (.bool false) ?_ | refine aw_region rfl ?_ | refine aw_region_draw mixedF rfl (by kernel_rfl) ?_ | refine aw_ret ?_ | refine aw_skip ?_ | refine aw_exit ?_ | refine aw_label ?_); simp only [go_sem, ↓reduceIte, Nat.reduceEqDiff, Nat.reduceAdd, Nat.reduceSub, Nat.reduceMul, Nat.reduceLeDiff, Nat.reduceLT, Nat.reduceBEq, Int.reduceNeg, Int.reduceLE, Int.reduceLT, Int.reduceToNat, String.reduceEq, hs, ho, hk2]) | ((with_reducible refine And.intro ?_ ?_); focus (exact callAt_of (hw _) callOk67F)) | ((with_reducible refine And.intro (And.intro ?_ ?_) ?_); focus (exact callAt_of (hw _) callOk67F)) | (exact callAt_of (hw _) callOk67F) | refine aw_seq ?_ | refine aw_block ?_ | refine aw_scope ?_ | (refine aw_cond rfl (fun h => ?_) (fun h => ?_) <;> try (exfalso; first | (simp at h; done) | (simp at h; omega))) | ((with_reducible refine And.intro ?_ ?_); focus (first | omega | (intros; simp_all; done) | (simp; omega)))
            rw [hh]
            exact done (by simp only [pur_int, pur_bool, pur_str, pur_agg, pur_tup, pur_sl, pur_iface, pur_nilI, List.mem_cons, List.not_mem_nil, false_implies, forall_eq_or_imp, List.mem_map, forall_exists_index, and_imp, forall_apply_eq_imp_iff₂, or_false, forall_eq, implies_true, and_self, and_true, true_and, Go.Gw.stA, Go.Gw.opA, Go.Gw.ndA, Go.Gw.unA, Go.Gw.enA, Go.Gw.inA, Go.Gw.lgF, Go.Gw.lgA]) (.refl _)
      · have hk2 : decide (o.kind = 2) = true := decide_eq_true hk
        have hk1 : ¬ o.kind = 1 := by omega
        have hr : refused l o = false := by simp [refused, hs, ho, hk1]
        have hn : (nodeNew l o).id = o.node := nodeNew_id l o
        have hw := hwi (nodeNew l o)
        rw [rWith_eq hs, hn] at hw
        rw [doL, doU, if_neg (by rw [hr]; decide), if_neg (by rw [hr]; decide), hr, Bool.and_false]
        rw [nodeNew, if_neg hk1, nodeWas] at hw ⊢
        generalize layN l (pos l o.node) (upto l o.node) = lay at hw ⊢
        cases hf : fnd l o.node with
        | none =>
          have hh : had l o.node = false := by rw [had, hf]; rfl
          rw [hf] at hfi hw
          simp only [Option.getD_none, Option.isSome_none, ndA, nd0, st0] at hfi hw
          repeat' first | ((first | refine callK_fn (hch _) callOk39F ?_ | refine callP_fn (hch _) callOk39F ?_ | refine callM_fn (fun _ => hch _) callOk39F ?_ | refine callK_fn (hc _) callOk52F ?_ | refine callP_fn (hc _) callOk52F ?_ | refine callM_fn (fun _ => hc _) callOk52F ?_ | refine callK_fn (hfi _) callOk37F ?_ | refine callP_fn (hfi _) callOk37F ?_ | refine callM_fn (fun _ => hfi _) callOk37F ?_ | refine callK_fn (hw _) callOk67F ?_ | refine callP_fn (hw _) callOk67F ?_ | refine callM_fn (fun _ => hw _) callOk67F ?_ | refine aw_region_mix (id := 12) [.free, .pure 0, .pure 0, .pure 0, .free, .eff [false, false, false]] mixedF rfl (by kernel_rfl) (by kernel_rfl) ?_ | refine aw_region_mix (id := 19) [.free, .pure 0, .pure 0, .pure 0, .free, .eff [false, false, false]] mixedF rfl (by kernel_rfl) (by kernel_rfl) ?_ | refine callP_false (.bool false) ?_ | refine aw_region rfl ?_ | refine aw_region_draw mixedF rfl (by kernel_rfl) ?_ | refine aw_ret ?_ | refine aw_skip ?_ | refine aw_exit ?_ | refine aw_label ?_); simp only [go_sem, ↓reduceIte, Nat.reduceEqDiff, Nat.reduceAdd, Nat.reduceSub, Nat.reduceMul, Nat.reduceLeDiff, Nat.reduceLT, Nat.reduceBEq, Int.reduceNeg, Int.reduceLE, Int.reduceLT, Int.reduceToNat, String.reduceEq, hs, ho, hk2]) | ((with_reducible refine And.intro ?_ ?_); focus (exact callAt_of (hw _) callOk67F)) | ((with_reducible refine And.intro (And.intro ?_ ?_) ?_); focus (exact callAt_of (hw _) callOk67F)) | (exact callAt_of (hw _) callOk67F) | refine aw_seq ?_ | refine aw_block ?_ | refine aw_scope ?_ | (refine aw_cond rfl (fun h => ?_) (fun h => ?_) <;> try (exfalso; first | (simp at h; done) | (simp at h; omega))) | ((with_reducible refine And.intro ?_ ?_); focus (first | omega | (intros; simp_all; done) | (simp; omega)))
          rw [hh]
          exact done (by simp only [pur_int, pur_bool, pur_str, pur_agg, pur_tup, pur_sl, pur_iface, pur_nilI, List.mem_cons, List.not_mem_nil, false_implies, forall_eq_or_imp, List.mem_map, forall_exists_index, and_imp, forall_apply_eq_imp_iff₂, or_false, forall_eq, implies_true, and_self, and_true, true_and, Go.Gw.stA, Go.Gw.opA, Go.Gw.ndA, Go.Gw.unA, Go.Gw.enA, Go.Gw.inA, Go.Gw.lgF, Go.Gw.lgA]) (.refl _)
        | some m =>
          have hh : had l o.node = true := by rw [had, hf]; rfl
          rw [hf] at hfi hw
          simp only [Option.getD_some, Option.isSome_some, ndA] at hfi hw
          repeat' first | ((first | refine callK_fn (hch _) callOk39F ?_ | refine callP_fn (hch _) callOk39F ?_ | refine callM_fn (fun _ => hch _) callOk39F ?_ | refine callK_fn (hc _) callOk52F ?_ | refine callP_fn (hc _) callOk52F ?_ | refine callM_fn (fun _ => hc _) callOk52F ?_ | refine callK_fn (hfi _) callOk37F ?_ | refine callP_fn (hfi _) callOk37F ?_ | refine callM_fn (fun _ => hfi _) callOk37F ?_ | refine callK_fn (hw _) callOk67F ?_ | refine callP_fn (hw _) callOk67F ?_ | refine callM_fn (fun _ => hw _) callOk67F ?_ | refine aw_region_mix (id := 12) [.free, .pure 0, .pure 0, .pure 0, .free, .eff [false, false, false]] mixedF rfl (by kernel_rfl) (by kernel_rfl) ?_ | refine aw_region_mix (id := 19) [.free, .pure 0, .pure 0, .pure 0, .free, .eff [false, false, false]] mixedF rfl (by kernel_rfl) (by kernel_rfl) ?_ | refine callP_false (.bool false) ?_ | refine aw_region rfl ?_ | refine aw_region_draw mixedF rfl (by kernel_rfl) ?_ | refine aw_ret ?_ | refine aw_skip ?_ | refine aw_exit ?_ | refine aw_label ?_); simp only [go_sem, ↓reduceIte, Nat.reduceEqDiff, Nat.reduceAdd, Nat.reduceSub, Nat.reduceMul, Nat.reduceLeDiff, Nat.reduceLT, Nat.reduceBEq, Int.reduceNeg, Int.reduceLE, Int.reduceLT, Int.reduceToNat, String.reduceEq, hs, ho, hk2]) | ((with_reducible refine And.intro ?_ ?_); focus (exact callAt_of (hw _) callOk67F)) | ((with_reducible refine And.intro (And.intro ?_ ?_) ?_); focus (exact callAt_of (hw _) callOk67F)) | (exact callAt_of (hw _) callOk67F) | refine aw_seq ?_ | refine aw_block ?_ | refine aw_scope ?_ | (refine aw_cond rfl (fun h => ?_) (fun h => ?_) <;> try (exfalso; first | (simp at h; done) | (simp at h; omega))) | ((with_reducible refine And.intro ?_ ?_); focus (first | omega | (intros; simp_all; done) | (simp; omega)))
          rw [hh]
          exact done (by simp only [pur_int, pur_bool, pur_str, pur_agg, pur_tup, pur_sl, pur_iface, pur_nilI, List.mem_cons, List.not_mem_nil, false_implies, forall_eq_or_imp, List.mem_map, forall_exists_index, and_imp, forall_apply_eq_imp_iff₂, or_false, forall_eq, implies_true, and_self, and_true, true_and, Go.Gw.stA, Go.Gw.opA, Go.Gw.ndA, Go.Gw.unA, Go.Gw.enA, Go.Gw.inA, Go.Gw.lgF, Go.Gw.lgA]) (.refl _)
end Go.Proofs.Ytoffonjlfomnbaa

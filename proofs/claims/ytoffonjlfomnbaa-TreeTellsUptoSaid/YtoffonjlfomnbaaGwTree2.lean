/- What the functions of the tree answer: above, lay, same. No condition. -/
import Derived.Test.YtoffonjlfomnbaaGwTree1
namespace Go.Proofs.Ytoffonjlfomnbaa
open Go Go.Aw Go.Gw
set_option linter.unusedSimpArgs false
set_option maxRecDepth 20000

theorem idxInt_c (b : Bool) (l : List Int) (v : Int) (H : AHeap) :
    FnC Try.prog 86 [.sl b (l.map inA), .int .i64 v] H (.int .i64 (idxI (fun x => decide (v = x)) l)) := by
  refine fnC_ok2 fun hok _ => ?_
  have hl := ok_sl hok
  rw [List.length_map] at hl
  refine fnC_of Try.func86 rfl (Nat.le_of_ble_eq_true rfl) ?_
  repeat' first | ((first | refine callP_false (.bool false) ?_ | refine aw_region rfl ?_ | refine aw_region_draw mixedF rfl (by kernel_rfl) ?_ | refine aw_ret ?_ | refine aw_skip ?_ | refine aw_exit ?_ | refine aw_label ?_); simp only [go_sem, ↓reduceIte, Nat.reduceEqDiff, Nat.reduceAdd, Nat.reduceSub, Nat.reduceMul, Nat.reduceLeDiff, Nat.reduceLT, Nat.reduceBEq, Int.reduceNeg, Int.reduceLE, Int.reduceLT, Int.reduceToNat, String.reduceEq]) | refine aw_seq ?_ | refine aw_block ?_ | refine aw_scope ?_ | (refine aw_cond rfl (fun h => ?_) (fun h => ?_) <;> try (exfalso; first | (simp at h; done) | (simp at h; omega))) | ((with_reducible refine And.intro ?_ ?_); focus (first | omega | (intros; simp_all; done) | (simp; omega)))
  refine aw_loopS (ι := Nat) (fun i => [(0, .sl b (l.map inA)), (1, .int .i64 v), (7, .int .i64 l.length), (8, .int .i64 i)]) (fun _ => H) (fun i => i ≤ l.length ∧ ∀ k (hk : k < i) (hk2 : k < l.length), decide (v = l[k]) = false) (fun i => l.length - i) 0 ⟨Nat.zero_le _, fun k hk => by omega⟩ ?_ rfl ?_
  · simp [go_sem]
  · rintro i ⟨hi, hno⟩
    by_cases hlt : i < l.length
    · have hp := getD_map inA hlt
      repeat' first | ((first | refine callP_false (.bool false) ?_ | refine aw_region rfl ?_ | refine aw_region_draw mixedF rfl (by kernel_rfl) ?_ | refine aw_ret ?_ | refine aw_skip ?_ | refine aw_exit ?_ | refine aw_label ?_); simp only [go_sem, ↓reduceIte, Nat.reduceEqDiff, Nat.reduceAdd, Nat.reduceSub, Nat.reduceMul, Nat.reduceLeDiff, Nat.reduceLT, Nat.reduceBEq, Int.reduceNeg, Int.reduceLE, Int.reduceLT, Int.reduceToNat, String.reduceEq, hp, inA]) | refine aw_seq ?_ | refine aw_block ?_ | refine aw_scope ?_ | (refine aw_cond rfl (fun h => ?_) (fun h => ?_) <;> try (exfalso; first | (simp at h; done) | (simp at h; omega))) | ((with_reducible refine And.intro ?_ ?_); focus (first | omega | (intros; simp_all; done) | (simp; omega)))
      · exact done0 (by simp only [pur_int, pur_bool, pur_str, pur_agg, pur_tup, pur_sl, pur_iface, pur_nilI, List.mem_cons, List.not_mem_nil, false_implies, forall_eq_or_imp, List.mem_map, forall_exists_index, and_imp, forall_apply_eq_imp_iff₂, or_false, forall_eq, implies_true, and_self, and_true, true_and, Go.Gw.stA, Go.Gw.opA, Go.Gw.ndA, Go.Gw.unA, Go.Gw.enA, Go.Gw.inA, Go.Gw.lgF, Go.Gw.lgA]) (.of (by rw [idxI_at (fun x => decide (v = x)) l i hlt (fun k hk => hno k hk (by omega)) h]))
      · refine ⟨i + 1, ⟨hlt, fun k hk hk2 => ?_⟩, by omega, by rw [wrap_i64 (by omega) (by omega)]; rfl⟩
        by_cases e : k = i
        · subst e; simpa using h
        · simpa using hno k (by omega) hk2
    · have hi' : i = l.length := by omega
      repeat' first | ((first | refine callP_false (.bool false) ?_ | refine aw_region rfl ?_ | refine aw_region_draw mixedF rfl (by kernel_rfl) ?_ | refine aw_ret ?_ | refine aw_skip ?_ | refine aw_exit ?_ | refine aw_label ?_); simp only [go_sem, ↓reduceIte, Nat.reduceEqDiff, Nat.reduceAdd, Nat.reduceSub, Nat.reduceMul, Nat.reduceLeDiff, Nat.reduceLT, Nat.reduceBEq, Int.reduceNeg, Int.reduceLE, Int.reduceLT, Int.reduceToNat, String.reduceEq]) | refine aw_seq ?_ | refine aw_block ?_ | refine aw_scope ?_ | (refine aw_cond rfl (fun h => ?_) (fun h => ?_) <;> try (exfalso; first | (simp at h; done) | (simp at h; omega))) | ((with_reducible refine And.intro ?_ ?_); focus (first | omega | (intros; simp_all; done) | (simp; omega)))
      subst hi'
      exact done0 (by simp only [pur_int, pur_bool, pur_str, pur_agg, pur_tup, pur_sl, pur_iface, pur_nilI, List.mem_cons, List.not_mem_nil, false_implies, forall_eq_or_imp, List.mem_map, forall_exists_index, and_imp, forall_apply_eq_imp_iff₂, or_false, forall_eq, implies_true, and_self, and_true, true_and, Go.Gw.stA, Go.Gw.opA, Go.Gw.ndA, Go.Gw.unA, Go.Gw.enA, Go.Gw.inA, Go.Gw.lgF, Go.Gw.lgA]) (.of (by rw [idxI_no (fun x => decide (v = x)) l fun k hk => hno k hk hk]))

theorem hasInt_c (b : Bool) (l : List Int) (v : Int) (H : AHeap) :
    FnC Try.prog 63 [.sl b (l.map inA), .int .i64 v] H (.bool (l.any fun x => decide (x = v))) := by
  refine fnC_of Try.func63 rfl (Nat.le_of_ble_eq_true rfl) ?_
  repeat' first | ((first | refine callK_fn (idxInt_c _ _ _ _) callOk86F ?_ | refine callP_fn (idxInt_c _ _ _ _) callOk86F ?_ | refine callM_fn (fun _ => idxInt_c _ _ _ _) callOk86F ?_ | refine callP_false (.bool false) ?_ | refine aw_region rfl ?_ | refine aw_region_draw mixedF rfl (by kernel_rfl) ?_ | refine aw_ret ?_ | refine aw_skip ?_ | refine aw_exit ?_ | refine aw_label ?_); simp only [go_sem, ↓reduceIte, Nat.reduceEqDiff, Nat.reduceAdd, Nat.reduceSub, Nat.reduceMul, Nat.reduceLeDiff, Nat.reduceLT, Nat.reduceBEq, Int.reduceNeg, Int.reduceLE, Int.reduceLT, Int.reduceToNat, String.reduceEq]) | refine aw_seq ?_ | refine aw_block ?_ | refine aw_scope ?_ | (refine aw_cond rfl (fun h => ?_) (fun h => ?_) <;> try (exfalso; first | (simp at h; done) | (simp at h; omega))) | ((with_reducible refine And.intro ?_ ?_); focus (first | omega | (intros; simp_all; done) | (simp; omega)))
  refine done0 (by simp only [pur_int, pur_bool, pur_str, pur_agg, pur_tup, pur_sl, pur_iface, pur_nilI, List.mem_cons, List.not_mem_nil, false_implies, forall_eq_or_imp, List.mem_map, forall_exists_index, and_imp, forall_apply_eq_imp_iff₂, or_false, forall_eq, implies_true, and_self, and_true, true_and, Go.Gw.stA, Go.Gw.opA, Go.Gw.ndA, Go.Gw.unA, Go.Gw.enA, Go.Gw.inA, Go.Gw.lgF, Go.Gw.lgA]) (.of ?_)
  rw [idxI_any]
  congr 2
  funext x
  exact decide_eq_decide.2 ⟨Eq.symm, Eq.symm⟩

theorem flat_in (l : List Int) : (l.map inA).flatMap AV.cells = l.map inA := by
  induction l with
  | nil => rfl
  | cons x l ih => rw [List.map_cons, List.flatMap_cons, ih]; rfl
theorem cells_in (l : List Int) : ∀ e ∈ l.map inA, e.cells.length = 1 := fun e he => by
  obtain ⟨x, _, rfl⟩ := List.mem_map.1 he; rfl

theorem above_c (b : Bool) (l : List Nd) (id : Int) (hs : chk l = true) (hl : l.length ≤ 1073741824) (H : AHeap) : FnC Try.prog 64 [.sl b (l.map ndA), .int .i64 id] H (.sl false ((aboveI l id).map inA)) := by
  refine fnC_of Try.func64 rfl (Nat.le_of_ble_eq_true rfl) ?_
  have hpl := fun id => place_c b l id hs
  repeat' first | ((first | refine callP_false (.bool false) ?_ | refine aw_region rfl ?_ | refine aw_region_draw mixedF rfl (by kernel_rfl) ?_ | refine aw_ret ?_ | refine aw_skip ?_ | refine aw_exit ?_ | refine aw_label ?_); simp only [go_sem, ↓reduceIte, Nat.reduceEqDiff, Nat.reduceAdd, Nat.reduceSub, Nat.reduceMul, Nat.reduceLeDiff, Nat.reduceLT, Nat.reduceBEq, Int.reduceNeg, Int.reduceLE, Int.reduceLT, Int.reduceToNat, String.reduceEq]) | refine aw_seq ?_ | refine aw_block ?_ | refine aw_scope ?_ | (refine aw_cond rfl (fun h => ?_) (fun h => ?_) <;> try (exfalso; first | (simp at h; done) | (simp at h; omega))) | ((with_reducible refine And.intro ?_ ?_); focus (first | omega | (intros; simp_all; done) | (simp; omega)))
  refine aw_void 5 1 (by simp only [go_sem, ↓reduceIte, Nat.reduceEqDiff, Nat.reduceAdd, Nat.reduceSub, Nat.reduceMul, Nat.reduceLeDiff, Nat.reduceLT, Nat.reduceBEq, Int.reduceNeg, Int.reduceLE, Int.reduceLT, Int.reduceToNat, String.reduceEq]) ?_
  refine aw_loopS (ι := List Int × Int) (fun x => [(0, .sl b (l.map ndA)), (1, .int .i64 x.2), (5, .osl 1 H.length (x.1.length + 1) 0 x.1.length x.1.length)]) (fun x => H ++ [.cells (x.1.length + 1) (x.1.map inA)])
    (fun x => x.1.length ≤ l.length ∧ x.1 ++ aboveN l (l.length - x.1.length) x.2 = aboveI l id) (fun x => l.length - x.1.length) ([], id) ⟨Nat.zero_le _, rfl⟩ ?_ rfl ?_
  · simp [go_sem]
  · rintro ⟨acc, id'⟩ ⟨hn, he⟩
    simp only at hn he ⊢
    by_cases hlt : acc.length < l.length
    · obtain ⟨m, hm⟩ : ∃ m, l.length - acc.length = m + 1 := ⟨l.length - acc.length - 1, by omega⟩
      rw [hm, aboveN] at he
      cases hh : had l id' with
      | false =>
        rw [fnd_no hh] at he
        repeat' first | ((first | refine callK_fn (hpl _ _) callOk65F ?_ | refine callP_fn (hpl _ _) callOk65F ?_ | refine callM_fn (fun _ => hpl _ _) callOk65F ?_ | refine callP_false (.bool false) ?_ | refine aw_region rfl ?_ | refine aw_region_draw mixedF rfl (by kernel_rfl) ?_ | refine aw_ret ?_ | refine aw_skip ?_ | refine aw_exit ?_ | refine aw_label ?_); simp only [go_sem, ↓reduceIte, Nat.reduceEqDiff, Nat.reduceAdd, Nat.reduceSub, Nat.reduceMul, Nat.reduceLeDiff, Nat.reduceLT, Nat.reduceBEq, Int.reduceNeg, Int.reduceLE, Int.reduceLT, Int.reduceToNat, String.reduceEq, hh]) | refine aw_seq ?_ | refine aw_block ?_ | refine aw_scope ?_ | (refine aw_cond rfl (fun h => ?_) (fun h => ?_) <;> try (exfalso; first | (simp at h; done) | (simp at h; omega))) | ((with_reducible refine And.intro ?_ ?_); focus (first | omega | (intros; simp_all; done) | (simp; omega)))
        exact doneOsl (cs := acc.map inA) (es := acc.map inA) (rest := []) (Nat.le_refl _) (by simp only [go_sem, ↓reduceIte, Nat.reduceEqDiff, Nat.reduceAdd, Nat.reduceSub, Nat.reduceMul, Nat.reduceLeDiff, Nat.reduceLT, Nat.reduceBEq, Int.reduceNeg, Int.reduceLE, Int.reduceLT, Int.reduceToNat, String.reduceEq]) (by rw [flat_in, List.append_nil]) (by simp) (cells_in acc) (fun e he => by obtain ⟨c, _, rfl⟩ := List.mem_map.1 he; exact .int _ _) (by rw [← he]; simp)
      | true =>
        have hlp := had_lt hs hh
        have hp := getD_map ndA hlp
        rw [fnd_had hs hh] at he
        simp only at he
        repeat' first | ((first | refine callK_fn (hpl _ _) callOk65F ?_ | refine callP_fn (hpl _ _) callOk65F ?_ | refine callM_fn (fun _ => hpl _ _) callOk65F ?_ | refine callP_false (.bool false) ?_ | refine aw_region rfl ?_ | refine aw_region_draw mixedF rfl (by kernel_rfl) ?_ | refine aw_ret ?_ | refine aw_skip ?_ | refine aw_exit ?_ | refine aw_label ?_); simp only [go_sem, ↓reduceIte, Nat.reduceEqDiff, Nat.reduceAdd, Nat.reduceSub, Nat.reduceMul, Nat.reduceLeDiff, Nat.reduceLT, Nat.reduceBEq, Int.reduceNeg, Int.reduceLE, Int.reduceLT, Int.reduceToNat, String.reduceEq, hh, hp, ndA]) | refine aw_seq ?_ | refine aw_block ?_ | refine aw_scope ?_ | (refine aw_cond rfl (fun h => ?_) (fun h => ?_) <;> try (exfalso; first | (simp at h; done) | (simp at h; omega))) | ((with_reducible refine And.intro ?_ ?_); focus (first | omega | (intros; simp_all; done) | (simp; omega)))
        · rw [if_pos (of_decide_eq_true h)] at he
          exact doneOsl (cs := acc.map inA) (es := acc.map inA) (rest := []) (Nat.le_refl _) (by simp only [go_sem, ↓reduceIte, Nat.reduceEqDiff, Nat.reduceAdd, Nat.reduceSub, Nat.reduceMul, Nat.reduceLeDiff, Nat.reduceLT, Nat.reduceBEq, Int.reduceNeg, Int.reduceLE, Int.reduceLT, Int.reduceToNat, String.reduceEq]) (by rw [flat_in, List.append_nil]) (by simp) (cells_in acc) (fun e he => by obtain ⟨c, _, rfl⟩ := List.mem_map.1 he; exact .int _ _) (by rw [← he]; simp)
        · rw [if_neg (of_decide_eq_false h)] at he
          exact ⟨⟨by omega, fun e he => by rw [he]; rfl, by omega⟩, (acc ++ [l[pos l id'].parent], l[pos l id'].parent), ⟨by simp; omega, by rw [← he]; simp [show l.length - (acc.length + 1) = m by omega]⟩, by simp; omega, ⟨rfl, by simp⟩, by simp [inA]⟩
    · repeat' first | ((first | refine callP_false (.bool false) ?_ | refine aw_region rfl ?_ | refine aw_region_draw mixedF rfl (by kernel_rfl) ?_ | refine aw_ret ?_ | refine aw_skip ?_ | refine aw_exit ?_ | refine aw_label ?_); simp only [go_sem, ↓reduceIte, Nat.reduceEqDiff, Nat.reduceAdd, Nat.reduceSub, Nat.reduceMul, Nat.reduceLeDiff, Nat.reduceLT, Nat.reduceBEq, Int.reduceNeg, Int.reduceLE, Int.reduceLT, Int.reduceToNat, String.reduceEq, hlt]) | refine aw_seq ?_ | refine aw_block ?_ | refine aw_scope ?_ | (refine aw_cond rfl (fun h => ?_) (fun h => ?_) <;> try (exfalso; first | (simp at h; done) | (simp at h; omega))) | ((with_reducible refine And.intro ?_ ?_); focus (first | omega | (intros; simp_all; done) | (simp; omega)))
      have he2 : l.length - acc.length = 0 := by omega
      rw [he2] at he
      exact doneOsl (cs := acc.map inA) (es := acc.map inA) (rest := []) (Nat.le_refl _) (by simp only [go_sem, ↓reduceIte, Nat.reduceEqDiff, Nat.reduceAdd, Nat.reduceSub, Nat.reduceMul, Nat.reduceLeDiff, Nat.reduceLT, Nat.reduceBEq, Int.reduceNeg, Int.reduceLE, Int.reduceLT, Int.reduceToNat, String.reduceEq]) (by rw [flat_in, List.append_nil]) (by simp) (cells_in acc) (fun e he => by obtain ⟨c, _, rfl⟩ := List.mem_map.1 he; exact .int _ _) (by rw [← he]; simp [aboveN])

theorem aboveC_c (b : Bool) (l : List Nd) (id : Int) (hl : l.length ≤ 1073741824) (H : AHeap) : FnC Try.prog 41 [.sl b (l.map ndA), .int .i64 id] H (.sl false ((aboveC l id).map inA)) := by
  refine fnC_of Try.func41 rfl (Nat.le_of_ble_eq_true rfl) ?_
  unfold aboveC
  cases hs : chk l with
  | false =>
    repeat' first | ((first | refine callK_fn (chk_c _ _ _) callOk38F ?_ | refine callP_fn (chk_c _ _ _) callOk38F ?_ | refine callM_fn (fun _ => chk_c _ _ _) callOk38F ?_ | refine callP_false (.bool false) ?_ | refine aw_region rfl ?_ | refine aw_region_draw mixedF rfl (by kernel_rfl) ?_ | refine aw_ret ?_ | refine aw_skip ?_ | refine aw_exit ?_ | refine aw_label ?_); simp only [go_sem, ↓reduceIte, Nat.reduceEqDiff, Nat.reduceAdd, Nat.reduceSub, Nat.reduceMul, Nat.reduceLeDiff, Nat.reduceLT, Nat.reduceBEq, Int.reduceNeg, Int.reduceLE, Int.reduceLT, Int.reduceToNat, String.reduceEq, hs]) | refine aw_seq ?_ | refine aw_block ?_ | refine aw_scope ?_ | (refine aw_cond rfl (fun h => ?_) (fun h => ?_) <;> try (exfalso; first | (simp at h; done) | (simp at h; omega))) | ((with_reducible refine And.intro ?_ ?_); focus (first | omega | (intros; simp_all; done) | (simp; omega)))
    exact done0 (by simp only [pur_int, pur_bool, pur_str, pur_agg, pur_tup, pur_sl, pur_iface, pur_nilI, List.mem_cons, List.not_mem_nil, false_implies, forall_eq_or_imp, List.mem_map, forall_exists_index, and_imp, forall_apply_eq_imp_iff₂, or_false, forall_eq, implies_true, and_self, and_true, true_and, Go.Gw.stA, Go.Gw.opA, Go.Gw.ndA, Go.Gw.unA, Go.Gw.enA, Go.Gw.inA, Go.Gw.lgF, Go.Gw.lgA]) (.sl _ _)
  | true =>
    have hab := above_c b l id hs hl
    repeat' first | ((first | refine callK_fn (chk_c _ _ _) callOk38F ?_ | refine callP_fn (chk_c _ _ _) callOk38F ?_ | refine callM_fn (fun _ => chk_c _ _ _) callOk38F ?_ | refine callK_fn (hab _) callOk64F ?_ | refine callP_fn (hab _) callOk64F ?_ | refine callM_fn (fun _ => hab _) callOk64F ?_ | refine callP_false (.bool false) ?_ | refine aw_region rfl ?_ | refine aw_region_draw mixedF rfl (by kernel_rfl) ?_ | refine aw_ret ?_ | refine aw_skip ?_ | refine aw_exit ?_ | refine aw_label ?_); simp only [go_sem, ↓reduceIte, Nat.reduceEqDiff, Nat.reduceAdd, Nat.reduceSub, Nat.reduceMul, Nat.reduceLeDiff, Nat.reduceLT, Nat.reduceBEq, Int.reduceNeg, Int.reduceLE, Int.reduceLT, Int.reduceToNat, String.reduceEq, hs]) | refine aw_seq ?_ | refine aw_block ?_ | refine aw_scope ?_ | (refine aw_cond rfl (fun h => ?_) (fun h => ?_) <;> try (exfalso; first | (simp at h; done) | (simp at h; omega))) | ((with_reducible refine And.intro ?_ ?_); focus (first | omega | (intros; simp_all; done) | (simp; omega)))
    exact done0 (by simp only [pur_int, pur_bool, pur_str, pur_agg, pur_tup, pur_sl, pur_iface, pur_nilI, List.mem_cons, List.not_mem_nil, false_implies, forall_eq_or_imp, List.mem_map, forall_exists_index, and_imp, forall_apply_eq_imp_iff₂, or_false, forall_eq, implies_true, and_self, and_true, true_and, Go.Gw.stA, Go.Gw.opA, Go.Gw.ndA, Go.Gw.unA, Go.Gw.enA, Go.Gw.inA, Go.Gw.lgF, Go.Gw.lgA]) (.refl _)

/-! ### lay -/
theorem flat_nd (l : List Nd) : (l.map ndA).flatMap AV.cells = l.flatMap fun n => (ndA n).cells := by
  rw [List.flatMap_map]
theorem flat_nd_len (l : List Nd) : (l.flatMap fun n => (ndA n).cells).length = l.length * 8 := by
  induction l with
  | nil => rfl
  | cons x l ih => rw [List.flatMap_cons, List.length_append, ih]; simp [ndA, AV.cells]; omega
theorem cells_nd (l : List Nd) : ∀ e ∈ l.map ndA, e.cells.length = 8 := fun e he => by
  obtain ⟨x, _, rfl⟩ := List.mem_map.1 he; rfl
theorem cells_ndT (l : List Nd) : (∀ e ∈ l.map ndA, e.cells.length = 8) = True := eq_true (cells_nd l)
theorem one_nd (l : List Nd) : (l.flatMap fun n => (ndA n).cells).all AV.one = true := by
  rw [List.all_eq_true]
  intro x hx
  obtain ⟨n, _, hn⟩ := List.mem_flatMap.1 hx
  simp only [ndA, AV.cells, List.mem_cons, List.not_mem_nil, or_false] at hn
  rcases hn with rfl | rfl | rfl | rfl | rfl | rfl | rfl | rfl <;> rfl
theorem pur_nd (l : List Nd) : ∀ e ∈ l.map ndA, Pur e := fun e he => by
  obtain ⟨x, _, rfl⟩ := List.mem_map.1 he; exact (by simp only [pur_int, pur_bool, pur_str, pur_agg, pur_tup, pur_sl, pur_iface, pur_nilI, List.mem_cons, List.not_mem_nil, false_implies, forall_eq_or_imp, List.mem_map, forall_exists_index, and_imp, forall_apply_eq_imp_iff₂, or_false, forall_eq, implies_true, and_self, and_true, true_and, Go.Gw.stA, Go.Gw.opA, Go.Gw.ndA, Go.Gw.unA, Go.Gw.enA, Go.Gw.inA, Go.Gw.lgF, Go.Gw.lgA])

theorem splice_app {A B X : List AV} {off : Nat} (h : A.length = off) : splice (A ++ B) off X = A ++ (X ++ B.drop X.length) := by
  subst h
  simp [splice, List.drop_append]
def ndZ : AV := .agg [.int .i64 0, .int .i64 0, .str [], .int .i64 0, .int .i64 0, .str [], .int .i64 0, .int .i64 0]
theorem flat_nd_len' (l : List Nd) : (List.flatMap AV.cells (l.map ndA)).length = l.length * 8 := by rw [flat_nd, flat_nd_len]
theorem one_nd' (l : List Nd) : (List.flatMap AV.cells (l.map ndA)).all AV.one = true := by rw [flat_nd]; exact one_nd l
theorem flat_ndZ (n : Nat) : (List.flatMap AV.cells (List.replicate n ndZ)).length = n * 8 := by
  induction n with
  | zero => rfl
  | succ n ih => rw [List.replicate_succ, List.flatMap_cons, List.length_append, ih]; simp [ndZ, AV.cells]; omega

theorem lay_c (b1 b2 : Bool) (l xs : List Nd) (i j : Nat) (hij : i ≤ j) (hj : j ≤ l.length) (hl : l.length + xs.length ≤ 1073741824) (H : AHeap) :
    FnC Try.prog 66 [.sl b1 (l.map ndA), .int .i64 i, .int .i64 j, .sl b2 (xs.map ndA)] H (.sl false ((layN l i j xs).map ndA)) := by
  refine fnC_of Try.func66 rfl (Nat.le_of_ble_eq_true rfl) ?_
  have e1 : IntKind.i64.wrap (IntKind.i64.wrap (((i + xs.length : Nat) : Int) + (l.length : Int)) - (j : Int)) = ((i + xs.length + (l.length - j) : Nat) : Int) := by
    rw [wrap_i64 (n := ((i + xs.length : Nat) : Int) + l.length) (by omega) (by omega), wrap_i64 (by omega) (by omega)]; omega
  have t1 : List.take i (List.map ndA l) = List.map ndA (l.take i) := List.map_take.symm
  have t2 : List.drop j (List.map ndA l) = List.map ndA (l.drop j) := List.map_drop.symm
  have n1 : (l.take i).length = i := List.length_take_of_le (by omega)
  have n2 : (l.drop j).length = l.length - j := List.length_drop
  have e2 : IntKind.i64.wrap ((i : Int) + (xs.length : Int)) = ((i + xs.length : Nat) : Int) := wrap_i64 (by omega) (by omega)
  have hz : ndZ = .agg [.int .i64 0, .int .i64 0, .str [], .int .i64 0, .int .i64 0, .str [], .int .i64 0, .int .i64 0] := rfl
  have l1 := flat_nd_len' (l.take i)
  have l2 := flat_nd_len' xs
  have l3 := flat_nd_len' (l.drop j)
  have lz := flat_ndZ (i + (xs.length + (l.length - j)))
  rw [n1] at l1
  rw [n2] at l3
  have s1 : splice (List.flatMap AV.cells (List.replicate (i + (xs.length + (l.length - j))) ndZ)) 0 (List.flatMap AV.cells (List.map ndA (l.take i))) =
      List.flatMap AV.cells (List.map ndA (l.take i)) ++ (List.flatMap AV.cells (List.replicate (i + (xs.length + (l.length - j))) ndZ)).drop (i * 8) := by
    have := splice_app (A := []) (B := List.flatMap AV.cells (List.replicate (i + (xs.length + (l.length - j))) ndZ)) (X := List.flatMap AV.cells (List.map ndA (l.take i))) (off := 0) rfl
    rw [l1] at this; exact this
  have s2 : splice (List.flatMap AV.cells (List.map ndA (l.take i)) ++ (List.flatMap AV.cells (List.replicate (i + (xs.length + (l.length - j))) ndZ)).drop (i * 8)) (i * 8) (List.flatMap AV.cells (List.map ndA xs)) =
      List.flatMap AV.cells (List.map ndA (l.take i)) ++ (List.flatMap AV.cells (List.map ndA xs) ++ (List.flatMap AV.cells (List.replicate (i + (xs.length + (l.length - j))) ndZ)).drop (i * 8 + xs.length * 8)) := by
    rw [splice_app l1, l2, List.drop_drop]
  have s3 : splice (List.flatMap AV.cells (List.map ndA (l.take i)) ++ (List.flatMap AV.cells (List.map ndA xs) ++ (List.flatMap AV.cells (List.replicate (i + (xs.length + (l.length - j))) ndZ)).drop (i * 8 + xs.length * 8))) ((i + xs.length) * 8) (List.flatMap AV.cells (List.map ndA (l.drop j))) =
      List.flatMap AV.cells (List.map ndA (layN l i j xs)) := by
    rw [← List.append_assoc, splice_app (by rw [List.length_append, l1, l2]; omega), l3, List.drop_drop, show List.drop (i * 8 + xs.length * 8 + (l.length - j) * 8) (List.flatMap AV.cells (List.replicate (i + (xs.length + (l.length - j))) ndZ)) = [] from List.drop_of_length_le (by rw [lz]; omega)]
    simp [layN, List.append_assoc]
  repeat' first | ((first | refine aw_region_mix (id := 4) [.free, .free, .pure 0, .free, .free, .pure 0, .eff [false, false]] mixedF rfl (by kernel_rfl) (by kernel_rfl) ?_ | refine callP_false (.bool false) ?_ | refine aw_region rfl ?_ | refine aw_region_draw mixedF rfl (by kernel_rfl) ?_ | refine aw_ret ?_ | refine aw_skip ?_ | refine aw_exit ?_ | refine aw_label ?_); simp only [go_sem, ↓reduceIte, Nat.reduceEqDiff, Nat.reduceAdd, Nat.reduceSub, Nat.reduceMul, Nat.reduceLeDiff, Nat.reduceLT, Nat.reduceBEq, Int.reduceNeg, Int.reduceLE, Int.reduceLT, Int.reduceToNat, String.reduceEq, e1, e2, t1, t2, n1, n2, ← hz, s1, s2, s3, l1, l2, l3, lz, one_nd', cells_ndT, List.length_drop]) | refine aw_seq ?_ | refine aw_block ?_ | refine aw_scope ?_ | (refine aw_cond rfl (fun h => ?_) (fun h => ?_) <;> try (exfalso; first | (simp at h; done) | (simp at h; omega))) | ((with_reducible refine And.intro ?_ ?_); focus (first | omega | (intros; simp_all; done) | (simp; omega)))
  have hlen := layN_len l i j xs hij hj
  exact doneOsl (cs := List.flatMap AV.cells (List.map ndA (layN l i j xs))) (es := (layN l i j xs).map ndA) (rest := []) (Nat.le_refl _) (by simp only [go_sem, ↓reduceIte, Nat.reduceEqDiff, Nat.reduceAdd, Nat.reduceSub, Nat.reduceMul, Nat.reduceLeDiff, Nat.reduceLT, Nat.reduceBEq, Int.reduceNeg, Int.reduceLE, Int.reduceLT, Int.reduceToNat, String.reduceEq]) (List.append_nil _).symm (by rw [List.length_map]; omega) (cells_nd _) (pur_nd _) rfl

theorem tsame_c (b : Bool) (l : List Nd) (hl : l.length ≤ 1000000000) (H : AHeap) : FnC Try.prog 61 [.sl b (l.map ndA)] H (.sl false (l.map ndA)) := by
  refine fnC_of Try.func61 rfl (Nat.le_of_ble_eq_true rfl) ?_
  have hlay := lay_c b true l [] l.length l.length (Nat.le_refl _) (Nat.le_refl _) (by simp; omega) H
  have e : layN l l.length l.length [] = l := by simp [layN]
  rw [e] at hlay
  repeat' first | ((first | refine callK_fn (hlay) callOk66F ?_ | refine callP_fn (hlay) callOk66F ?_ | refine callM_fn (fun _ => hlay) callOk66F ?_ | refine callP_false (.bool false) ?_ | refine aw_region rfl ?_ | refine aw_region_draw mixedF rfl (by kernel_rfl) ?_ | refine aw_ret ?_ | refine aw_skip ?_ | refine aw_exit ?_ | refine aw_label ?_); simp only [go_sem, ↓reduceIte, Nat.reduceEqDiff, Nat.reduceAdd, Nat.reduceSub, Nat.reduceMul, Nat.reduceLeDiff, Nat.reduceLT, Nat.reduceBEq, Int.reduceNeg, Int.reduceLE, Int.reduceLT, Int.reduceToNat, String.reduceEq]) | refine aw_seq ?_ | refine aw_block ?_ | refine aw_scope ?_ | (refine aw_cond rfl (fun h => ?_) (fun h => ?_) <;> try (exfalso; first | (simp at h; done) | (simp at h; omega))) | ((with_reducible refine And.intro ?_ ?_); focus (first | omega | (intros; simp_all; done) | (simp; omega)))
  exact done0 (by simp only [pur_int, pur_bool, pur_str, pur_agg, pur_tup, pur_sl, pur_iface, pur_nilI, List.mem_cons, List.not_mem_nil, false_implies, forall_eq_or_imp, List.mem_map, forall_exists_index, and_imp, forall_apply_eq_imp_iff₂, or_false, forall_eq, implies_true, and_self, and_true, true_and, Go.Gw.stA, Go.Gw.opA, Go.Gw.ndA, Go.Gw.unA, Go.Gw.enA, Go.Gw.inA, Go.Gw.lgF, Go.Gw.lgA]) (.refl _)
end Go.Proofs.Ytoffonjlfomnbaa

/- What the document's functions of the nodes answer: loops, without, with. No condition. -/
import Derived.Test.YtoffonjlfomnbaaGwRef6a
import Derived.Test.YtoffonjlfomnbaaGwMerge4
namespace Go.Gw
open Go Go.Aw Go.Proofs.Ytoffonjlfomnbaa
theorem rAt_le (l : List Nd) (id : Int) : rAt l id ≤ l.length := by
  unfold rAt
  induction l with
  | nil => exact Nat.le_refl _
  | cons x l ih => rw [List.takeWhile_cons]; split <;> simp; exact ih
theorem rAt_lt {l : List Nd} {id : Int} {i : Nat} (h : i < rAt l id) : (l[i]'(Nat.lt_of_lt_of_le h (rAt_le l id))).id < id := by
  induction l generalizing i with
  | nil => simp [rAt] at h
  | cons x l ih =>
    unfold rAt at h
    rw [List.takeWhile_cons] at h
    split at h
    · rename_i hx
      cases i with
      | zero => simpa using hx
      | succ i => exact ih (by simpa [rAt] using h)
    · simp at h
theorem rAt_stop {l : List Nd} {id : Int} (h : rAt l id < l.length) : ¬ (l[rAt l id]).id < id := by
  induction l with
  | nil => simp at h
  | cons x l ih =>
    have e : rAt (x :: l) id = if x.id < id then rAt l id + 1 else 0 := by
      unfold rAt; rw [List.takeWhile_cons]; split <;> simp_all
    by_cases hx : x.id < id
    · have e1 : rAt (x :: l) id = rAt l id + 1 := by rw [e, if_pos hx]
      simp only [e1, List.getElem_cons_succ]
      exact ih (by simp [e1] at h; exact h)
    · have e1 : rAt (x :: l) id = 0 := by rw [e, if_neg hx]
      simp only [e1, List.getElem_cons_zero]
      exact hx
end Go.Gw
namespace Go.Proofs.Ytoffonjlfomnbaa
open Go Go.Aw Go.Gw
set_option linter.unusedSimpArgs false
set_option maxRecDepth 20000
set_option maxHeartbeats 1000000

theorem rloops_c (b : Bool) (l : List Nd) (o : Opn) (hs : chk l = true) (hl : l.length ≤ 1073741824) (H : AHeap) : FnC Try.prog 68 [.sl b (l.map ndA), opA o] H (.bool (loopsI l o)) := by
  refine fnC_of Try.func68 rfl (Nat.le_of_ble_eq_true rfl) ?_
  have hab := rabove_c b l o.parent hl
  have e : aboveC l o.parent = aboveI l o.parent := by rw [aboveC, if_pos hs]
  rw [e] at hab
  have hlen := aboveN_len l l.length o.parent
  unfold loopsI
  rw [show aboveI l o.parent = aboveN l l.length o.parent from rfl] at hab ⊢
  generalize aboveN l l.length o.parent = up at hab hlen
  simp only [opA]
  repeat' first | ((first | refine callK_fn (hab _) callOk42F ?_ | refine callP_fn (hab _) callOk42F ?_ | refine callM_fn (fun _ => hab _) callOk42F ?_ | refine callP_false (.bool false) ?_ | refine aw_region rfl ?_ | refine aw_region_draw mixedF rfl (by kernel_rfl) ?_ | refine aw_ret ?_ | refine aw_skip ?_ | refine aw_exit ?_ | refine aw_label ?_); simp only [go_sem, aopsK, aopsG, aopsPK, aopsPG, aopsMK, aopsMG, aopsN, TypeDesc.isAgg, ↓reduceIte, Nat.reduceEqDiff, Nat.reduceAdd, Nat.reduceSub, Nat.reduceMul, Nat.reduceLeDiff, Nat.reduceLT, Nat.reduceBEq, Int.reduceNeg, Int.reduceLE, Int.reduceLT, Int.reduceToNat, String.reduceEq, Option.isSome_some, Option.isSome_none, Bool.false_eq_true, Bool.true_eq_false, not_true_eq_false, not_false_eq_true, true_and, and_true, and_self, List.getElem?_toArray, List.getElem?_cons_zero, List.getElem?_cons_succ, List.getElem?_nil, List.length_map, List.append_eq, List.range_zero, List.cons_append, List.nil_append, Nat.one_ne_zero, implies_true]) | refine aw_seq ?_ | refine aw_block ?_ | refine aw_scope ?_ | (refine aw_cond rfl (fun h => ?_) (fun h => ?_) <;> try (exfalso; first | (simp at h; done) | (simp at h; omega))) | ((with_reducible refine And.intro ?_ ?_); focus (first | omega | (intros; simp_all; done) | (simp; omega)))
  refine aw_loopS (ι := Nat) (fun i => [(3, .ref H.length 0 0), (5, .sl false (up.map inA)), (6, .int .i64 i)]) (fun _ => H ++ [.cells 0 [.int .i64 o.at_.c, .int .i64 o.at_.r, .int .i64 o.kind, .int .i64 o.node, .int .i64 o.parent, .str o.name, .str o.data]])
    (fun i => i ≤ up.length ∧ ∀ k (hk : k < i) (hk2 : k < up.length), ¬ up[k] = o.node) (fun i => up.length - i) 0 ⟨Nat.zero_le _, fun k hk => by omega⟩ ?_ rfl ?_
  · simp [go_sem]
  · rintro i ⟨hi, hno⟩
    by_cases hlt : i < up.length
    · have hp := getD_map inA hlt
      repeat' first | ((first | refine callP_false (.bool false) ?_ | refine aw_region rfl ?_ | refine aw_region_draw mixedF rfl (by kernel_rfl) ?_ | refine aw_ret ?_ | refine aw_skip ?_ | refine aw_exit ?_ | refine aw_label ?_); simp only [go_sem, aopsK, aopsG, aopsPK, aopsPG, aopsMK, aopsMG, aopsN, TypeDesc.isAgg, ↓reduceIte, Nat.reduceEqDiff, Nat.reduceAdd, Nat.reduceSub, Nat.reduceMul, Nat.reduceLeDiff, Nat.reduceLT, Nat.reduceBEq, Int.reduceNeg, Int.reduceLE, Int.reduceLT, Int.reduceToNat, String.reduceEq, Option.isSome_some, Option.isSome_none, Bool.false_eq_true, Bool.true_eq_false, not_true_eq_false, not_false_eq_true, true_and, and_true, and_self, List.getElem?_toArray, List.getElem?_cons_zero, List.getElem?_cons_succ, List.getElem?_nil, List.length_map, List.append_eq, List.range_zero, List.cons_append, List.nil_append, Nat.one_ne_zero, implies_true, hp, inA]) | refine aw_seq ?_ | refine aw_block ?_ | refine aw_scope ?_ | (refine aw_cond rfl (fun h => ?_) (fun h => ?_) <;> try (exfalso; first | (simp at h; done) | (simp at h; omega))) | ((with_reducible refine And.intro ?_ ?_); focus (first | omega | (intros; simp_all; done) | (simp; omega)))
      · refine done (by simp only [pur_int, pur_bool, pur_str, pur_agg, pur_tup, pur_sl, pur_iface, pur_nilI, List.mem_cons, List.not_mem_nil, false_implies, forall_eq_or_imp, List.mem_map, forall_exists_index, and_imp, forall_apply_eq_imp_iff₂, or_false, forall_eq, implies_true, and_self, and_true, true_and, Go.Gw.stA, Go.Gw.opA, Go.Gw.ndA, Go.Gw.unA, Go.Gw.enA, Go.Gw.inA, Go.Gw.lgF, Go.Gw.lgA]) (.of (congrArg AV.bool ?_))
        have : up.any (fun x => decide (x = o.node)) = true := List.any_eq_true.2 ⟨_, List.getElem_mem hlt, h⟩
        rw [this, Bool.or_true]
      · refine ⟨i + 1, ⟨hlt, fun k hk hk2 => ?_⟩, by omega, congrArg _ (wrap_succ hlt (by omega))⟩
        by_cases e : k = i
        · subst e; exact of_decide_eq_false h
        · exact hno k (by omega) hk2
    · have hi' : i = up.length := by omega
      repeat' first | ((first | refine callP_false (.bool false) ?_ | refine aw_region rfl ?_ | refine aw_region_draw mixedF rfl (by kernel_rfl) ?_ | refine aw_ret ?_ | refine aw_skip ?_ | refine aw_exit ?_ | refine aw_label ?_); simp only [go_sem, aopsK, aopsG, aopsPK, aopsPG, aopsMK, aopsMG, aopsN, TypeDesc.isAgg, ↓reduceIte, Nat.reduceEqDiff, Nat.reduceAdd, Nat.reduceSub, Nat.reduceMul, Nat.reduceLeDiff, Nat.reduceLT, Nat.reduceBEq, Int.reduceNeg, Int.reduceLE, Int.reduceLT, Int.reduceToNat, String.reduceEq, Option.isSome_some, Option.isSome_none, Bool.false_eq_true, Bool.true_eq_false, not_true_eq_false, not_false_eq_true, true_and, and_true, and_self, List.getElem?_toArray, List.getElem?_cons_zero, List.getElem?_cons_succ, List.getElem?_nil, List.length_map, List.append_eq, List.range_zero, List.cons_append, List.nil_append, Nat.one_ne_zero, implies_true]) | refine aw_seq ?_ | refine aw_block ?_ | refine aw_scope ?_ | (refine aw_cond rfl (fun h => ?_) (fun h => ?_) <;> try (exfalso; first | (simp at h; done) | (simp at h; omega))) | ((with_reducible refine And.intro ?_ ?_); focus (first | omega | (intros; simp_all; done) | (simp; omega)))
      subst hi'
      refine done (by simp only [pur_int, pur_bool, pur_str, pur_agg, pur_tup, pur_sl, pur_iface, pur_nilI, List.mem_cons, List.not_mem_nil, false_implies, forall_eq_or_imp, List.mem_map, forall_exists_index, and_imp, forall_apply_eq_imp_iff₂, or_false, forall_eq, implies_true, and_self, and_true, true_and, Go.Gw.stA, Go.Gw.opA, Go.Gw.ndA, Go.Gw.unA, Go.Gw.enA, Go.Gw.inA, Go.Gw.lgF, Go.Gw.lgA]) (.of (congrArg AV.bool ?_))
      have : up.any (fun x => decide (x = o.node)) = false := by
        rw [List.any_eq_false]
        intro x hx
        obtain ⟨k, hk, rfl⟩ := List.getElem_of_mem hx
        simpa using hno k hk hk
      rw [this, Bool.or_false]

theorem rwithout_c (b : Bool) (l : List Nd) (id : Int) (hl : l.length ≤ 1073741824) (H : AHeap) : FnC Try.prog 72 [.sl b (l.map ndA), .int .i64 id] H (.sl false ((rOut l id).map ndA)) := by
  refine fnC_of Try.func72 rfl (Nat.le_of_ble_eq_true rfl) ?_
  repeat' first | ((first | refine callP_false (.bool false) ?_ | refine aw_region rfl ?_ | refine aw_region_draw mixedF rfl (by kernel_rfl) ?_ | refine aw_ret ?_ | refine aw_skip ?_ | refine aw_exit ?_ | refine aw_label ?_); simp only [go_sem, aopsK, aopsG, aopsPK, aopsPG, aopsMK, aopsMG, aopsN, TypeDesc.isAgg, ↓reduceIte, Nat.reduceEqDiff, Nat.reduceAdd, Nat.reduceSub, Nat.reduceMul, Nat.reduceLeDiff, Nat.reduceLT, Nat.reduceBEq, Int.reduceNeg, Int.reduceLE, Int.reduceLT, Int.reduceToNat, String.reduceEq, Option.isSome_some, Option.isSome_none, Bool.false_eq_true, Bool.true_eq_false, not_true_eq_false, not_false_eq_true, true_and, and_true, and_self, List.getElem?_toArray, List.getElem?_cons_zero, List.getElem?_cons_succ, List.getElem?_nil, List.length_map, List.append_eq, List.range_zero, List.cons_append, List.nil_append, Nat.one_ne_zero, implies_true]) | refine aw_seq ?_ | refine aw_block ?_ | refine aw_scope ?_ | (refine aw_cond rfl (fun h => ?_) (fun h => ?_) <;> try (exfalso; first | (simp at h; done) | (simp at h; omega))) | ((with_reducible refine And.intro ?_ ?_); focus (first | omega | (intros; simp_all; done) | (simp; omega)))
  refine aw_void 5 8 rfl ?_
  refine aw_loopS (ι := Nat × Nat) (fun x => [(0, .sl b (l.map ndA)), (1, .int .i64 id), (5, .osl 8 H.length (x.2 + 1) 0 x.2 x.2), (6, .int .i64 x.1)]) (fun x => H ++ [.cells (x.2 + 1) (((rOut (l.take x.1) id).map ndA).flatMap AV.cells)])
    (fun x => x.1 ≤ l.length ∧ (rOut (l.take x.1) id).length = x.2) (fun x => l.length - x.1) (0, 0) ⟨Nat.zero_le _, rfl⟩ ?_ rfl ?_
  · simp [go_sem]
  · rintro ⟨i, n⟩ ⟨hi, hn⟩
    simp only at hi hn ⊢
    have hfl := flat_nd_len' (rOut (l.take i) id)
    rw [hn] at hfl
    by_cases hlt : i < l.length
    · have hp := getD_map ndA hlt
      have htk : l.take (i + 1) = l.take i ++ [l[i]] := List.take_succ_eq_append_getElem hlt
      have hle : n ≤ i := by
        have := List.length_filter_le (fun n : Nd => !decide (n.id = id)) (l.take i)
        rw [List.length_take] at this
        rw [rOut] at hn; omega
      repeat' first | ((first | refine callP_false (.bool false) ?_ | refine aw_region rfl ?_ | refine aw_region_draw mixedF rfl (by kernel_rfl) ?_ | refine aw_ret ?_ | refine aw_skip ?_ | refine aw_exit ?_ | refine aw_label ?_); simp only [go_sem, aopsK, aopsG, aopsPK, aopsPG, aopsMK, aopsMG, aopsN, TypeDesc.isAgg, ↓reduceIte, Nat.reduceEqDiff, Nat.reduceAdd, Nat.reduceSub, Nat.reduceMul, Nat.reduceLeDiff, Nat.reduceLT, Nat.reduceBEq, Int.reduceNeg, Int.reduceLE, Int.reduceLT, Int.reduceToNat, String.reduceEq, Option.isSome_some, Option.isSome_none, Bool.false_eq_true, Bool.true_eq_false, not_true_eq_false, not_false_eq_true, true_and, and_true, and_self, List.getElem?_toArray, List.getElem?_cons_zero, List.getElem?_cons_succ, List.getElem?_nil, List.length_map, List.append_eq, List.range_zero, List.cons_append, List.nil_append, Nat.one_ne_zero, implies_true, hp, ndA, hfl]) | refine aw_seq ?_ | refine aw_block ?_ | refine aw_scope ?_ | (refine aw_cond rfl (fun h => ?_) (fun h => ?_) <;> try (exfalso; first | (simp at h; done) | (simp at h; omega))) | ((with_reducible refine And.intro ?_ ?_); focus (first | omega | (intros; simp_all; done) | (simp; omega)))
      · have hne : ¬ l[i].id = id := by simpa using h
        have hr : rOut (l.take (i + 1)) id = rOut (l.take i) id ++ [l[i]] := by rw [htk, rOut, List.filter_append]; simp [rOut, hne]
        refine ⟨⟨fun e he => by rw [he]; rfl, by omega⟩, ?_⟩
        repeat' first | ((first | refine callP_false (.bool false) ?_ | refine aw_region rfl ?_ | refine aw_region_draw mixedF rfl (by kernel_rfl) ?_ | refine aw_ret ?_ | refine aw_skip ?_ | refine aw_exit ?_ | refine aw_label ?_); simp only [go_sem, aopsK, aopsG, aopsPK, aopsPG, aopsMK, aopsMG, aopsN, TypeDesc.isAgg, ↓reduceIte, Nat.reduceEqDiff, Nat.reduceAdd, Nat.reduceSub, Nat.reduceMul, Nat.reduceLeDiff, Nat.reduceLT, Nat.reduceBEq, Int.reduceNeg, Int.reduceLE, Int.reduceLT, Int.reduceToNat, String.reduceEq, Option.isSome_some, Option.isSome_none, Bool.false_eq_true, Bool.true_eq_false, not_true_eq_false, not_false_eq_true, true_and, and_true, and_self, List.getElem?_toArray, List.getElem?_cons_zero, List.getElem?_cons_succ, List.getElem?_nil, List.length_map, List.append_eq, List.range_zero, List.cons_append, List.nil_append, Nat.one_ne_zero, implies_true]) | refine aw_seq ?_ | refine aw_block ?_ | refine aw_scope ?_ | (refine aw_cond rfl (fun h => ?_) (fun h => ?_) <;> try (exfalso; first | (simp at h; done) | (simp at h; omega))) | ((with_reducible refine And.intro ?_ ?_); focus (first | omega | (intros; simp_all; done) | (simp; omega)))
        exact ⟨(i + 1, n + 1), ⟨hlt, by simp only [hr, List.length_append, hn]; rfl⟩, by simp only; omega, ⟨rfl, congrArg _ (wrap_succ hlt (by omega))⟩, by simp only [hr, List.map_append, List.flatMap_append]; rfl⟩
      · have hne : l[i].id = id := by simpa using h
        have hr : rOut (l.take (i + 1)) id = rOut (l.take i) id := by rw [htk, rOut, List.filter_append]; simp [rOut, hne]
        exact ⟨(i + 1, n), ⟨hlt, by simp only [hr]; exact hn⟩, by simp only; omega, ⟨rfl, congrArg _ (wrap_succ hlt (by omega))⟩, by simp only [hr]⟩
    · have hi' : i = l.length := by omega
      subst hi'
      rw [List.take_length] at hn hfl ⊢
      repeat' first | ((first | refine callP_false (.bool false) ?_ | refine aw_region rfl ?_ | refine aw_region_draw mixedF rfl (by kernel_rfl) ?_ | refine aw_ret ?_ | refine aw_skip ?_ | refine aw_exit ?_ | refine aw_label ?_); simp only [go_sem, aopsK, aopsG, aopsPK, aopsPG, aopsMK, aopsMG, aopsN, TypeDesc.isAgg, ↓reduceIte, Nat.reduceEqDiff, Nat.reduceAdd, Nat.reduceSub, Nat.reduceMul, Nat.reduceLeDiff, Nat.reduceLT, Nat.reduceBEq, Int.reduceNeg, Int.reduceLE, Int.reduceLT, Int.reduceToNat, String.reduceEq, Option.isSome_some, Option.isSome_none, Bool.false_eq_true, Bool.true_eq_false, not_true_eq_false, not_false_eq_true, true_and, and_true, and_self, List.getElem?_toArray, List.getElem?_cons_zero, List.getElem?_cons_succ, List.getElem?_nil, List.length_map, List.append_eq, List.range_zero, List.cons_append, List.nil_append, Nat.one_ne_zero, implies_true]) | refine aw_seq ?_ | refine aw_block ?_ | refine aw_scope ?_ | (refine aw_cond rfl (fun h => ?_) (fun h => ?_) <;> try (exfalso; first | (simp at h; done) | (simp at h; omega))) | ((with_reducible refine And.intro ?_ ?_); focus (first | omega | (intros; simp_all; done) | (simp; omega)))
      exact doneOsl (es := (rOut l id).map ndA) (rest := []) (Nat.le_refl _) (by simp only [go_sem, aopsK, aopsG, aopsPK, aopsPG, aopsMK, aopsMG, aopsN, TypeDesc.isAgg, ↓reduceIte, Nat.reduceEqDiff, Nat.reduceAdd, Nat.reduceSub, Nat.reduceMul, Nat.reduceLeDiff, Nat.reduceLT, Nat.reduceBEq, Int.reduceNeg, Int.reduceLE, Int.reduceLT, Int.reduceToNat, String.reduceEq, Option.isSome_some, Option.isSome_none, Bool.false_eq_true, Bool.true_eq_false, not_true_eq_false, not_false_eq_true, true_and, and_true, and_self, List.getElem?_toArray, List.getElem?_cons_zero, List.getElem?_cons_succ, List.getElem?_nil, List.length_map, List.append_eq, List.range_zero, List.cons_append, List.nil_append, Nat.one_ne_zero, implies_true]) (List.append_nil _).symm (by rw [List.length_map]; exact hn) (cells_nd _) (pur_nd _) rfl

theorem rwith_c (b : Bool) (l : List Nd) (n : Nd) (hl : l.length ≤ 1000000000) (H : AHeap) : FnC Try.prog 67 [.sl b (l.map ndA), ndA n] H (.sl false ((rWith l n).map ndA)) := by
  refine fnC_of Try.func67 rfl (Nat.le_of_ble_eq_true rfl) ?_
  have hwo := rwithout_c b l n.id (by omega)
  have hrl := List.length_filter_le (fun x : Nd => !decide (x.id = n.id)) l
  unfold rWith
  rw [show List.filter (fun x : Nd => !decide (x.id = n.id)) l = rOut l n.id from rfl] at hrl
  generalize rOut l n.id = rest at hwo hrl
  simp only [ndA]
  repeat' first | ((first | refine callK_fn (hwo _) callOk72F ?_ | refine callP_fn (hwo _) callOk72F ?_ | refine callM_fn (fun _ => hwo _) callOk72F ?_ | refine aw_region_mix (id := 6) [.free, .free, .free, .pure 0, .eff [false], .pure 1, .free, .eff [true], .free, .eff [true], .free] mixedF rfl (by kernel_rfl) (by kernel_rfl) ?_ | refine callP_false (.bool false) ?_ | refine aw_region rfl ?_ | refine aw_region_draw mixedF rfl (by kernel_rfl) ?_ | refine aw_ret ?_ | refine aw_skip ?_ | refine aw_exit ?_ | refine aw_label ?_); simp only [go_sem, aopsK, aopsG, aopsPK, aopsPG, aopsMK, aopsMG, aopsN, TypeDesc.isAgg, ↓reduceIte, Nat.reduceEqDiff, Nat.reduceAdd, Nat.reduceSub, Nat.reduceMul, Nat.reduceLeDiff, Nat.reduceLT, Nat.reduceBEq, Int.reduceNeg, Int.reduceLE, Int.reduceLT, Int.reduceToNat, String.reduceEq, Option.isSome_some, Option.isSome_none, Bool.false_eq_true, Bool.true_eq_false, not_true_eq_false, not_false_eq_true, true_and, and_true, and_self, List.getElem?_toArray, List.getElem?_cons_zero, List.getElem?_cons_succ, List.getElem?_nil, List.length_map, List.append_eq, List.range_zero, List.cons_append, List.nil_append, Nat.one_ne_zero, implies_true]) | refine aw_seq ?_ | refine aw_block ?_ | refine aw_scope ?_ | (refine aw_cond rfl (fun h => ?_) (fun h => ?_) <;> try (exfalso; first | (simp at h; done) | (simp at h; omega))) | ((with_reducible refine And.intro ?_ ?_); focus (first | omega | (intros; simp_all; done) | (simp; omega)))
  refine aw_cutB (ι := Unit) (fun _ => [(3, .ref H.length 0 0), (5, .sl false (rest.map ndA)), (6, .int .i64 (rAt rest n.id))]) (fun _ => H ++ [.cells 0 (ndA n).cells]) (fun _ => True) ?_ ?_
  · have hr0 := rAt_le rest n.id
    refine aw_loopS (ι := Nat) (fun i => [(3, .ref H.length 0 0), (5, .sl false (rest.map ndA)), (6, .int .i64 i)]) (fun _ => H ++ [.cells 0 (ndA n).cells]) (fun i => i ≤ rAt rest n.id) (fun i => rAt rest n.id - i) 0 (Nat.zero_le _) ?_ rfl ?_
    · simp [go_sem]
    · intro i hi
      by_cases hlt : i < rest.length
      · have hp := getD_map ndA hlt
        have hli : decide ((i : Int) < (rest.length : Int)) = true := decide_eq_true (by omega)
        by_cases hia : i < rAt rest n.id
        · have hle : decide (rest[i].id < n.id) = true := decide_eq_true (rAt_lt hia)
          repeat' first | ((first | refine aw_region_mix (id := 6) [.free, .free, .free, .pure 0, .eff [false], .pure 1, .free, .eff [true], .free, .eff [true], .free] mixedF rfl (by kernel_rfl) (by kernel_rfl) ?_ | refine callP_false (.bool false) ?_ | refine aw_region rfl ?_ | refine aw_region_draw mixedF rfl (by kernel_rfl) ?_ | refine aw_ret ?_ | refine aw_skip ?_ | refine aw_exit ?_ | refine aw_label ?_); simp only [go_sem, aopsK, aopsG, aopsPK, aopsPG, aopsMK, aopsMG, aopsN, TypeDesc.isAgg, ↓reduceIte, Nat.reduceEqDiff, Nat.reduceAdd, Nat.reduceSub, Nat.reduceMul, Nat.reduceLeDiff, Nat.reduceLT, Nat.reduceBEq, Int.reduceNeg, Int.reduceLE, Int.reduceLT, Int.reduceToNat, String.reduceEq, Option.isSome_some, Option.isSome_none, Bool.false_eq_true, Bool.true_eq_false, not_true_eq_false, not_false_eq_true, true_and, and_true, and_self, List.getElem?_toArray, List.getElem?_cons_zero, List.getElem?_cons_succ, List.getElem?_nil, List.length_map, List.append_eq, List.range_zero, List.cons_append, List.nil_append, Nat.one_ne_zero, implies_true, hp, hli, ndA, hle]) | refine aw_seq ?_ | refine aw_block ?_ | refine aw_scope ?_ | (refine aw_cond rfl (fun h => ?_) (fun h => ?_) <;> try (exfalso; first | (simp at h; done) | (simp at h; omega))) | ((with_reducible refine And.intro ?_ ?_); focus (first | omega | (intros; simp_all; done) | (simp; omega)))
          exact ⟨i + 1, hia, by omega, congrArg _ (wrap_succ hlt (by omega))⟩
        · have hie : i = rAt rest n.id := by omega
          subst hie
          have hle : decide (rest[rAt rest n.id].id < n.id) = false := decide_eq_false (rAt_stop hlt)
          repeat' first | ((first | refine aw_region_mix (id := 6) [.free, .free, .free, .pure 0, .eff [false], .pure 1, .free, .eff [true], .free, .eff [true], .free] mixedF rfl (by kernel_rfl) (by kernel_rfl) ?_ | refine callP_false (.bool false) ?_ | refine aw_region rfl ?_ | refine aw_region_draw mixedF rfl (by kernel_rfl) ?_ | refine aw_ret ?_ | refine aw_skip ?_ | refine aw_exit ?_ | refine aw_label ?_); simp only [go_sem, aopsK, aopsG, aopsPK, aopsPG, aopsMK, aopsMG, aopsN, TypeDesc.isAgg, ↓reduceIte, Nat.reduceEqDiff, Nat.reduceAdd, Nat.reduceSub, Nat.reduceMul, Nat.reduceLeDiff, Nat.reduceLT, Nat.reduceBEq, Int.reduceNeg, Int.reduceLE, Int.reduceLT, Int.reduceToNat, String.reduceEq, Option.isSome_some, Option.isSome_none, Bool.false_eq_true, Bool.true_eq_false, not_true_eq_false, not_false_eq_true, true_and, and_true, and_self, List.getElem?_toArray, List.getElem?_cons_zero, List.getElem?_cons_succ, List.getElem?_nil, List.length_map, List.append_eq, List.range_zero, List.cons_append, List.nil_append, Nat.one_ne_zero, implies_true, hp, hli, ndA, hle]) | refine aw_seq ?_ | refine aw_block ?_ | refine aw_scope ?_ | (refine aw_cond rfl (fun h => ?_) (fun h => ?_) <;> try (exfalso; first | (simp at h; done) | (simp at h; omega))) | ((with_reducible refine And.intro ?_ ?_); focus (first | omega | (intros; simp_all; done) | (simp; omega)))
          exact ⟨(), trivial⟩
      · have hie : i = rAt rest n.id := by omega
        subst hie
        have hli : decide ((rAt rest n.id : Int) < (rest.length : Int)) = false := decide_eq_false (by omega)
        repeat' first | ((first | refine aw_region_mix (id := 6) [.free, .free, .free, .pure 0, .eff [false], .pure 1, .free, .eff [true], .free, .eff [true], .free] mixedF rfl (by kernel_rfl) (by kernel_rfl) ?_ | refine callP_false (.bool false) ?_ | refine aw_region rfl ?_ | refine aw_region_draw mixedF rfl (by kernel_rfl) ?_ | refine aw_ret ?_ | refine aw_skip ?_ | refine aw_exit ?_ | refine aw_label ?_); simp only [go_sem, aopsK, aopsG, aopsPK, aopsPG, aopsMK, aopsMG, aopsN, TypeDesc.isAgg, ↓reduceIte, Nat.reduceEqDiff, Nat.reduceAdd, Nat.reduceSub, Nat.reduceMul, Nat.reduceLeDiff, Nat.reduceLT, Nat.reduceBEq, Int.reduceNeg, Int.reduceLE, Int.reduceLT, Int.reduceToNat, String.reduceEq, Option.isSome_some, Option.isSome_none, Bool.false_eq_true, Bool.true_eq_false, not_true_eq_false, not_false_eq_true, true_and, and_true, and_self, List.getElem?_toArray, List.getElem?_cons_zero, List.getElem?_cons_succ, List.getElem?_nil, List.length_map, List.append_eq, List.range_zero, List.cons_append, List.nil_append, Nat.one_ne_zero, implies_true, hli, ndA]) | refine aw_seq ?_ | refine aw_block ?_ | refine aw_scope ?_ | (refine aw_cond rfl (fun h => ?_) (fun h => ?_) <;> try (exfalso; first | (simp at h; done) | (simp at h; omega))) | ((with_reducible refine And.intro ?_ ?_); focus (first | omega | (intros; simp_all; done) | (simp; omega)))
        exact ⟨(), trivial⟩
  · intro _ _
    have hr0 := rAt_le rest n.id
    generalize rAt rest n.id = k at hr0 ⊢
    have s1 : List.take k (rest.map ndA) = (rest.take k).map ndA := (List.map_take ..).symm
    have s2 : List.drop k (rest.map ndA) = (rest.drop k).map ndA := (List.map_drop ..).symm
    have l1 : (rest.take k).length = k := by rw [List.length_take]; omega
    have l2 : (rest.drop k).length = rest.length - k := List.length_drop ..
    have c1 := cells_ndT (rest.take k)
    have c2 := cells_ndT (rest.drop k)
    have f1 := flat_nd_len' (rest.take k)
    have f2 := flat_nd_len' (rest.drop k)
    have o2 := one_nd' (rest.drop k)
    repeat' first | ((first | refine aw_region_mix (id := 6) [.free, .free, .free, .pure 0, .eff [false], .pure 1, .free, .eff [true], .free, .eff [true], .free] mixedF rfl (by kernel_rfl) (by kernel_rfl) ?_ | refine callP_false (.bool false) ?_ | refine aw_region rfl ?_ | refine aw_region_draw mixedF rfl (by kernel_rfl) ?_ | refine aw_ret ?_ | refine aw_skip ?_ | refine aw_exit ?_ | refine aw_label ?_); simp only [go_sem, aopsK, aopsG, aopsPK, aopsPG, aopsMK, aopsMG, aopsN, TypeDesc.isAgg, ↓reduceIte, Nat.reduceEqDiff, Nat.reduceAdd, Nat.reduceSub, Nat.reduceMul, Nat.reduceLeDiff, Nat.reduceLT, Nat.reduceBEq, Int.reduceNeg, Int.reduceLE, Int.reduceLT, Int.reduceToNat, String.reduceEq, Option.isSome_some, Option.isSome_none, Bool.false_eq_true, Bool.true_eq_false, not_true_eq_false, not_false_eq_true, true_and, and_true, and_self, List.getElem?_toArray, List.getElem?_cons_zero, List.getElem?_cons_succ, List.getElem?_nil, List.length_map, List.append_eq, List.range_zero, List.cons_append, List.nil_append, Nat.one_ne_zero, implies_true, s1, s2, c1, c2, f1, f2, o2, l1, l2, ndA]) | refine aw_seq ?_ | refine aw_block ?_ | refine aw_scope ?_ | (refine aw_cond rfl (fun h => ?_) (fun h => ?_) <;> try (exfalso; first | (simp at h; done) | (simp at h; omega))) | ((with_reducible refine And.intro ?_ ?_); focus (first | omega | (intros; simp_all; done) | (simp; omega)))
    refine ⟨⟨by omega, by omega, cells_nd _⟩, ⟨.inl trivial, by omega⟩, ?_⟩
    repeat' first | ((first | refine aw_region_mix (id := 6) [.free, .free, .free, .pure 0, .eff [false], .pure 1, .free, .eff [true], .free, .eff [true], .free] mixedF rfl (by kernel_rfl) (by kernel_rfl) ?_ | refine callP_false (.bool false) ?_ | refine aw_region rfl ?_ | refine aw_region_draw mixedF rfl (by kernel_rfl) ?_ | refine aw_ret ?_ | refine aw_skip ?_ | refine aw_exit ?_ | refine aw_label ?_); simp only [go_sem, aopsK, aopsG, aopsPK, aopsPG, aopsMK, aopsMG, aopsN, TypeDesc.isAgg, ↓reduceIte, Nat.reduceEqDiff, Nat.reduceAdd, Nat.reduceSub, Nat.reduceMul, Nat.reduceLeDiff, Nat.reduceLT, Nat.reduceBEq, Int.reduceNeg, Int.reduceLE, Int.reduceLT, Int.reduceToNat, String.reduceEq, Option.isSome_some, Option.isSome_none, Bool.false_eq_true, Bool.true_eq_false, not_true_eq_false, not_false_eq_true, true_and, and_true, and_self, List.getElem?_toArray, List.getElem?_cons_zero, List.getElem?_cons_succ, List.getElem?_nil, List.length_map, List.append_eq, List.range_zero, List.cons_append, List.nil_append, Nat.one_ne_zero, implies_true, s1, s2, c1, c2, f1, f2, o2, l1, l2, ndA]) | refine aw_seq ?_ | refine aw_block ?_ | refine aw_scope ?_ | (refine aw_cond rfl (fun h => ?_) (fun h => ?_) <;> try (exfalso; first | (simp at h; done) | (simp at h; omega))) | ((with_reducible refine And.intro ?_ ?_); focus (first | omega | (intros; simp_all; done) | (simp; omega)))
    have ht : List.take ((rest.length - k) * 8) (List.flatMap AV.cells (List.map ndA (List.drop k rest))) = List.flatMap AV.cells (List.map ndA (List.drop k rest)) := List.take_of_length_le (by rw [f2, l2]; exact Nat.le_refl _)
    refine ⟨⟨fun e he => by rw [he]; rfl, by omega⟩, ⟨by omega, Nat.le_refl _, by omega, by rw [ht]; exact o2⟩, ?_⟩
    rw [ht]
    repeat' first | ((first | refine aw_region_mix (id := 6) [.free, .free, .free, .pure 0, .eff [false], .pure 1, .free, .eff [true], .free, .eff [true], .free] mixedF rfl (by kernel_rfl) (by kernel_rfl) ?_ | refine callP_false (.bool false) ?_ | refine aw_region rfl ?_ | refine aw_region_draw mixedF rfl (by kernel_rfl) ?_ | refine aw_ret ?_ | refine aw_skip ?_ | refine aw_exit ?_ | refine aw_label ?_); simp only [go_sem, aopsK, aopsG, aopsPK, aopsPG, aopsMK, aopsMG, aopsN, TypeDesc.isAgg, ↓reduceIte, Nat.reduceEqDiff, Nat.reduceAdd, Nat.reduceSub, Nat.reduceMul, Nat.reduceLeDiff, Nat.reduceLT, Nat.reduceBEq, Int.reduceNeg, Int.reduceLE, Int.reduceLT, Int.reduceToNat, String.reduceEq, Option.isSome_some, Option.isSome_none, Bool.false_eq_true, Bool.true_eq_false, not_true_eq_false, not_false_eq_true, true_and, and_true, and_self, List.getElem?_toArray, List.getElem?_cons_zero, List.getElem?_cons_succ, List.getElem?_nil, List.length_map, List.append_eq, List.range_zero, List.cons_append, List.nil_append, Nat.one_ne_zero, implies_true]) | refine aw_seq ?_ | refine aw_block ?_ | refine aw_scope ?_ | (refine aw_cond rfl (fun h => ?_) (fun h => ?_) <;> try (exfalso; first | (simp at h; done) | (simp at h; omega))) | ((with_reducible refine And.intro ?_ ?_); focus (first | omega | (intros; simp_all; done) | (simp; omega)))
    exact doneOsl (es := (rest.take k ++ n :: rest.drop k).map ndA) (rest := []) (by omega) (by simp only [go_sem, aopsK, aopsG, aopsPK, aopsPG, aopsMK, aopsMG, aopsN, TypeDesc.isAgg, ↓reduceIte, Nat.reduceEqDiff, Nat.reduceAdd, Nat.reduceSub, Nat.reduceMul, Nat.reduceLeDiff, Nat.reduceLT, Nat.reduceBEq, Int.reduceNeg, Int.reduceLE, Int.reduceLT, Int.reduceToNat, String.reduceEq, Option.isSome_some, Option.isSome_none, Bool.false_eq_true, Bool.true_eq_false, not_true_eq_false, not_false_eq_true, true_and, and_true, and_self, List.getElem?_toArray, List.getElem?_cons_zero, List.getElem?_cons_succ, List.getElem?_nil, List.length_map, List.append_eq, List.range_zero, List.cons_append, List.nil_append, Nat.one_ne_zero, implies_true]; rfl) (by rw [List.append_nil, List.map_append, List.map_cons, List.flatMap_append, List.flatMap_cons]; rfl) (by rw [List.length_map, List.length_append, List.length_cons, l1, l2]; omega) (cells_nd _) (pur_nd _) rfl
end Go.Proofs.Ytoffonjlfomnbaa

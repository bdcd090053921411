/- Two lists held against each other; short lists. No condition. -/
import Derived.Test.YtoffonjlfomnbaaGwName
namespace Go.Gw
def longOpn (o : Opn) : Bool := decide (1000 < (o.name.length : Int)) || decide (1000 < (o.data.length : Int))
def fewOpn (l : List Opn) (n : Int) : Bool := l.all (fun x => !longOpn x) && decide ((l.length : Int) ≤ n)
def longNd (o : Nd) : Bool := decide (1000 < (o.name.length : Int)) || decide (1000 < (o.data.length : Int))
def fewNd (l : List Nd) (n : Int) : Bool := l.all (fun x => !longNd x) && decide ((l.length : Int) ≤ n)
end Go.Gw
namespace Go.Proofs.Ytoffonjlfomnbaa
open Go Go.Aw Go.Gw
set_option linter.unusedSimpArgs false
set_option maxRecDepth 20000

theorem nd_eq (a b : Nd) : (decide (a.id = b.id) && (decide (a.parent = b.parent) && (decide (a.name = b.name) && (decide (a.moved.c = b.moved.c) && decide (a.moved.r = b.moved.r) && (decide (a.data = b.data) && (decide (a.wrote.c = b.wrote.c) && decide (a.wrote.r = b.wrote.r))))))) = decide (a = b) := by
  obtain ⟨_, _, _, ⟨_, _⟩, _, ⟨_, _⟩⟩ := a
  obtain ⟨_, _, _, ⟨_, _⟩, _, ⟨_, _⟩⟩ := b
  rw [Bool.eq_iff_iff]; simp [and_assoc]
theorem op_eq (a b : Opn) : (decide (a.at_.c = b.at_.c) && decide (a.at_.r = b.at_.r) && (decide (a.kind = b.kind) && (decide (a.node = b.node) && (decide (a.parent = b.parent) && (decide (a.name = b.name) && decide (a.data = b.data)))))) = decide (a = b) := by
  obtain ⟨⟨_, _⟩, _, _, _, _, _⟩ := a
  obtain ⟨⟨_, _⟩, _, _, _, _, _⟩ := b
  rw [Bool.eq_iff_iff]; simp [and_assoc]

theorem same6_c (b1 b2 : Bool) (l m : List Nd) (H : AHeap) : FnC Try.prog 43 [.sl b1 (l.map ndA), .sl b2 (m.map ndA)] H (.bool (decide (l = m))) := by
  refine fnC_ok2 fun hok _ => ?_
  have hl := ok_sl hok
  rw [List.length_map] at hl
  refine fnC_of Try.func43 rfl (Nat.le_of_ble_eq_true rfl) ?_
  repeat' first | ((first | refine callP_false (.bool false) ?_ | refine aw_region rfl ?_ | refine aw_region_draw mixedF rfl (by kernel_rfl) ?_ | refine aw_ret ?_ | refine aw_skip ?_ | refine aw_exit ?_ | refine aw_label ?_); simp only [go_sem, ↓reduceIte, Nat.reduceEqDiff, Nat.reduceAdd, Nat.reduceSub, Nat.reduceMul, Nat.reduceLeDiff, Nat.reduceLT, Nat.reduceBEq, Int.reduceNeg, Int.reduceLE, Int.reduceLT, Int.reduceToNat, String.reduceEq]) | refine aw_seq ?_ | refine aw_block ?_ | refine aw_scope ?_ | (refine aw_cond rfl (fun h => ?_) (fun h => ?_) <;> try (exfalso; first | (simp at h; done) | (simp at h; omega))) | ((with_reducible refine And.intro ?_ ?_); focus (first | omega | (intros; simp_all; done) | (simp; omega)))
  · exact done0 (by simp only [pur_int, pur_bool, pur_str, pur_agg, pur_tup, pur_sl, pur_iface, pur_nilI, List.mem_cons, List.not_mem_nil, false_implies, forall_eq_or_imp, List.mem_map, forall_exists_index, and_imp, forall_apply_eq_imp_iff₂, or_false, forall_eq, implies_true, and_self, and_true, true_and, Go.Gw.stA, Go.Gw.opA, Go.Gw.ndA, Go.Gw.unA, Go.Gw.enA, Go.Gw.inA, Go.Gw.lgF, Go.Gw.lgA]) (.of (by rw [decide_eq_false (fun e => by subst e; simp at h)]))
  · have hlen : l.length = m.length := by simp at h; omega
    refine aw_loopS (ι := Nat) (fun i => [(0, .sl b1 (l.map ndA)), (1, .sl b2 (m.map ndA)), (5, .int .i64 i)]) (fun _ => H) (fun i => i ≤ l.length ∧ l.take i = m.take i) (fun i => l.length - i) 0 ⟨Nat.zero_le _, rfl⟩ ?_ rfl ?_
    · simp [go_sem]
    · rintro i ⟨hi, he⟩
      by_cases hlt : i < l.length
      · have hp := getD_map ndA hlt
        have hq := getD_map ndA (show i < m.length by omega)
        repeat' first | ((first | refine callP_false (.bool false) ?_ | refine aw_region rfl ?_ | refine aw_region_draw mixedF rfl (by kernel_rfl) ?_ | refine aw_ret ?_ | refine aw_skip ?_ | refine aw_exit ?_ | refine aw_label ?_); simp only [go_sem, ↓reduceIte, Nat.reduceEqDiff, Nat.reduceAdd, Nat.reduceSub, Nat.reduceMul, Nat.reduceLeDiff, Nat.reduceLT, Nat.reduceBEq, Int.reduceNeg, Int.reduceLE, Int.reduceLT, Int.reduceToNat, String.reduceEq, hp, hq, ndA]) | refine aw_seq ?_ | refine aw_block ?_ | refine aw_scope ?_ | (refine aw_cond rfl (fun h => ?_) (fun h => ?_) <;> try (exfalso; first | (simp at h; done) | (simp at h; omega))) | ((with_reducible refine And.intro ?_ ?_); focus (first | omega | (intros; simp_all; done) | (simp; omega)))
        · rw [nd_eq] at h
          have hne : l[i] ≠ m[i] := by simpa using h
          exact done0 (by simp only [pur_int, pur_bool, pur_str, pur_agg, pur_tup, pur_sl, pur_iface, pur_nilI, List.mem_cons, List.not_mem_nil, false_implies, forall_eq_or_imp, List.mem_map, forall_exists_index, and_imp, forall_apply_eq_imp_iff₂, or_false, forall_eq, implies_true, and_self, and_true, true_and, Go.Gw.stA, Go.Gw.opA, Go.Gw.ndA, Go.Gw.unA, Go.Gw.enA, Go.Gw.inA, Go.Gw.lgF, Go.Gw.lgA]) (.of (by rw [decide_eq_false (fun e => hne (by subst e; rfl))]))
        · rw [nd_eq] at h
          have heq : l[i] = m[i] := by simpa using h
          exact ⟨i + 1, ⟨hlt, by rw [List.take_succ_eq_append_getElem hlt, List.take_succ_eq_append_getElem (by omega), he, heq]⟩, by omega, by rw [wrap_i64 (by omega) (by omega)]; rfl⟩
      · have hi' : i = l.length := by omega
        subst hi'
        repeat' first | ((first | refine callP_false (.bool false) ?_ | refine aw_region rfl ?_ | refine aw_region_draw mixedF rfl (by kernel_rfl) ?_ | refine aw_ret ?_ | refine aw_skip ?_ | refine aw_exit ?_ | refine aw_label ?_); simp only [go_sem, ↓reduceIte, Nat.reduceEqDiff, Nat.reduceAdd, Nat.reduceSub, Nat.reduceMul, Nat.reduceLeDiff, Nat.reduceLT, Nat.reduceBEq, Int.reduceNeg, Int.reduceLE, Int.reduceLT, Int.reduceToNat, String.reduceEq]) | refine aw_seq ?_ | refine aw_block ?_ | refine aw_scope ?_ | (refine aw_cond rfl (fun h => ?_) (fun h => ?_) <;> try (exfalso; first | (simp at h; done) | (simp at h; omega))) | ((with_reducible refine And.intro ?_ ?_); focus (first | omega | (intros; simp_all; done) | (simp; omega)))
        exact done0 (by simp only [pur_int, pur_bool, pur_str, pur_agg, pur_tup, pur_sl, pur_iface, pur_nilI, List.mem_cons, List.not_mem_nil, false_implies, forall_eq_or_imp, List.mem_map, forall_exists_index, and_imp, forall_apply_eq_imp_iff₂, or_false, forall_eq, implies_true, and_self, and_true, true_and, Go.Gw.stA, Go.Gw.opA, Go.Gw.ndA, Go.Gw.unA, Go.Gw.enA, Go.Gw.inA, Go.Gw.lgF, Go.Gw.lgA]) (.of (by rw [decide_eq_true (by rw [List.take_length, hlen, List.take_length] at he; exact he)]))

theorem same5_c (b1 b2 : Bool) (l m : List Opn) (H : AHeap) : FnC Try.prog 26 [.sl b1 (l.map opA), .sl b2 (m.map opA)] H (.bool (decide (l = m))) := by
  refine fnC_ok2 fun hok _ => ?_
  have hl := ok_sl hok
  rw [List.length_map] at hl
  refine fnC_of Try.func26 rfl (Nat.le_of_ble_eq_true rfl) ?_
  repeat' first | ((first | refine callP_false (.bool false) ?_ | refine aw_region rfl ?_ | refine aw_region_draw mixedF rfl (by kernel_rfl) ?_ | refine aw_ret ?_ | refine aw_skip ?_ | refine aw_exit ?_ | refine aw_label ?_); simp only [go_sem, ↓reduceIte, Nat.reduceEqDiff, Nat.reduceAdd, Nat.reduceSub, Nat.reduceMul, Nat.reduceLeDiff, Nat.reduceLT, Nat.reduceBEq, Int.reduceNeg, Int.reduceLE, Int.reduceLT, Int.reduceToNat, String.reduceEq]) | refine aw_seq ?_ | refine aw_block ?_ | refine aw_scope ?_ | (refine aw_cond rfl (fun h => ?_) (fun h => ?_) <;> try (exfalso; first | (simp at h; done) | (simp at h; omega))) | ((with_reducible refine And.intro ?_ ?_); focus (first | omega | (intros; simp_all; done) | (simp; omega)))
  · exact done0 (by simp only [pur_int, pur_bool, pur_str, pur_agg, pur_tup, pur_sl, pur_iface, pur_nilI, List.mem_cons, List.not_mem_nil, false_implies, forall_eq_or_imp, List.mem_map, forall_exists_index, and_imp, forall_apply_eq_imp_iff₂, or_false, forall_eq, implies_true, and_self, and_true, true_and, Go.Gw.stA, Go.Gw.opA, Go.Gw.ndA, Go.Gw.unA, Go.Gw.enA, Go.Gw.inA, Go.Gw.lgF, Go.Gw.lgA]) (.of (by rw [decide_eq_false (fun e => by subst e; simp at h)]))
  · have hlen : l.length = m.length := by simp at h; omega
    refine aw_loopS (ι := Nat) (fun i => [(0, .sl b1 (l.map opA)), (1, .sl b2 (m.map opA)), (5, .int .i64 i)]) (fun _ => H) (fun i => i ≤ l.length ∧ l.take i = m.take i) (fun i => l.length - i) 0 ⟨Nat.zero_le _, rfl⟩ ?_ rfl ?_
    · simp [go_sem]
    · rintro i ⟨hi, he⟩
      by_cases hlt : i < l.length
      · have hp := getD_map opA hlt
        have hq := getD_map opA (show i < m.length by omega)
        repeat' first | ((first | refine callP_false (.bool false) ?_ | refine aw_region rfl ?_ | refine aw_region_draw mixedF rfl (by kernel_rfl) ?_ | refine aw_ret ?_ | refine aw_skip ?_ | refine aw_exit ?_ | refine aw_label ?_); simp only [go_sem, ↓reduceIte, Nat.reduceEqDiff, Nat.reduceAdd, Nat.reduceSub, Nat.reduceMul, Nat.reduceLeDiff, Nat.reduceLT, Nat.reduceBEq, Int.reduceNeg, Int.reduceLE, Int.reduceLT, Int.reduceToNat, String.reduceEq, hp, hq, opA]) | refine aw_seq ?_ | refine aw_block ?_ | refine aw_scope ?_ | (refine aw_cond rfl (fun h => ?_) (fun h => ?_) <;> try (exfalso; first | (simp at h; done) | (simp at h; omega))) | ((with_reducible refine And.intro ?_ ?_); focus (first | omega | (intros; simp_all; done) | (simp; omega)))
        · rw [op_eq] at h
          have hne : l[i] ≠ m[i] := by simpa using h
          exact done0 (by simp only [pur_int, pur_bool, pur_str, pur_agg, pur_tup, pur_sl, pur_iface, pur_nilI, List.mem_cons, List.not_mem_nil, false_implies, forall_eq_or_imp, List.mem_map, forall_exists_index, and_imp, forall_apply_eq_imp_iff₂, or_false, forall_eq, implies_true, and_self, and_true, true_and, Go.Gw.stA, Go.Gw.opA, Go.Gw.ndA, Go.Gw.unA, Go.Gw.enA, Go.Gw.inA, Go.Gw.lgF, Go.Gw.lgA]) (.of (by rw [decide_eq_false (fun e => hne (by subst e; rfl))]))
        · rw [op_eq] at h
          have heq : l[i] = m[i] := by simpa using h
          exact ⟨i + 1, ⟨hlt, by rw [List.take_succ_eq_append_getElem hlt, List.take_succ_eq_append_getElem (by omega), he, heq]⟩, by omega, by rw [wrap_i64 (by omega) (by omega)]; rfl⟩
      · have hi' : i = l.length := by omega
        subst hi'
        repeat' first | ((first | refine callP_false (.bool false) ?_ | refine aw_region rfl ?_ | refine aw_region_draw mixedF rfl (by kernel_rfl) ?_ | refine aw_ret ?_ | refine aw_skip ?_ | refine aw_exit ?_ | refine aw_label ?_); simp only [go_sem, ↓reduceIte, Nat.reduceEqDiff, Nat.reduceAdd, Nat.reduceSub, Nat.reduceMul, Nat.reduceLeDiff, Nat.reduceLT, Nat.reduceBEq, Int.reduceNeg, Int.reduceLE, Int.reduceLT, Int.reduceToNat, String.reduceEq]) | refine aw_seq ?_ | refine aw_block ?_ | refine aw_scope ?_ | (refine aw_cond rfl (fun h => ?_) (fun h => ?_) <;> try (exfalso; first | (simp at h; done) | (simp at h; omega))) | ((with_reducible refine And.intro ?_ ?_); focus (first | omega | (intros; simp_all; done) | (simp; omega)))
        exact done0 (by simp only [pur_int, pur_bool, pur_str, pur_agg, pur_tup, pur_sl, pur_iface, pur_nilI, List.mem_cons, List.not_mem_nil, false_implies, forall_eq_or_imp, List.mem_map, forall_exists_index, and_imp, forall_apply_eq_imp_iff₂, or_false, forall_eq, implies_true, and_self, and_true, true_and, Go.Gw.stA, Go.Gw.opA, Go.Gw.ndA, Go.Gw.unA, Go.Gw.enA, Go.Gw.inA, Go.Gw.lgF, Go.Gw.lgA]) (.of (by rw [decide_eq_true (by rw [List.take_length, hlen, List.take_length] at he; exact he)]))

theorem nums6_c (b1 b2 : Bool) (l m : List Int) (H : AHeap) : FnC Try.prog 40 [.sl b1 (l.map inA), .sl b2 (m.map inA)] H (.bool (decide (l = m))) := by
  refine fnC_ok2 fun hok _ => ?_
  have hl := ok_sl hok
  rw [List.length_map] at hl
  refine fnC_of Try.func40 rfl (Nat.le_of_ble_eq_true rfl) ?_
  repeat' first | ((first | refine callP_false (.bool false) ?_ | refine aw_region rfl ?_ | refine aw_region_draw mixedF rfl (by kernel_rfl) ?_ | refine aw_ret ?_ | refine aw_skip ?_ | refine aw_exit ?_ | refine aw_label ?_); simp only [go_sem, ↓reduceIte, Nat.reduceEqDiff, Nat.reduceAdd, Nat.reduceSub, Nat.reduceMul, Nat.reduceLeDiff, Nat.reduceLT, Nat.reduceBEq, Int.reduceNeg, Int.reduceLE, Int.reduceLT, Int.reduceToNat, String.reduceEq]) | refine aw_seq ?_ | refine aw_block ?_ | refine aw_scope ?_ | (refine aw_cond rfl (fun h => ?_) (fun h => ?_) <;> try (exfalso; first | (simp at h; done) | (simp at h; omega))) | ((with_reducible refine And.intro ?_ ?_); focus (first | omega | (intros; simp_all; done) | (simp; omega)))
  · exact done0 (by simp only [pur_int, pur_bool, pur_str, pur_agg, pur_tup, pur_sl, pur_iface, pur_nilI, List.mem_cons, List.not_mem_nil, false_implies, forall_eq_or_imp, List.mem_map, forall_exists_index, and_imp, forall_apply_eq_imp_iff₂, or_false, forall_eq, implies_true, and_self, and_true, true_and, Go.Gw.stA, Go.Gw.opA, Go.Gw.ndA, Go.Gw.unA, Go.Gw.enA, Go.Gw.inA, Go.Gw.lgF, Go.Gw.lgA]) (.of (by rw [decide_eq_false (fun e => by subst e; simp at h)]))
  · have hlen : l.length = m.length := by simp at h; omega
    refine aw_loopS (ι := Nat) (fun i => [(0, .sl b1 (l.map inA)), (1, .sl b2 (m.map inA)), (5, .int .i64 i)]) (fun _ => H) (fun i => i ≤ l.length ∧ l.take i = m.take i) (fun i => l.length - i) 0 ⟨Nat.zero_le _, rfl⟩ ?_ rfl ?_
    · simp [go_sem]
    · rintro i ⟨hi, he⟩
      by_cases hlt : i < l.length
      · have hp := getD_map inA hlt
        have hq := getD_map inA (show i < m.length by omega)
        repeat' first | ((first | refine callP_false (.bool false) ?_ | refine aw_region rfl ?_ | refine aw_region_draw mixedF rfl (by kernel_rfl) ?_ | refine aw_ret ?_ | refine aw_skip ?_ | refine aw_exit ?_ | refine aw_label ?_); simp only [go_sem, ↓reduceIte, Nat.reduceEqDiff, Nat.reduceAdd, Nat.reduceSub, Nat.reduceMul, Nat.reduceLeDiff, Nat.reduceLT, Nat.reduceBEq, Int.reduceNeg, Int.reduceLE, Int.reduceLT, Int.reduceToNat, String.reduceEq, hp, hq, inA]) | refine aw_seq ?_ | refine aw_block ?_ | refine aw_scope ?_ | (refine aw_cond rfl (fun h => ?_) (fun h => ?_) <;> try (exfalso; first | (simp at h; done) | (simp at h; omega))) | ((with_reducible refine And.intro ?_ ?_); focus (first | omega | (intros; simp_all; done) | (simp; omega)))
        · skip
          have hne : l[i] ≠ m[i] := by simpa using h
          exact done0 (by simp only [pur_int, pur_bool, pur_str, pur_agg, pur_tup, pur_sl, pur_iface, pur_nilI, List.mem_cons, List.not_mem_nil, false_implies, forall_eq_or_imp, List.mem_map, forall_exists_index, and_imp, forall_apply_eq_imp_iff₂, or_false, forall_eq, implies_true, and_self, and_true, true_and, Go.Gw.stA, Go.Gw.opA, Go.Gw.ndA, Go.Gw.unA, Go.Gw.enA, Go.Gw.inA, Go.Gw.lgF, Go.Gw.lgA]) (.of (by rw [decide_eq_false (fun e => hne (by subst e; rfl))]))
        · skip
          have heq : l[i] = m[i] := by simpa using h
          exact ⟨i + 1, ⟨hlt, by rw [List.take_succ_eq_append_getElem hlt, List.take_succ_eq_append_getElem (by omega), he, heq]⟩, by omega, by rw [wrap_i64 (by omega) (by omega)]; rfl⟩
      · have hi' : i = l.length := by omega
        subst hi'
        repeat' first | ((first | refine callP_false (.bool false) ?_ | refine aw_region rfl ?_ | refine aw_region_draw mixedF rfl (by kernel_rfl) ?_ | refine aw_ret ?_ | refine aw_skip ?_ | refine aw_exit ?_ | refine aw_label ?_); simp only [go_sem, ↓reduceIte, Nat.reduceEqDiff, Nat.reduceAdd, Nat.reduceSub, Nat.reduceMul, Nat.reduceLeDiff, Nat.reduceLT, Nat.reduceBEq, Int.reduceNeg, Int.reduceLE, Int.reduceLT, Int.reduceToNat, String.reduceEq]) | refine aw_seq ?_ | refine aw_block ?_ | refine aw_scope ?_ | (refine aw_cond rfl (fun h => ?_) (fun h => ?_) <;> try (exfalso; first | (simp at h; done) | (simp at h; omega))) | ((with_reducible refine And.intro ?_ ?_); focus (first | omega | (intros; simp_all; done) | (simp; omega)))
        exact done0 (by simp only [pur_int, pur_bool, pur_str, pur_agg, pur_tup, pur_sl, pur_iface, pur_nilI, List.mem_cons, List.not_mem_nil, false_implies, forall_eq_or_imp, List.mem_map, forall_exists_index, and_imp, forall_apply_eq_imp_iff₂, or_false, forall_eq, implies_true, and_self, and_true, true_and, Go.Gw.stA, Go.Gw.opA, Go.Gw.ndA, Go.Gw.unA, Go.Gw.enA, Go.Gw.inA, Go.Gw.lgF, Go.Gw.lgA]) (.of (by rw [decide_eq_true (by rw [List.take_length, hlen, List.take_length] at he; exact he)]))

theorem few5_c (b1 : Bool) (l : List Opn) (n : Int) (H : AHeap) : FnC Try.prog 21 [.sl b1 (l.map opA), .int .i64 n] H (.bool (fewOpn l n)) := by
  refine fnC_ok2 fun hok _ => ?_
  have hl := ok_sl hok
  rw [List.length_map] at hl
  refine fnC_of Try.func21 rfl (Nat.le_of_ble_eq_true rfl) ?_
  repeat' first | ((first | refine callP_false (.bool false) ?_ | refine aw_region rfl ?_ | refine aw_region_draw mixedF rfl (by kernel_rfl) ?_ | refine aw_ret ?_ | refine aw_skip ?_ | refine aw_exit ?_ | refine aw_label ?_); simp only [go_sem, ↓reduceIte, Nat.reduceEqDiff, Nat.reduceAdd, Nat.reduceSub, Nat.reduceMul, Nat.reduceLeDiff, Nat.reduceLT, Nat.reduceBEq, Int.reduceNeg, Int.reduceLE, Int.reduceLT, Int.reduceToNat, String.reduceEq]) | refine aw_seq ?_ | refine aw_block ?_ | refine aw_scope ?_ | (refine aw_cond rfl (fun h => ?_) (fun h => ?_) <;> try (exfalso; first | (simp at h; done) | (simp at h; omega))) | ((with_reducible refine And.intro ?_ ?_); focus (first | omega | (intros; simp_all; done) | (simp; omega)))
  refine aw_loopS (ι := Nat) (fun i => [(0, .sl b1 (l.map opA)), (1, .int .i64 n), (5, .int .i64 i)]) (fun _ => H) (fun i => i ≤ l.length ∧ ∀ x ∈ l.take i, longOpn x = false) (fun i => l.length - i) 0 ⟨Nat.zero_le _, by simp⟩ ?_ rfl ?_
  · simp [go_sem]
  · rintro i ⟨hi, he⟩
    by_cases hlt : i < l.length
    · have hp := getD_map opA hlt
      repeat' first | ((first | refine callP_false (.bool false) ?_ | refine aw_region rfl ?_ | refine aw_region_draw mixedF rfl (by kernel_rfl) ?_ | refine aw_ret ?_ | refine aw_skip ?_ | refine aw_exit ?_ | refine aw_label ?_); simp only [go_sem, ↓reduceIte, Nat.reduceEqDiff, Nat.reduceAdd, Nat.reduceSub, Nat.reduceMul, Nat.reduceLeDiff, Nat.reduceLT, Nat.reduceBEq, Int.reduceNeg, Int.reduceLE, Int.reduceLT, Int.reduceToNat, String.reduceEq, hp, opA]) | refine aw_seq ?_ | refine aw_block ?_ | refine aw_scope ?_ | (refine aw_cond rfl (fun h => ?_) (fun h => ?_) <;> try (exfalso; first | (simp at h; done) | (simp at h; omega))) | ((with_reducible refine And.intro ?_ ?_); focus (first | omega | (intros; simp_all; done) | (simp; omega)))
      · exact done0 (by simp only [pur_int, pur_bool, pur_str, pur_agg, pur_tup, pur_sl, pur_iface, pur_nilI, List.mem_cons, List.not_mem_nil, false_implies, forall_eq_or_imp, List.mem_map, forall_exists_index, and_imp, forall_apply_eq_imp_iff₂, or_false, forall_eq, implies_true, and_self, and_true, true_and, Go.Gw.stA, Go.Gw.opA, Go.Gw.ndA, Go.Gw.unA, Go.Gw.enA, Go.Gw.inA, Go.Gw.lgF, Go.Gw.lgA]) (.of (by
          have : fewOpn l n = false := by
            unfold fewOpn
            rw [Bool.and_eq_false_iff]
            left
            rw [Bool.eq_false_iff]
            intro q
            have q2 := List.all_eq_true.1 q l[i] (List.getElem_mem _)
            have h' : longOpn l[i] = true := h
            rw [h'] at q2; cases q2
          rw [this]))
      · refine ⟨i + 1, ⟨hlt, fun x hx => ?_⟩, by omega, by rw [wrap_i64 (by omega) (by omega)]; rfl⟩
        rw [List.take_succ_eq_append_getElem hlt, List.mem_append] at hx
        rcases hx with hx | hx
        · exact he x hx
        · simp at hx; subst hx; exact h
    · have hi' : i = l.length := by omega
      subst hi'
      repeat' first | ((first | refine callP_false (.bool false) ?_ | refine aw_region rfl ?_ | refine aw_region_draw mixedF rfl (by kernel_rfl) ?_ | refine aw_ret ?_ | refine aw_skip ?_ | refine aw_exit ?_ | refine aw_label ?_); simp only [go_sem, ↓reduceIte, Nat.reduceEqDiff, Nat.reduceAdd, Nat.reduceSub, Nat.reduceMul, Nat.reduceLeDiff, Nat.reduceLT, Nat.reduceBEq, Int.reduceNeg, Int.reduceLE, Int.reduceLT, Int.reduceToNat, String.reduceEq]) | refine aw_seq ?_ | refine aw_block ?_ | refine aw_scope ?_ | (refine aw_cond rfl (fun h => ?_) (fun h => ?_) <;> try (exfalso; first | (simp at h; done) | (simp at h; omega))) | ((with_reducible refine And.intro ?_ ?_); focus (first | omega | (intros; simp_all; done) | (simp; omega)))
      refine done0 (by simp only [pur_int, pur_bool, pur_str, pur_agg, pur_tup, pur_sl, pur_iface, pur_nilI, List.mem_cons, List.not_mem_nil, false_implies, forall_eq_or_imp, List.mem_map, forall_exists_index, and_imp, forall_apply_eq_imp_iff₂, or_false, forall_eq, implies_true, and_self, and_true, true_and, Go.Gw.stA, Go.Gw.opA, Go.Gw.ndA, Go.Gw.unA, Go.Gw.enA, Go.Gw.inA, Go.Gw.lgF, Go.Gw.lgA]) (.of ?_)
      rw [List.take_length] at he
      have : l.all (fun x => !longOpn x) = true := List.all_eq_true.2 fun x hx => by rw [he x hx]; rfl
      rw [fewOpn, this, Bool.true_and]

theorem few6_c (b1 : Bool) (l : List Nd) (n : Int) (H : AHeap) : FnC Try.prog 33 [.sl b1 (l.map ndA), .int .i64 n] H (.bool (fewNd l n)) := by
  refine fnC_ok2 fun hok _ => ?_
  have hl := ok_sl hok
  rw [List.length_map] at hl
  refine fnC_of Try.func33 rfl (Nat.le_of_ble_eq_true rfl) ?_
  repeat' first | ((first | refine callP_false (.bool false) ?_ | refine aw_region rfl ?_ | refine aw_region_draw mixedF rfl (by kernel_rfl) ?_ | refine aw_ret ?_ | refine aw_skip ?_ | refine aw_exit ?_ | refine aw_label ?_); simp only [go_sem, ↓reduceIte, Nat.reduceEqDiff, Nat.reduceAdd, Nat.reduceSub, Nat.reduceMul, Nat.reduceLeDiff, Nat.reduceLT, Nat.reduceBEq, Int.reduceNeg, Int.reduceLE, Int.reduceLT, Int.reduceToNat, String.reduceEq]) | refine aw_seq ?_ | refine aw_block ?_ | refine aw_scope ?_ | (refine aw_cond rfl (fun h => ?_) (fun h => ?_) <;> try (exfalso; first | (simp at h; done) | (simp at h; omega))) | ((with_reducible refine And.intro ?_ ?_); focus (first | omega | (intros; simp_all; done) | (simp; omega)))
  refine aw_loopS (ι := Nat) (fun i => [(0, .sl b1 (l.map ndA)), (1, .int .i64 n), (5, .int .i64 i)]) (fun _ => H) (fun i => i ≤ l.length ∧ ∀ x ∈ l.take i, longNd x = false) (fun i => l.length - i) 0 ⟨Nat.zero_le _, by simp⟩ ?_ rfl ?_
  · simp [go_sem]
  · rintro i ⟨hi, he⟩
    by_cases hlt : i < l.length
    · have hp := getD_map ndA hlt
      repeat' first | ((first | refine callP_false (.bool false) ?_ | refine aw_region rfl ?_ | refine aw_region_draw mixedF rfl (by kernel_rfl) ?_ | refine aw_ret ?_ | refine aw_skip ?_ | refine aw_exit ?_ | refine aw_label ?_); simp only [go_sem, ↓reduceIte, Nat.reduceEqDiff, Nat.reduceAdd, Nat.reduceSub, Nat.reduceMul, Nat.reduceLeDiff, Nat.reduceLT, Nat.reduceBEq, Int.reduceNeg, Int.reduceLE, Int.reduceLT, Int.reduceToNat, String.reduceEq, hp, ndA]) | refine aw_seq ?_ | refine aw_block ?_ | refine aw_scope ?_ | (refine aw_cond rfl (fun h => ?_) (fun h => ?_) <;> try (exfalso; first | (simp at h; done) | (simp at h; omega))) | ((with_reducible refine And.intro ?_ ?_); focus (first | omega | (intros; simp_all; done) | (simp; omega)))
      · exact done0 (by simp only [pur_int, pur_bool, pur_str, pur_agg, pur_tup, pur_sl, pur_iface, pur_nilI, List.mem_cons, List.not_mem_nil, false_implies, forall_eq_or_imp, List.mem_map, forall_exists_index, and_imp, forall_apply_eq_imp_iff₂, or_false, forall_eq, implies_true, and_self, and_true, true_and, Go.Gw.stA, Go.Gw.opA, Go.Gw.ndA, Go.Gw.unA, Go.Gw.enA, Go.Gw.inA, Go.Gw.lgF, Go.Gw.lgA]) (.of (by
          have : fewNd l n = false := by
            unfold fewNd
            rw [Bool.and_eq_false_iff]
            left
            rw [Bool.eq_false_iff]
            intro q
            have q2 := List.all_eq_true.1 q l[i] (List.getElem_mem _)
            have h' : longNd l[i] = true := h
            rw [h'] at q2; cases q2
          rw [this]))
      · refine ⟨i + 1, ⟨hlt, fun x hx => ?_⟩, by omega, by rw [wrap_i64 (by omega) (by omega)]; rfl⟩
        rw [List.take_succ_eq_append_getElem hlt, List.mem_append] at hx
        rcases hx with hx | hx
        · exact he x hx
        · simp at hx; subst hx; exact h
    · have hi' : i = l.length := by omega
      subst hi'
      repeat' first | ((first | refine callP_false (.bool false) ?_ | refine aw_region rfl ?_ | refine aw_region_draw mixedF rfl (by kernel_rfl) ?_ | refine aw_ret ?_ | refine aw_skip ?_ | refine aw_exit ?_ | refine aw_label ?_); simp only [go_sem, ↓reduceIte, Nat.reduceEqDiff, Nat.reduceAdd, Nat.reduceSub, Nat.reduceMul, Nat.reduceLeDiff, Nat.reduceLT, Nat.reduceBEq, Int.reduceNeg, Int.reduceLE, Int.reduceLT, Int.reduceToNat, String.reduceEq]) | refine aw_seq ?_ | refine aw_block ?_ | refine aw_scope ?_ | (refine aw_cond rfl (fun h => ?_) (fun h => ?_) <;> try (exfalso; first | (simp at h; done) | (simp at h; omega))) | ((with_reducible refine And.intro ?_ ?_); focus (first | omega | (intros; simp_all; done) | (simp; omega)))
      refine done0 (by simp only [pur_int, pur_bool, pur_str, pur_agg, pur_tup, pur_sl, pur_iface, pur_nilI, List.mem_cons, List.not_mem_nil, false_implies, forall_eq_or_imp, List.mem_map, forall_exists_index, and_imp, forall_apply_eq_imp_iff₂, or_false, forall_eq, implies_true, and_self, and_true, true_and, Go.Gw.stA, Go.Gw.opA, Go.Gw.ndA, Go.Gw.unA, Go.Gw.enA, Go.Gw.inA, Go.Gw.lgF, Go.Gw.lgA]) (.of ?_)
      rw [List.take_length] at he
      have : l.all (fun x => !longNd x) = true := List.all_eq_true.2 fun x hx => by rw [he x hx]; rfl
      rw [fewNd, this, Bool.true_and]

end Go.Proofs.Ytoffonjlfomnbaa

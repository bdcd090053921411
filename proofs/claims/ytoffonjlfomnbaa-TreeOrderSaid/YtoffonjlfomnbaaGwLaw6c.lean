/- TreeOrder, walked. No condition. -/
import Derived.Test.YtoffonjlfomnbaaGwLaw6b
namespace Go.Gw
open Go Go.Aw Go.Proofs.Ytoffonjlfomnbaa

theorem find_uniq {m : List Opn} (hu : ∀ x ∈ m, ∀ y ∈ m, x.at_ = y.at_ → x = y) (x : Opn) : m.find? (fun y => decide (y.at_ = x.at_)) = some x ↔ x ∈ m := by
  constructor
  · exact List.mem_of_find?_eq_some
  · intro hx
    cases h : m.find? (fun y => decide (y.at_ = x.at_)) with
    | none =>
      have := List.find?_eq_none.1 h x hx
      simp at this
    | some y =>
      have h1 := List.mem_of_find?_eq_some h
      have h2 := List.find?_some h
      rw [hu y h1 x hx (by simpa using h2)]
theorem rSort_uniq {l : List Opn} (hu : ∀ x ∈ l, ∀ y ∈ l, x.at_ = y.at_ → x = y) (x : Opn) : x ∈ rSort l ↔ x ∈ l ∧ opOk x = true := by
  rw [(rSort_mem l).2, find_uniq (fun x hx y hy => hu x (List.mem_filter.1 hx).1 y (List.mem_filter.1 hy).1), List.mem_filter]

def pick2 (o : Opn) : List Opn := if opOk o = true then [o, o] else []
def turnT (l : List Opn) (w : Nat) (i : Nat) : List Opn := (List.range i).flatMap fun j => pick2 (l.getD ((j + w) % l.length) op0)
theorem turnT_succ (l : List Opn) (w i : Nat) : turnT l w (i + 1) = turnT l w i ++ pick2 (l.getD ((i + w) % l.length) op0) := by
  simp [turnT, List.range_succ]
theorem pick2_len (o : Opn) : (pick2 o).length ≤ 2 := by unfold pick2; split <;> simp
theorem turnT_len (l : List Opn) (w i : Nat) : (turnT l w i).length ≤ 2 * i := by
  induction i with
  | zero => simp [turnT]
  | succ i ih => rw [turnT_succ, List.length_append]; have := pick2_len (l.getD ((i + w) % l.length) op0); omega
theorem turn_back {i n w : Nat} (h : i < n) : ((i + (n - w % n)) % n + w) % n = i := by
  have h1 : w % n < n := Nat.mod_lt _ (by omega)
  rw [Nat.mod_add_mod]
  have h2 := Nat.div_add_mod w n
  have e : i + (n - w % n) + w = i + n * (w / n + 1) := by rw [Nat.mul_add, Nat.mul_one]; omega
  rw [e, Nat.add_mul_mod_self_left, Nat.mod_eq_of_lt h]
theorem turnT_mem (l : List Opn) (w : Nat) (x : Opn) : x ∈ turnT l w l.length ↔ x ∈ l ∧ opOk x = true := by
  unfold turnT
  rw [List.mem_flatMap]
  constructor
  · rintro ⟨j, hj, hx⟩
    rw [List.mem_range] at hj
    have hm : (j + w) % l.length < l.length := Nat.mod_lt _ (by omega)
    rw [List.getD_eq_getElem?_getD, List.getElem?_eq_getElem hm] at hx
    simp only [Option.getD_some, pick2] at hx
    split at hx
    · rename_i ho
      simp only [List.mem_cons, List.not_mem_nil, or_false, or_self] at hx
      rw [hx]; exact ⟨List.getElem_mem _, ho⟩
    · cases hx
  · rintro ⟨hx, ho⟩
    obtain ⟨i, hi, rfl⟩ := List.getElem_of_mem hx
    have hb := turn_back (w := w) hi
    refine ⟨(i + (l.length - w % l.length)) % l.length, List.mem_range.2 (Nat.mod_lt _ (by omega)), ?_⟩
    rw [hb, List.getD_eq_getElem?_getD, List.getElem?_eq_getElem hi]
    simp only [Option.getD_some, pick2, if_pos ho]
    simp
theorem fold_turn {l : List Opn} (w : Nat) (hu : ∀ i (hi : i < l.length), ∀ k (hk : k < i), (l[k]'(by omega)).at_ = l[i].at_ → l[k]'(by omega) = l[i]) : foldL (turnT l w l.length) = foldL l := by
  have key : ∀ x ∈ l, ∀ y ∈ l, x.at_ = y.at_ → x = y := by
    intro x hx y hy he
    obtain ⟨i, hi, rfl⟩ := List.getElem_of_mem hx
    obtain ⟨k, hk, rfl⟩ := List.getElem_of_mem hy
    rcases Nat.lt_trichotomy i k with q | q | q
    · exact hu k hk i q he
    · subst q; rfl
    · exact (hu i hi k q he.symm).symm
  have e : rSort (turnT l w l.length) = rSort l := by
    refine srt_ext (rSort_mem _).1 (rSort_mem _).1 fun x => ?_
    rw [rSort_uniq key, rSort_uniq (fun x hx y hy => key x ((turnT_mem l w x).1 hx).1 y ((turnT_mem l w y).1 hy).1), turnT_mem]
    exact ⟨fun h => h.1, fun h => ⟨h, h.2⟩⟩
  unfold foldL
  rw [e]
end Go.Gw
namespace Go.Proofs.Ytoffonjlfomnbaa
open Go Go.Aw Go.Gw
set_option linter.unusedSimpArgs false
set_option maxRecDepth 20000
set_option maxHeartbeats 4000000

theorem torder_c (b : Bool) (l : List Opn) (w : Int) (H : AHeap) : FnC Try.prog 12 [.sl b (l.map opA), .int .u8 w] H (.bool true) := by
  refine fnC_ok2 fun hok1 hok2 => ?_
  have hw := ok_u8 hok2
  have hl := ok_sl hok1
  rw [List.length_map] at hl
  refine fnC_of Try.func12 rfl (Nat.le_of_ble_eq_true rfl) ?_
  have hfew := few5_c b l 100
  repeat' first | ((first | refine callK_fn (awake6_c _) callOk32F ?_ | refine callP_fn (awake6_c _) callOk32F ?_ | refine callM_fn (fun _ => awake6_c _) callOk32F ?_ | refine callK_fn (hfew _) callOk21F ?_ | refine callP_fn (hfew _) callOk21F ?_ | refine callM_fn (fun _ => hfew _) callOk21F ?_ | refine callP_false (.bool false) ?_ | refine aw_region rfl ?_ | refine aw_region_draw mixedF rfl (by kernel_rfl) ?_ | refine aw_ret ?_ | refine aw_skip ?_ | refine aw_exit ?_ | refine aw_label ?_); simp only [go_sem, aopsK, aopsG, aopsPK, aopsPG, aopsMK, aopsMG, aopsN, TypeDesc.isAgg, ↓reduceIte, Nat.reduceEqDiff, Nat.reduceAdd, Nat.reduceSub, Nat.reduceMul, Nat.reduceLeDiff, Nat.reduceLT, Nat.reduceBEq, Int.reduceNeg, Int.reduceLE, Int.reduceLT, Int.reduceToNat, String.reduceEq, Option.isSome_some, Option.isSome_none, Bool.false_eq_true, Bool.true_eq_false, not_true_eq_false, not_false_eq_true, true_and, and_true, and_self, List.getElem?_toArray, List.getElem?_cons_zero, List.getElem?_cons_succ, List.getElem?_nil, List.length_map, List.append_eq, List.range_zero, List.cons_append, List.nil_append, Nat.one_ne_zero, implies_true]) | refine aw_seq ?_ | refine aw_block ?_ | refine aw_scope ?_ | (refine aw_cond rfl (fun h => ?_) (fun h => ?_) <;> try (exfalso; first | (simp at h; done) | (simp at h; omega))) | ((with_reducible refine And.intro ?_ ?_); focus (first | omega | (intros; simp_all; done) | (simp; omega)))
  · exact done0 (by simp only [pur_int, pur_bool, pur_str, pur_agg, pur_tup, pur_sl, pur_iface, pur_nilI, List.mem_cons, List.not_mem_nil, false_implies, forall_eq_or_imp, List.mem_map, forall_exists_index, and_imp, forall_apply_eq_imp_iff₂, or_false, forall_eq, implies_true, and_self, and_true, true_and, Go.Gw.stA, Go.Gw.opA, Go.Gw.ndA, Go.Gw.unA, Go.Gw.enA, Go.Gw.inA, Go.Gw.lgF, Go.Gw.lgA]) (.refl _)
  have hfe : fewOpn l 100 = true := by simpa using h
  obtain ⟨hS, hl60⟩ := few_S hfe
  obtain ⟨u, rfl⟩ : ∃ u : Nat, w = (u : Int) := ⟨w.toNat, by omega⟩
  refine aw_void 6 7 rfl ?_
  refine aw_loopS (ι := Nat × AHeap × Nat) (fun x => [(0, .sl b (l.map opA)), (1, .int .u8 u), (5, .bool true), (6, .osl 7 H.length x.2.2 0 (turnT l u x.1).length (turnT l u x.1).length), (7, .int .i64 x.1)]) (fun x => x.2.1)
    (fun x => x.1 ≤ l.length ∧ (∀ i (hi : i < l.length), i < x.1 → ∀ k (hk : k < i), (l[k]'(by omega)).at_ = l[i].at_ → l[k]'(by omega) = l[i]) ∧ hget x.2.1 H.length = .cells x.2.2 (((turnT l u x.1).map opA).flatMap AV.cells) ∧ x.2.2 ≠ 0 ∧ ∃ M, x.2.1 = H ++ M)
    (fun x => l.length - x.1) (0, H ++ [.cells 1 []], 1) ⟨Nat.zero_le _, fun i hi h => by omega, by simp only [go_sem, aopsK, aopsG, aopsPK, aopsPG, aopsMK, aopsMG, aopsN, TypeDesc.isAgg, ↓reduceIte, Nat.reduceEqDiff, Nat.reduceAdd, Nat.reduceSub, Nat.reduceMul, Nat.reduceLeDiff, Nat.reduceLT, Nat.reduceBEq, Int.reduceNeg, Int.reduceLE, Int.reduceLT, Int.reduceToNat, String.reduceEq, Option.isSome_some, Option.isSome_none, Bool.false_eq_true, Bool.true_eq_false, not_true_eq_false, not_false_eq_true, true_and, and_true, and_self, List.getElem?_toArray, List.getElem?_cons_zero, List.getElem?_cons_succ, List.getElem?_nil, List.length_map, List.append_eq, List.range_zero, List.cons_append, List.nil_append, Nat.one_ne_zero, implies_true]; rfl, Nat.one_ne_zero, ⟨_, rfl⟩⟩ ?_ rfl ?_
  · simp [go_sem]
    rfl
  · rintro ⟨i, X, ver⟩ ⟨hi, hu, r1, rv, rP⟩
    simp only at hi hu r1 rv rP ⊢
    have hX1 : H.length < X.length := hget_lt r1 trivial
    have r1' := fun M => hget_appL r1 trivial M
    have qs := fun M b => hset_appL hX1 M b
    have hfl := flat_op_len (turnT l u i)
    have htl := turnT_len l u i
    by_cases hlt : i < l.length
    · have hli : decide ((i : Int) < (l.length : Int)) = true := decide_eq_true (by omega)
      have hpi := getD_map opA hlt
      repeat' first | ((first | refine callP_false (.bool false) ?_ | refine aw_region rfl ?_ | refine aw_region_draw mixedF rfl (by kernel_rfl) ?_ | refine aw_ret ?_ | refine aw_skip ?_ | refine aw_exit ?_ | refine aw_label ?_); simp only [go_sem, aopsK, aopsG, aopsPK, aopsPG, aopsMK, aopsMG, aopsN, TypeDesc.isAgg, ↓reduceIte, Nat.reduceEqDiff, Nat.reduceAdd, Nat.reduceSub, Nat.reduceMul, Nat.reduceLeDiff, Nat.reduceLT, Nat.reduceBEq, Int.reduceNeg, Int.reduceLE, Int.reduceLT, Int.reduceToNat, String.reduceEq, Option.isSome_some, Option.isSome_none, Bool.false_eq_true, Bool.true_eq_false, not_true_eq_false, not_false_eq_true, true_and, and_true, and_self, List.getElem?_toArray, List.getElem?_cons_zero, List.getElem?_cons_succ, List.getElem?_nil, List.length_map, List.append_eq, List.range_zero, List.cons_append, List.nil_append, Nat.one_ne_zero, implies_true, hli]) | refine aw_seq ?_ | refine aw_block ?_ | refine aw_scope ?_ | (refine aw_cond rfl (fun h => ?_) (fun h => ?_) <;> try (exfalso; first | (simp at h; done) | (simp at h; omega))) | ((with_reducible refine And.intro ?_ ?_); focus (first | omega | (intros; simp_all; done) | (simp; omega)))
      refine aw_loopS (ι := Nat) (fun k => [(0, .sl b (l.map opA)), (1, .int .u8 u), (5, .bool true), (6, .osl 7 H.length ver 0 (turnT l u i).length (turnT l u i).length), (7, .int .i64 i), (8, .int .i64 k)]) (fun _ => X)
        (fun k => k ≤ i ∧ ∀ j (hj : j < k) (hj2 : j < l.length), l[j].at_ = l[i].at_ → l[j] = l[i]) (fun k => i - k) 0 ⟨Nat.zero_le _, fun j hj => by omega⟩ ?_ rfl ?_
      · simp [go_sem]
      · rintro k ⟨hk, hku⟩
        by_cases hkt : k < i
        · have hki : decide ((k : Int) < (i : Int)) = true := decide_eq_true (by omega)
          have hpk := getD_map opA (show k < l.length by omega)
          repeat' first | ((first | refine callP_false (.bool false) ?_ | refine aw_region rfl ?_ | refine aw_region_draw mixedF rfl (by kernel_rfl) ?_ | refine aw_ret ?_ | refine aw_skip ?_ | refine aw_exit ?_ | refine aw_label ?_); simp only [go_sem, aopsK, aopsG, aopsPK, aopsPG, aopsMK, aopsMG, aopsN, TypeDesc.isAgg, ↓reduceIte, Nat.reduceEqDiff, Nat.reduceAdd, Nat.reduceSub, Nat.reduceMul, Nat.reduceLeDiff, Nat.reduceLT, Nat.reduceBEq, Int.reduceNeg, Int.reduceLE, Int.reduceLT, Int.reduceToNat, String.reduceEq, Option.isSome_some, Option.isSome_none, Bool.false_eq_true, Bool.true_eq_false, not_true_eq_false, not_false_eq_true, true_and, and_true, and_self, List.getElem?_toArray, List.getElem?_cons_zero, List.getElem?_cons_succ, List.getElem?_nil, List.length_map, List.append_eq, List.range_zero, List.cons_append, List.nil_append, Nat.one_ne_zero, implies_true, hki, hpi, hpk, opA]) | refine aw_seq ?_ | refine aw_block ?_ | refine aw_scope ?_ | (refine aw_cond rfl (fun h => ?_) (fun h => ?_) <;> try (exfalso; first | (simp at h; done) | (simp at h; omega))) | ((with_reducible refine And.intro ?_ ?_); focus (first | omega | (intros; simp_all; done) | (simp; omega)))
          · obtain ⟨M, hM⟩ := rP
            exact doneG0 hM.symm (by simp only [pur_int, pur_bool, pur_str, pur_agg, pur_tup, pur_sl, pur_iface, pur_nilI, List.mem_cons, List.not_mem_nil, false_implies, forall_eq_or_imp, List.mem_map, forall_exists_index, and_imp, forall_apply_eq_imp_iff₂, or_false, forall_eq, implies_true, and_self, and_true, true_and, Go.Gw.stA, Go.Gw.opA, Go.Gw.ndA, Go.Gw.unA, Go.Gw.enA, Go.Gw.inA, Go.Gw.lgF, Go.Gw.lgA]) (.refl _)
          · rw [op_eq] at h
            refine ⟨k + 1, ⟨hkt, fun j hj hj2 he => ?_⟩, by omega, congrArg _ (wrap_succ (n := l.length) (by omega) (by omega))⟩
            by_cases e : j = k
            · subst e
              rw [he] at h
              simpa using h
            · exact hku j (by omega) hj2 he
        · have hke : k = i := by omega
          subst hke
          have hki : decide ((k : Int) < (k : Int)) = false := by simp
          have hm : (k + u) % l.length < l.length := Nat.mod_lt _ (by omega)
          have hpm := getD_map opA hm
          have ew : (IntKind.i64.wrap ((k : Int) + IntKind.i64.wrap (u : Int))).tmod (l.length : Int) = (((k + u) % l.length : Nat) : Int) := by
            rw [wrap_i64 (n := (u : Int)) (by omega) (by omega), wrap_i64 (by omega) (by omega), Int.tmod_eq_emod_of_nonneg (by omega)]; push_cast; rfl
          have hz : decide ((l.length : Int) = 0) = false := decide_eq_false (by omega)
          have hmi : decide ((((k + u) % l.length : Nat) : Int) < (l.length : Int)) = true := decide_eq_true (by omega)
          have qg : ∀ b c, hget (hset X H.length b ++ [c]) X.length = c := fun b c => (hget_at0 (hset_len X H.length b)).trans rfl
          have hSo : OpS l[(k + u) % l.length] := hS _ (List.getElem_mem hm)
          have hck := opOk_c l[(k + u) % l.length] hSo
          have hsucc : turnT l u (k + 1) = turnT l u k ++ pick2 l[(k + u) % l.length] := by
            rw [turnT_succ, List.getD_eq_getElem?_getD, List.getElem?_eq_getElem hm]; rfl
          have hul : ∀ i (hi : i < l.length), i < k + 1 → ∀ k' (hk : k' < i), (l[k']'(by omega)).at_ = l[i].at_ → l[k']'(by omega) = l[i] := fun i hi h k' hk' he => by
            by_cases e : i = k
            · subst e; exact hku k' hk' (by omega) he
            · exact hu i hi (by omega) k' hk' he
          have hmi2 : ((((k + u) % l.length : Nat) : Int) < (l.length : Int)) := by omega
          generalize l[(k + u) % l.length] = o at *
          generalize turnT l u k = T at *
          simp only [opA] at hck
          cases hok : opOk o with
          | false =>
            rw [hok] at hck
            rw [pick2, if_neg (by rw [hok]; decide), List.append_nil] at hsucc
            repeat' first | ((first | refine callK_fn (hck _) callOk30F ?_ | refine callP_fn (hck _) callOk30F ?_ | refine callM_fn (fun _ => hck _) callOk30F ?_ | refine callP_false (.bool false) ?_ | refine aw_region rfl ?_ | refine aw_region_draw mixedF rfl (by kernel_rfl) ?_ | refine aw_ret ?_ | refine aw_skip ?_ | refine aw_exit ?_ | refine aw_label ?_); simp only [go_sem, aopsK, aopsG, aopsPK, aopsPG, aopsMK, aopsMG, aopsN, TypeDesc.isAgg, ↓reduceIte, Nat.reduceEqDiff, Nat.reduceAdd, Nat.reduceSub, Nat.reduceMul, Nat.reduceLeDiff, Nat.reduceLT, Nat.reduceBEq, Int.reduceNeg, Int.reduceLE, Int.reduceLT, Int.reduceToNat, String.reduceEq, Option.isSome_some, Option.isSome_none, Bool.false_eq_true, Bool.true_eq_false, not_true_eq_false, not_false_eq_true, true_and, and_true, and_self, List.getElem?_toArray, List.getElem?_cons_zero, List.getElem?_cons_succ, List.getElem?_nil, List.length_map, List.append_eq, List.range_zero, List.cons_append, List.nil_append, Nat.one_ne_zero, implies_true, hki, hpi, hpm, ew, hz, hmi, opA, hfl, r1', qs, qg]) | refine aw_seq ?_ | refine aw_block ?_ | refine aw_scope ?_ | (refine aw_cond rfl (fun h => ?_) (fun h => ?_) <;> try (exfalso; first | (simp at h; done) | (simp at h; omega))) | ((with_reducible refine And.intro ?_ ?_); focus (first | omega | (intros; simp_all; done) | (simp; omega)))
            exact ⟨(k + 1, _, ver), ⟨hlt, hul, by simp only; rw [hsucc]; exact r1' _, rv, pre_app rP _⟩, by simp only; omega, ⟨by simp only; rw [hsucc], congrArg _ (wrap_succ hlt (by omega))⟩, rfl⟩
          | true =>
            rw [hok] at hck
            rw [pick2, if_pos hok] at hsucc
            repeat' first | ((first | refine callK_fn (hck _) callOk30F ?_ | refine callP_fn (hck _) callOk30F ?_ | refine callM_fn (fun _ => hck _) callOk30F ?_ | refine callP_false (.bool false) ?_ | refine aw_region rfl ?_ | refine aw_region_draw mixedF rfl (by kernel_rfl) ?_ | refine aw_ret ?_ | refine aw_skip ?_ | refine aw_exit ?_ | refine aw_label ?_); simp only [go_sem, aopsK, aopsG, aopsPK, aopsPG, aopsMK, aopsMG, aopsN, TypeDesc.isAgg, ↓reduceIte, Nat.reduceEqDiff, Nat.reduceAdd, Nat.reduceSub, Nat.reduceMul, Nat.reduceLeDiff, Nat.reduceLT, Nat.reduceBEq, Int.reduceNeg, Int.reduceLE, Int.reduceLT, Int.reduceToNat, String.reduceEq, Option.isSome_some, Option.isSome_none, Bool.false_eq_true, Bool.true_eq_false, not_true_eq_false, not_false_eq_true, true_and, and_true, and_self, List.getElem?_toArray, List.getElem?_cons_zero, List.getElem?_cons_succ, List.getElem?_nil, List.length_map, List.append_eq, List.range_zero, List.cons_append, List.nil_append, Nat.one_ne_zero, implies_true, hki, hpi, hpm, ew, hz, hmi, opA, hfl, r1', qs, qg]) | refine aw_seq ?_ | refine aw_block ?_ | refine aw_scope ?_ | (refine aw_cond rfl (fun h => ?_) (fun h => ?_) <;> try (exfalso; first | (simp at h; done) | (simp at h; omega))) | ((with_reducible refine And.intro ?_ ?_); focus (first | omega | (intros; simp_all; done) | (simp; omega)))
            refine ⟨⟨rv, fun a ha => by rw [ha]; rfl, by omega⟩, ?_⟩
            repeat' first | ((first | refine callP_false (.bool false) ?_ | refine aw_region rfl ?_ | refine aw_region_draw mixedF rfl (by kernel_rfl) ?_ | refine aw_ret ?_ | refine aw_skip ?_ | refine aw_exit ?_ | refine aw_label ?_); simp only [go_sem, aopsK, aopsG, aopsPK, aopsPG, aopsMK, aopsMG, aopsN, TypeDesc.isAgg, ↓reduceIte, Nat.reduceEqDiff, Nat.reduceAdd, Nat.reduceSub, Nat.reduceMul, Nat.reduceLeDiff, Nat.reduceLT, Nat.reduceBEq, Int.reduceNeg, Int.reduceLE, Int.reduceLT, Int.reduceToNat, String.reduceEq, Option.isSome_some, Option.isSome_none, Bool.false_eq_true, Bool.true_eq_false, not_true_eq_false, not_false_eq_true, true_and, and_true, and_self, List.getElem?_toArray, List.getElem?_cons_zero, List.getElem?_cons_succ, List.getElem?_nil, List.length_map, List.append_eq, List.range_zero, List.cons_append, List.nil_append, Nat.one_ne_zero, implies_true]) | refine aw_seq ?_ | refine aw_block ?_ | refine aw_scope ?_ | (refine aw_cond rfl (fun h => ?_) (fun h => ?_) <;> try (exfalso; first | (simp at h; done) | (simp at h; omega))) | ((with_reducible refine And.intro ?_ ?_); focus (first | omega | (intros; simp_all; done) | (simp; omega)))
            refine ⟨(k + 1, _, ver + 1), ⟨hlt, hul, ?_, Nat.succ_ne_zero _, pre_app (pre_set rP (Nat.le_refl _) _) _⟩, by simp only; omega, ⟨by simp only; rw [hsucc, List.length_append]; rfl, congrArg _ (wrap_succ hlt (by omega))⟩, rfl⟩
            simp only
            rw [hsucc, List.map_append, List.flatMap_append]
            exact hget_appL (b := .cells (ver + 1) _) (hget_set_eq hX1 _) trivial _
    · have hie : i = l.length := by omega
      subst hie
      have hu' : ∀ i (hi : i < l.length), ∀ k (hk : k < i), (l[k]'(by omega)).at_ = l[i].at_ → l[k]'(by omega) = l[i] := fun i hi k hk => hu i hi hi k hk
      have hli : decide ((l.length : Int) < (l.length : Int)) = false := by simp
      have heq := fold_turn u hu'
      obtain ⟨M2, hM2⟩ := pre_set rP (Nat.le_refl _) .gone
      refine aw_freeze [6] ((turnT l u l.length).map opA) (v := ver) (lc := (turnT l u l.length).length) (i := H.length) (s := 7) (cs := ((turnT l u l.length).map opA).flatMap AV.cells) (by intro t ht; simp only [List.mem_singleton] at ht; subst ht; rw [List.length_map]; simp only [go_sem, aopsK, aopsG, aopsPK, aopsPG, aopsMK, aopsMG, aopsN, TypeDesc.isAgg, ↓reduceIte, Nat.reduceEqDiff, Nat.reduceAdd, Nat.reduceSub, Nat.reduceMul, Nat.reduceLeDiff, Nat.reduceLT, Nat.reduceBEq, Int.reduceNeg, Int.reduceLE, Int.reduceLT, Int.reduceToNat, String.reduceEq, Option.isSome_some, Option.isSome_none, Bool.false_eq_true, Bool.true_eq_false, not_true_eq_false, not_false_eq_true, true_and, and_true, and_self, List.getElem?_toArray, List.getElem?_cons_zero, List.getElem?_cons_succ, List.getElem?_nil, List.length_map, List.append_eq, List.range_zero, List.cons_append, List.nil_append, Nat.one_ne_zero, implies_true]) r1 rv rfl (cells_op _) ?_
      have hof1 := fold_c false (turnT l u l.length) (fun o ho => hS o ((turnT_mem l u o).1 ho).1) (by omega)
      have hof2 := fold_c b l hS (by omega)
      rw [heq] at hof1
      have hsame := same6_c false false (foldL l) (foldL l)
      rw [decide_eq_true rfl] at hsame
      repeat' first | ((first | refine callK_fn (hof1 _) callOk46F ?_ | refine callP_fn (hof1 _) callOk46F ?_ | refine callM_fn (fun _ => hof1 _) callOk46F ?_ | refine callK_fn (hof2 _) callOk46F ?_ | refine callP_fn (hof2 _) callOk46F ?_ | refine callM_fn (fun _ => hof2 _) callOk46F ?_ | refine callK_fn (hsame _) callOk43F ?_ | refine callP_fn (hsame _) callOk43F ?_ | refine callM_fn (fun _ => hsame _) callOk43F ?_ | refine callP_false (.bool false) ?_ | refine aw_region rfl ?_ | refine aw_region_draw mixedF rfl (by kernel_rfl) ?_ | refine aw_ret ?_ | refine aw_skip ?_ | refine aw_exit ?_ | refine aw_label ?_); simp only [go_sem, aopsK, aopsG, aopsPK, aopsPG, aopsMK, aopsMG, aopsN, TypeDesc.isAgg, ↓reduceIte, Nat.reduceEqDiff, Nat.reduceAdd, Nat.reduceSub, Nat.reduceMul, Nat.reduceLeDiff, Nat.reduceLT, Nat.reduceBEq, Int.reduceNeg, Int.reduceLE, Int.reduceLT, Int.reduceToNat, String.reduceEq, Option.isSome_some, Option.isSome_none, Bool.false_eq_true, Bool.true_eq_false, not_true_eq_false, not_false_eq_true, true_and, and_true, and_self, List.getElem?_toArray, List.getElem?_cons_zero, List.getElem?_cons_succ, List.getElem?_nil, List.length_map, List.append_eq, List.range_zero, List.cons_append, List.nil_append, Nat.one_ne_zero, implies_true, hli]) | refine aw_seq ?_ | refine aw_block ?_ | refine aw_scope ?_ | (refine aw_cond rfl (fun h => ?_) (fun h => ?_) <;> try (exfalso; first | (simp at h; done) | (simp at h; omega))) | ((with_reducible refine And.intro ?_ ?_); focus (first | omega | (intros; simp_all; done) | (simp; omega)))
      exact doneG0 hM2.symm (by simp only [pur_int, pur_bool, pur_str, pur_agg, pur_tup, pur_sl, pur_iface, pur_nilI, List.mem_cons, List.not_mem_nil, false_implies, forall_eq_or_imp, List.mem_map, forall_exists_index, and_imp, forall_apply_eq_imp_iff₂, or_false, forall_eq, implies_true, and_self, and_true, true_and, Go.Gw.stA, Go.Gw.opA, Go.Gw.ndA, Go.Gw.unA, Go.Gw.enA, Go.Gw.inA, Go.Gw.lgF, Go.Gw.lgA]) (.refl _)
end Go.Proofs.Ytoffonjlfomnbaa

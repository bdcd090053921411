/- TreeBack and TreeOnly, walked. No condition. -/
import Derived.Test.YtoffonjlfomnbaaGwLaw6a
import Derived.Test.YtoffonjlfomnbaaGwLaw7a
namespace Go.Gw
open Go Go.Aw Go.Proofs.Ytoffonjlfomnbaa

theorem fewNd_len {l : List Nd} {n : Int} (h : fewNd l n = true) : (l.length : Int) ≤ n := by
  unfold fewNd at h
  rw [Bool.and_eq_true, decide_eq_true_eq] at h
  exact h.2
theorem do_ref {l : List Nd} {o : Opn} (h : refused l o = true) : doL l o = l ∧ doU l o = und0 := by rw [doL, doU, if_pos h, if_pos h]; exact ⟨rfl, rfl⟩
theorem ref_nchk {l : List Nd} {o : Opn} (h : chk l = false) : refused l o = true := by simp [refused, h]
theorem back_do' (l : List Nd) (o : Opn) : backL (doL l o) o (doU l o) = l := by
  cases hc : chk l with
  | true => exact back_do o hc
  | false =>
    obtain ⟨h1, h2⟩ := do_ref (o := o) (ref_nchk hc)
    rw [h1, h2, backL, if_pos (by simp [hc])]
theorem do_chk' (l : List Nd) (o : Opn) : chk (doL l o) = chk l := by
  cases hc : chk l with
  | true => exact do_chk o hc
  | false => rw [(do_ref (o := o) (ref_nchk hc)).1, hc]
theorem do_not {l : List Nd} {o : Opn} (h : (doU l o).did = false) : doL l o = l ∧ doU l o = und0 := by
  cases hr : refused l o with
  | true => exact do_ref hr
  | false => rw [doU, if_neg (by rw [hr]; decide)] at h; cases h
theorem fnd_put {l : List Nd} (hs : chk l = true) (n : Nd) (id : Int) : fnd (putN l n) id = if id = n.id then some n else fnd l id := by
  obtain ⟨A, B, hA, hB, eA, eB, h⟩ := split_at hs n.id
  rw [put_eq n eA eB]
  by_cases hid : id = n.id
  · rw [if_pos hid]; exact fnd_mid (fun x hx => by rw [hid]; exact hA x hx) hid.symm
  · rw [if_neg hid]
    have key : ∀ m : Nd, m.id = n.id → fnd (A ++ m :: B) id = fnd (A ++ B) id := by
      intro m hm
      unfold fnd
      rw [List.find?_append, List.find?_append, List.find?_cons, decide_eq_false (by rw [hm]; exact fun e => hid e.symm)]
    rcases h with ⟨h, _⟩ | ⟨m, hm, h, _⟩
    · conv => rhs; rw [h]
      exact key n rfl
    · conv => rhs; rw [h]
      rw [key m hm]; exact key n rfl
theorem nodeNew_move {l : List Nd} {o : Opn} (hk : o.kind = 1) : nodeNew l o = ⟨(nodeWas l o).id, o.parent, o.name, o.at_, ((fnd l o.node).getD nd0).data, ((fnd l o.node).getD nd0).wrote⟩ := by
  unfold nodeNew nodeWas
  rw [if_pos hk]
  cases fnd l o.node <;> rfl
theorem nodeNew_write {l : List Nd} {o : Opn} (hk : o.kind = 2) : nodeNew l o = ⟨(nodeWas l o).id, if (fnd l o.node).isSome = true then ((fnd l o.node).getD nd0).parent else -1, ((fnd l o.node).getD nd0).name, ((fnd l o.node).getD nd0).moved, o.data, o.at_⟩ := by
  unfold nodeNew nodeWas
  rw [if_neg (by omega)]
  cases fnd l o.node <;> rfl
theorem find_do {l : List Nd} (o : Opn) (id : Int) (hs : chk l = true) (hr : refused l o = false) : findI (doL l o) id = if id = o.node then some (nodeNew l o) else findI l id := by
  rw [findI, findI, do_chk', if_pos hs, if_pos hs, doL_put hr, fnd_put hs, nodeNew_id]
end Go.Gw
namespace Go.Proofs.Ytoffonjlfomnbaa
open Go Go.Aw Go.Gw
set_option linter.unusedSimpArgs false
set_option maxRecDepth 20000
set_option maxHeartbeats 4000000

theorem tback_c (b : Bool) (l : List Nd) (o : Opn) (H : AHeap) : FnC Try.prog 9 [.sl b (l.map ndA), opA o] H (.bool true) := by
  refine fnC_of Try.func9 rfl (Nat.le_of_ble_eq_true rfl) ?_
  have hf6 := few6_c b l 100
  have hf5 := few5_c true [o] 1
  cases h6 : fewNd l 100 with
  | false =>
    rw [h6] at hf6
    simp only [opA, List.map_cons, List.map_nil] at hf5 ⊢
    repeat' first | ((first | refine callK_fn (awake6_c _) callOk32F ?_ | refine callP_fn (awake6_c _) callOk32F ?_ | refine callM_fn (fun _ => awake6_c _) callOk32F ?_ | refine callK_fn (hf6 _) callOk33F ?_ | refine callP_fn (hf6 _) callOk33F ?_ | refine callM_fn (fun _ => hf6 _) callOk33F ?_ | refine callK_fn (hf5 _) callOk21F ?_ | refine callP_fn (hf5 _) callOk21F ?_ | refine callM_fn (fun _ => hf5 _) callOk21F ?_ | refine callP_false (.bool false) ?_ | refine aw_region rfl ?_ | refine aw_region_draw mixedF rfl (by kernel_rfl) ?_ | refine aw_ret ?_ | refine aw_skip ?_ | refine aw_exit ?_ | refine aw_label ?_); simp only [go_sem, ↓reduceIte, Nat.reduceEqDiff, Nat.reduceAdd, Nat.reduceSub, Nat.reduceMul, Nat.reduceLeDiff, Nat.reduceLT, Nat.reduceBEq, Int.reduceNeg, Int.reduceLE, Int.reduceLT, Int.reduceToNat, String.reduceEq]) | refine aw_seq ?_ | refine aw_block ?_ | refine aw_scope ?_ | (refine aw_cond rfl (fun h => ?_) (fun h => ?_) <;> try (exfalso; first | (simp at h; done) | (simp at h; omega))) | ((with_reducible refine And.intro ?_ ?_); focus (first | omega | (intros; simp_all; done) | (simp; omega)))
    exact done (by simp only [pur_int, pur_bool, pur_str, pur_agg, pur_tup, pur_sl, pur_iface, pur_nilI, List.mem_cons, List.not_mem_nil, false_implies, forall_eq_or_imp, List.mem_map, forall_exists_index, and_imp, forall_apply_eq_imp_iff₂, or_false, forall_eq, implies_true, and_self, and_true, true_and, Go.Gw.stA, Go.Gw.opA, Go.Gw.ndA, Go.Gw.unA, Go.Gw.enA, Go.Gw.inA, Go.Gw.lgF, Go.Gw.lgA]) (.refl _)
  | true =>
    rw [h6] at hf6
    cases h5 : fewOpn [o] 1 with
    | false =>
      rw [h5] at hf5
      simp only [opA, List.map_cons, List.map_nil] at hf5 ⊢
      repeat' first | ((first | refine callK_fn (awake6_c _) callOk32F ?_ | refine callP_fn (awake6_c _) callOk32F ?_ | refine callM_fn (fun _ => awake6_c _) callOk32F ?_ | refine callK_fn (hf6 _) callOk33F ?_ | refine callP_fn (hf6 _) callOk33F ?_ | refine callM_fn (fun _ => hf6 _) callOk33F ?_ | refine callK_fn (hf5 _) callOk21F ?_ | refine callP_fn (hf5 _) callOk21F ?_ | refine callM_fn (fun _ => hf5 _) callOk21F ?_ | refine callP_false (.bool false) ?_ | refine aw_region rfl ?_ | refine aw_region_draw mixedF rfl (by kernel_rfl) ?_ | refine aw_ret ?_ | refine aw_skip ?_ | refine aw_exit ?_ | refine aw_label ?_); simp only [go_sem, ↓reduceIte, Nat.reduceEqDiff, Nat.reduceAdd, Nat.reduceSub, Nat.reduceMul, Nat.reduceLeDiff, Nat.reduceLT, Nat.reduceBEq, Int.reduceNeg, Int.reduceLE, Int.reduceLT, Int.reduceToNat, String.reduceEq]) | refine aw_seq ?_ | refine aw_block ?_ | refine aw_scope ?_ | (refine aw_cond rfl (fun h => ?_) (fun h => ?_) <;> try (exfalso; first | (simp at h; done) | (simp at h; omega))) | ((with_reducible refine And.intro ?_ ?_); focus (first | omega | (intros; simp_all; done) | (simp; omega)))
      exact done (by simp only [pur_int, pur_bool, pur_str, pur_agg, pur_tup, pur_sl, pur_iface, pur_nilI, List.mem_cons, List.not_mem_nil, false_implies, forall_eq_or_imp, List.mem_map, forall_exists_index, and_imp, forall_apply_eq_imp_iff₂, or_false, forall_eq, implies_true, and_self, and_true, true_and, Go.Gw.stA, Go.Gw.opA, Go.Gw.ndA, Go.Gw.unA, Go.Gw.enA, Go.Gw.inA, Go.Gw.lgF, Go.Gw.lgA]) (.refl _)
    | true =>
      rw [h5] at hf5
      have hl := fewNd_len h6
      have ho : OpS o := (few_S h5).1 o (by simp)
      have hdo := do_c b l o ho (by omega)
      have hbk := back_c false (doL l o) o (doU l o) (by have := doL_len l o; omega)
      have hs1 := same6_c false b l l
      have hs2 := same6_c false b (doL l o) l
      have hc1 := chk_c false (doL l o)
      have hc2 := chk_c b l
      rw [back_do'] at hbk
      rw [do_chk'] at hc1
      rw [decide_eq_true rfl] at hs1
      have hcc : decide (chk l = chk l) = true := decide_eq_true rfl
      cases hd : (doU l o).did with
      | true =>
        generalize doL l o = a at *
        generalize doU l o = u at *
        simp only [opA, unA, hd, List.map_cons, List.map_nil] at hf5 hdo hbk ⊢
        repeat' first | ((first | refine callK_fn (awake6_c _) callOk32F ?_ | refine callP_fn (awake6_c _) callOk32F ?_ | refine callM_fn (fun _ => awake6_c _) callOk32F ?_ | refine callK_fn (hf6 _) callOk33F ?_ | refine callP_fn (hf6 _) callOk33F ?_ | refine callM_fn (fun _ => hf6 _) callOk33F ?_ | refine callK_fn (hf5 _) callOk21F ?_ | refine callP_fn (hf5 _) callOk21F ?_ | refine callM_fn (fun _ => hf5 _) callOk21F ?_ | refine callK_fn (hdo _) callOk34F ?_ | refine callP_fn (hdo _) callOk34F ?_ | refine callM_fn (fun _ => hdo _) callOk34F ?_ | refine callK_fn (hbk _) callOk44F ?_ | refine callP_fn (hbk _) callOk44F ?_ | refine callM_fn (fun _ => hbk _) callOk44F ?_ | refine callK_fn (hs1 _) callOk43F ?_ | refine callP_fn (hs1 _) callOk43F ?_ | refine callM_fn (fun _ => hs1 _) callOk43F ?_ | refine callK_fn (hc1 _) callOk38F ?_ | refine callP_fn (hc1 _) callOk38F ?_ | refine callM_fn (fun _ => hc1 _) callOk38F ?_ | refine callK_fn (hc2 _) callOk38F ?_ | refine callP_fn (hc2 _) callOk38F ?_ | refine callM_fn (fun _ => hc2 _) callOk38F ?_ | refine callP_false (.bool false) ?_ | refine aw_region rfl ?_ | refine aw_region_draw mixedF rfl (by kernel_rfl) ?_ | refine aw_ret ?_ | refine aw_skip ?_ | refine aw_exit ?_ | refine aw_label ?_); simp only [go_sem, ↓reduceIte, Nat.reduceEqDiff, Nat.reduceAdd, Nat.reduceSub, Nat.reduceMul, Nat.reduceLeDiff, Nat.reduceLT, Nat.reduceBEq, Int.reduceNeg, Int.reduceLE, Int.reduceLT, Int.reduceToNat, String.reduceEq, hd, hcc]) | refine aw_seq ?_ | refine aw_block ?_ | refine aw_scope ?_ | (refine aw_cond rfl (fun h => ?_) (fun h => ?_) <;> try (exfalso; first | (simp at h; done) | (simp at h; omega))) | ((with_reducible refine And.intro ?_ ?_); focus (first | omega | (intros; simp_all; done) | (simp; omega)))
        exact done (by simp only [pur_int, pur_bool, pur_str, pur_agg, pur_tup, pur_sl, pur_iface, pur_nilI, List.mem_cons, List.not_mem_nil, false_implies, forall_eq_or_imp, List.mem_map, forall_exists_index, and_imp, forall_apply_eq_imp_iff₂, or_false, forall_eq, implies_true, and_self, and_true, true_and, Go.Gw.stA, Go.Gw.opA, Go.Gw.ndA, Go.Gw.unA, Go.Gw.enA, Go.Gw.inA, Go.Gw.lgF, Go.Gw.lgA]) (.refl _)
      | false =>
        obtain ⟨q1, q2⟩ := do_not hd
        rw [q1, q2] at hdo
        rw [q1] at hs2 hc1
        rw [q1, q2] at hbk
        rw [decide_eq_true rfl] at hs2
        simp only [opA, unA, und0, nd0, st0, List.map_cons, List.map_nil] at hf5 hdo hbk ⊢
        repeat' first | ((first | refine callK_fn (awake6_c _) callOk32F ?_ | refine callP_fn (awake6_c _) callOk32F ?_ | refine callM_fn (fun _ => awake6_c _) callOk32F ?_ | refine callK_fn (hf6 _) callOk33F ?_ | refine callP_fn (hf6 _) callOk33F ?_ | refine callM_fn (fun _ => hf6 _) callOk33F ?_ | refine callK_fn (hf5 _) callOk21F ?_ | refine callP_fn (hf5 _) callOk21F ?_ | refine callM_fn (fun _ => hf5 _) callOk21F ?_ | refine callK_fn (hdo _) callOk34F ?_ | refine callP_fn (hdo _) callOk34F ?_ | refine callM_fn (fun _ => hdo _) callOk34F ?_ | refine callK_fn (hbk _) callOk44F ?_ | refine callP_fn (hbk _) callOk44F ?_ | refine callM_fn (fun _ => hbk _) callOk44F ?_ | refine callK_fn (hs1 _) callOk43F ?_ | refine callP_fn (hs1 _) callOk43F ?_ | refine callM_fn (fun _ => hs1 _) callOk43F ?_ | refine callK_fn (hs2 _) callOk43F ?_ | refine callP_fn (hs2 _) callOk43F ?_ | refine callM_fn (fun _ => hs2 _) callOk43F ?_ | refine callK_fn (hc1 _) callOk38F ?_ | refine callP_fn (hc1 _) callOk38F ?_ | refine callM_fn (fun _ => hc1 _) callOk38F ?_ | refine callK_fn (hc2 _) callOk38F ?_ | refine callP_fn (hc2 _) callOk38F ?_ | refine callM_fn (fun _ => hc2 _) callOk38F ?_ | refine callP_false (.bool false) ?_ | refine aw_region rfl ?_ | refine aw_region_draw mixedF rfl (by kernel_rfl) ?_ | refine aw_ret ?_ | refine aw_skip ?_ | refine aw_exit ?_ | refine aw_label ?_); simp only [go_sem, ↓reduceIte, Nat.reduceEqDiff, Nat.reduceAdd, Nat.reduceSub, Nat.reduceMul, Nat.reduceLeDiff, Nat.reduceLT, Nat.reduceBEq, Int.reduceNeg, Int.reduceLE, Int.reduceLT, Int.reduceToNat, String.reduceEq, hd, hcc]) | refine aw_seq ?_ | refine aw_block ?_ | refine aw_scope ?_ | (refine aw_cond rfl (fun h => ?_) (fun h => ?_) <;> try (exfalso; first | (simp at h; done) | (simp at h; omega))) | ((with_reducible refine And.intro ?_ ?_); focus (first | omega | (intros; simp_all; done) | (simp; omega)))
        exact done (by simp only [pur_int, pur_bool, pur_str, pur_agg, pur_tup, pur_sl, pur_iface, pur_nilI, List.mem_cons, List.not_mem_nil, false_implies, forall_eq_or_imp, List.mem_map, forall_exists_index, and_imp, forall_apply_eq_imp_iff₂, or_false, forall_eq, implies_true, and_self, and_true, true_and, Go.Gw.stA, Go.Gw.opA, Go.Gw.ndA, Go.Gw.unA, Go.Gw.enA, Go.Gw.inA, Go.Gw.lgF, Go.Gw.lgA]) (.refl _)

theorem tonly_c (b : Bool) (l : List Nd) (o : Opn) (id : Int) (H : AHeap) : FnC Try.prog 10 [.sl b (l.map ndA), opA o, .int .i64 id] H (.bool true) := by
  refine fnC_of Try.func10 rfl (Nat.le_of_ble_eq_true rfl) ?_
  have hf6 := few6_c b l 100
  have hf5 := few5_c true [o] 1
  have hc := chk_c b l
  have hI : ∀ x : Int, decide (x = x) = true := fun x => decide_eq_true rfl
  have hT : ∀ x : Txt, decide (x = x) = true := fun x => decide_eq_true rfl
  have hB : ∀ x : Bool, decide (x = x) = true := fun x => decide_eq_true rfl
  cases h6 : fewNd l 100 with
  | false =>
    rw [h6] at hf6
    simp only [opA, List.map_cons, List.map_nil] at hf5 ⊢
    repeat' first | ((first | refine callK_fn (awake6_c _) callOk32F ?_ | refine callP_fn (awake6_c _) callOk32F ?_ | refine callM_fn (fun _ => awake6_c _) callOk32F ?_ | refine callK_fn (hf6 _) callOk33F ?_ | refine callP_fn (hf6 _) callOk33F ?_ | refine callM_fn (fun _ => hf6 _) callOk33F ?_ | refine callK_fn (hf5 _) callOk21F ?_ | refine callP_fn (hf5 _) callOk21F ?_ | refine callM_fn (fun _ => hf5 _) callOk21F ?_ | refine callK_fn (hc _) callOk38F ?_ | refine callP_fn (hc _) callOk38F ?_ | refine callM_fn (fun _ => hc _) callOk38F ?_ | refine callP_false (.bool false) ?_ | refine aw_region rfl ?_ | refine aw_region_draw mixedF rfl (by kernel_rfl) ?_ | refine aw_ret ?_ | refine aw_skip ?_ | refine aw_exit ?_ | refine aw_label ?_); simp only [go_sem, ↓reduceIte, Nat.reduceEqDiff, Nat.reduceAdd, Nat.reduceSub, Nat.reduceMul, Nat.reduceLeDiff, Nat.reduceLT, Nat.reduceBEq, Int.reduceNeg, Int.reduceLE, Int.reduceLT, Int.reduceToNat, String.reduceEq]) | refine aw_seq ?_ | refine aw_block ?_ | refine aw_scope ?_ | (refine aw_cond rfl (fun h => ?_) (fun h => ?_) <;> try (exfalso; first | (simp at h; done) | (simp at h; omega))) | ((with_reducible refine And.intro ?_ ?_); focus (first | omega | (intros; simp_all; done) | (simp; omega)))
    exact done (by simp only [pur_int, pur_bool, pur_str, pur_agg, pur_tup, pur_sl, pur_iface, pur_nilI, List.mem_cons, List.not_mem_nil, false_implies, forall_eq_or_imp, List.mem_map, forall_exists_index, and_imp, forall_apply_eq_imp_iff₂, or_false, forall_eq, implies_true, and_self, and_true, true_and, Go.Gw.stA, Go.Gw.opA, Go.Gw.ndA, Go.Gw.unA, Go.Gw.enA, Go.Gw.inA, Go.Gw.lgF, Go.Gw.lgA]) (.refl _)
  | true =>
    rw [h6] at hf6
    cases h5 : fewOpn [o] 1 with
    | false =>
      rw [h5] at hf5
      simp only [opA, List.map_cons, List.map_nil] at hf5 ⊢
      repeat' first | ((first | refine callK_fn (awake6_c _) callOk32F ?_ | refine callP_fn (awake6_c _) callOk32F ?_ | refine callM_fn (fun _ => awake6_c _) callOk32F ?_ | refine callK_fn (hf6 _) callOk33F ?_ | refine callP_fn (hf6 _) callOk33F ?_ | refine callM_fn (fun _ => hf6 _) callOk33F ?_ | refine callK_fn (hf5 _) callOk21F ?_ | refine callP_fn (hf5 _) callOk21F ?_ | refine callM_fn (fun _ => hf5 _) callOk21F ?_ | refine callK_fn (hc _) callOk38F ?_ | refine callP_fn (hc _) callOk38F ?_ | refine callM_fn (fun _ => hc _) callOk38F ?_ | refine callP_false (.bool false) ?_ | refine aw_region rfl ?_ | refine aw_region_draw mixedF rfl (by kernel_rfl) ?_ | refine aw_ret ?_ | refine aw_skip ?_ | refine aw_exit ?_ | refine aw_label ?_); simp only [go_sem, ↓reduceIte, Nat.reduceEqDiff, Nat.reduceAdd, Nat.reduceSub, Nat.reduceMul, Nat.reduceLeDiff, Nat.reduceLT, Nat.reduceBEq, Int.reduceNeg, Int.reduceLE, Int.reduceLT, Int.reduceToNat, String.reduceEq]) | refine aw_seq ?_ | refine aw_block ?_ | refine aw_scope ?_ | (refine aw_cond rfl (fun h => ?_) (fun h => ?_) <;> try (exfalso; first | (simp at h; done) | (simp at h; omega))) | ((with_reducible refine And.intro ?_ ?_); focus (first | omega | (intros; simp_all; done) | (simp; omega)))
      exact done (by simp only [pur_int, pur_bool, pur_str, pur_agg, pur_tup, pur_sl, pur_iface, pur_nilI, List.mem_cons, List.not_mem_nil, false_implies, forall_eq_or_imp, List.mem_map, forall_exists_index, and_imp, forall_apply_eq_imp_iff₂, or_false, forall_eq, implies_true, and_self, and_true, true_and, Go.Gw.stA, Go.Gw.opA, Go.Gw.ndA, Go.Gw.unA, Go.Gw.enA, Go.Gw.inA, Go.Gw.lgF, Go.Gw.lgA]) (.refl _)
    | true =>
      rw [h5] at hf5
      cases hck : chk l with
      | false =>
        rw [hck] at hc
        simp only [opA, List.map_cons, List.map_nil] at hf5 ⊢
        repeat' first | ((first | refine callK_fn (awake6_c _) callOk32F ?_ | refine callP_fn (awake6_c _) callOk32F ?_ | refine callM_fn (fun _ => awake6_c _) callOk32F ?_ | refine callK_fn (hf6 _) callOk33F ?_ | refine callP_fn (hf6 _) callOk33F ?_ | refine callM_fn (fun _ => hf6 _) callOk33F ?_ | refine callK_fn (hf5 _) callOk21F ?_ | refine callP_fn (hf5 _) callOk21F ?_ | refine callM_fn (fun _ => hf5 _) callOk21F ?_ | refine callK_fn (hc _) callOk38F ?_ | refine callP_fn (hc _) callOk38F ?_ | refine callM_fn (fun _ => hc _) callOk38F ?_ | refine callP_false (.bool false) ?_ | refine aw_region rfl ?_ | refine aw_region_draw mixedF rfl (by kernel_rfl) ?_ | refine aw_ret ?_ | refine aw_skip ?_ | refine aw_exit ?_ | refine aw_label ?_); simp only [go_sem, ↓reduceIte, Nat.reduceEqDiff, Nat.reduceAdd, Nat.reduceSub, Nat.reduceMul, Nat.reduceLeDiff, Nat.reduceLT, Nat.reduceBEq, Int.reduceNeg, Int.reduceLE, Int.reduceLT, Int.reduceToNat, String.reduceEq]) | refine aw_seq ?_ | refine aw_block ?_ | refine aw_scope ?_ | (refine aw_cond rfl (fun h => ?_) (fun h => ?_) <;> try (exfalso; first | (simp at h; done) | (simp at h; omega))) | ((with_reducible refine And.intro ?_ ?_); focus (first | omega | (intros; simp_all; done) | (simp; omega)))
        exact done (by simp only [pur_int, pur_bool, pur_str, pur_agg, pur_tup, pur_sl, pur_iface, pur_nilI, List.mem_cons, List.not_mem_nil, false_implies, forall_eq_or_imp, List.mem_map, forall_exists_index, and_imp, forall_apply_eq_imp_iff₂, or_false, forall_eq, implies_true, and_self, and_true, true_and, Go.Gw.stA, Go.Gw.opA, Go.Gw.ndA, Go.Gw.unA, Go.Gw.enA, Go.Gw.inA, Go.Gw.lgF, Go.Gw.lgA]) (.refl _)
      | true =>
        rw [hck] at hc
        have hl := fewNd_len h6
        have ho : OpS o := (few_S h5).1 o (by simp)
        have hdo := do_c b l o ho (by omega)
        have hn := find_c b l id
        have hm := find_c false (doL l o) id
        cases hr : refused l o with
        | true =>
          obtain ⟨q1, q2⟩ := do_ref hr
          rw [q1, q2] at hdo
          rw [q1] at hm
          have hnm : ∀ H, FnC Try.prog 36 [.sl false (l.map ndA), .int .i64 id] H (.tup [ndA ((findI l id).getD nd0), .bool (findI l id).isSome]) := hm
          have hnn : ∀ H, FnC Try.prog 36 [.sl b (l.map ndA), .int .i64 id] H (.tup [ndA ((findI l id).getD nd0), .bool (findI l id).isSome]) := hn
          generalize (findI l id).getD nd0 = n at *
          generalize (findI l id).isSome = s at *
          clear hm hn
          simp only [opA, unA, und0, nd0, st0, ndA, List.map_cons, List.map_nil] at hf5 hdo hnn hnm ⊢
          repeat' first | ((first | refine callK_fn (awake6_c _) callOk32F ?_ | refine callP_fn (awake6_c _) callOk32F ?_ | refine callM_fn (fun _ => awake6_c _) callOk32F ?_ | refine callK_fn (hf6 _) callOk33F ?_ | refine callP_fn (hf6 _) callOk33F ?_ | refine callM_fn (fun _ => hf6 _) callOk33F ?_ | refine callK_fn (hf5 _) callOk21F ?_ | refine callP_fn (hf5 _) callOk21F ?_ | refine callM_fn (fun _ => hf5 _) callOk21F ?_ | refine callK_fn (hc _) callOk38F ?_ | refine callP_fn (hc _) callOk38F ?_ | refine callM_fn (fun _ => hc _) callOk38F ?_ | refine callK_fn (hdo _) callOk34F ?_ | refine callP_fn (hdo _) callOk34F ?_ | refine callM_fn (fun _ => hdo _) callOk34F ?_ | refine callK_fn (hnn _) callOk36F ?_ | refine callP_fn (hnn _) callOk36F ?_ | refine callM_fn (fun _ => hnn _) callOk36F ?_ | refine callK_fn (hnm _) callOk36F ?_ | refine callP_fn (hnm _) callOk36F ?_ | refine callM_fn (fun _ => hnm _) callOk36F ?_ | refine callP_false (.bool false) ?_ | refine aw_region rfl ?_ | refine aw_region_draw mixedF rfl (by kernel_rfl) ?_ | refine aw_ret ?_ | refine aw_skip ?_ | refine aw_exit ?_ | refine aw_label ?_); simp only [go_sem, ↓reduceIte, Nat.reduceEqDiff, Nat.reduceAdd, Nat.reduceSub, Nat.reduceMul, Nat.reduceLeDiff, Nat.reduceLT, Nat.reduceBEq, Int.reduceNeg, Int.reduceLE, Int.reduceLT, Int.reduceToNat, String.reduceEq, hI, hT, hB]) | refine aw_seq ?_ | refine aw_block ?_ | refine aw_scope ?_ | (refine aw_cond rfl (fun h => ?_) (fun h => ?_) <;> try (exfalso; first | (simp at h; done) | (simp at h; omega))) | ((with_reducible refine And.intro ?_ ?_); focus (first | omega | (intros; simp_all; done) | (simp; omega)))
          all_goals exact done (by simp only [pur_int, pur_bool, pur_str, pur_agg, pur_tup, pur_sl, pur_iface, pur_nilI, List.mem_cons, List.not_mem_nil, false_implies, forall_eq_or_imp, List.mem_map, forall_exists_index, and_imp, forall_apply_eq_imp_iff₂, or_false, forall_eq, implies_true, and_self, and_true, true_and, Go.Gw.stA, Go.Gw.opA, Go.Gw.ndA, Go.Gw.unA, Go.Gw.enA, Go.Gw.inA, Go.Gw.lgF, Go.Gw.lgA]) (.refl _)
        | false =>
          rw [find_do o id hck hr] at hm
          have hdu : doU l o = ⟨true, had l o.node, (fnd l o.node).getD nd0⟩ := by rw [doU, if_neg (by rw [hr]; decide)]
          rw [hdu] at hdo
          by_cases hid : id = o.node
          · rw [if_pos hid] at hm
            have hfi : findI l id = fnd l o.node := by rw [findI, if_pos hck, hid]
            rw [hfi] at hn
            have hhad : had l o.node = (fnd l o.node).isSome := rfl
            rw [hhad] at hdo
            have hli : decide (id = o.node) = true := decide_eq_true hid
            have hk : o.kind = 1 ∨ o.kind = 2 := by
              cases hok : opOk o with
              | false => simp [refused, hok] at hr
              | true =>
                unfold opOk at hok
                simp only [Bool.and_eq_true, Bool.or_eq_true, decide_eq_true_eq] at hok
                exact hok.1.1.1
            rcases hk with hk | hk
            · have hk1 : decide (o.kind = 1) = true := decide_eq_true hk
              have hk2 : decide (o.kind = 2) = false := decide_eq_false (by omega)
              rw [nodeNew_move hk] at hm
              generalize (nodeWas l o).id = wid at *
              cases hff : fnd l o.node with
              | none =>
                rw [hff] at hm hn hdo
                generalize doL l o = a at *
                simp only [opA, unA, ndV, ndA, nd0, st0, Option.getD_some, Option.getD_none, Option.isSome_some, Option.isSome_none, if_true, if_false, Bool.false_eq_true, List.map_cons, List.map_nil] at hf5 hdo hn hm ⊢
                repeat' first | ((first | refine callK_fn (awake6_c _) callOk32F ?_ | refine callP_fn (awake6_c _) callOk32F ?_ | refine callM_fn (fun _ => awake6_c _) callOk32F ?_ | refine callK_fn (hf6 _) callOk33F ?_ | refine callP_fn (hf6 _) callOk33F ?_ | refine callM_fn (fun _ => hf6 _) callOk33F ?_ | refine callK_fn (hf5 _) callOk21F ?_ | refine callP_fn (hf5 _) callOk21F ?_ | refine callM_fn (fun _ => hf5 _) callOk21F ?_ | refine callK_fn (hc _) callOk38F ?_ | refine callP_fn (hc _) callOk38F ?_ | refine callM_fn (fun _ => hc _) callOk38F ?_ | refine callK_fn (hdo _) callOk34F ?_ | refine callP_fn (hdo _) callOk34F ?_ | refine callM_fn (fun _ => hdo _) callOk34F ?_ | refine callK_fn (hn _) callOk36F ?_ | refine callP_fn (hn _) callOk36F ?_ | refine callM_fn (fun _ => hn _) callOk36F ?_ | refine callK_fn (hm _) callOk36F ?_ | refine callP_fn (hm _) callOk36F ?_ | refine callM_fn (fun _ => hm _) callOk36F ?_ | refine callP_false (.bool false) ?_ | refine aw_region rfl ?_ | refine aw_region_draw mixedF rfl (by kernel_rfl) ?_ | refine aw_ret ?_ | refine aw_skip ?_ | refine aw_exit ?_ | refine aw_label ?_); simp only [go_sem, ↓reduceIte, Nat.reduceEqDiff, Nat.reduceAdd, Nat.reduceSub, Nat.reduceMul, Nat.reduceLeDiff, Nat.reduceLT, Nat.reduceBEq, Int.reduceNeg, Int.reduceLE, Int.reduceLT, Int.reduceToNat, String.reduceEq, hI, hT, hB, hli, hk1, hk2]) | refine aw_seq ?_ | refine aw_block ?_ | refine aw_scope ?_ | (refine aw_cond rfl (fun h => ?_) (fun h => ?_) <;> try (exfalso; first | (simp at h; done) | (simp at h; omega))) | ((with_reducible refine And.intro ?_ ?_); focus (first | omega | (intros; simp_all; done) | (simp; omega)))
                exact done (by simp only [pur_int, pur_bool, pur_str, pur_agg, pur_tup, pur_sl, pur_iface, pur_nilI, List.mem_cons, List.not_mem_nil, false_implies, forall_eq_or_imp, List.mem_map, forall_exists_index, and_imp, forall_apply_eq_imp_iff₂, or_false, forall_eq, implies_true, and_self, and_true, true_and, Go.Gw.stA, Go.Gw.opA, Go.Gw.ndA, Go.Gw.unA, Go.Gw.enA, Go.Gw.inA, Go.Gw.lgF, Go.Gw.lgA]) (.refl _)
              | some n =>
                rw [hff] at hm hn hdo
                generalize doL l o = a at *
                simp only [opA, unA, ndV, ndA, nd0, st0, Option.getD_some, Option.getD_none, Option.isSome_some, Option.isSome_none, if_true, if_false, Bool.false_eq_true, List.map_cons, List.map_nil] at hf5 hdo hn hm ⊢
                repeat' first | ((first | refine callK_fn (awake6_c _) callOk32F ?_ | refine callP_fn (awake6_c _) callOk32F ?_ | refine callM_fn (fun _ => awake6_c _) callOk32F ?_ | refine callK_fn (hf6 _) callOk33F ?_ | refine callP_fn (hf6 _) callOk33F ?_ | refine callM_fn (fun _ => hf6 _) callOk33F ?_ | refine callK_fn (hf5 _) callOk21F ?_ | refine callP_fn (hf5 _) callOk21F ?_ | refine callM_fn (fun _ => hf5 _) callOk21F ?_ | refine callK_fn (hc _) callOk38F ?_ | refine callP_fn (hc _) callOk38F ?_ | refine callM_fn (fun _ => hc _) callOk38F ?_ | refine callK_fn (hdo _) callOk34F ?_ | refine callP_fn (hdo _) callOk34F ?_ | refine callM_fn (fun _ => hdo _) callOk34F ?_ | refine callK_fn (hn _) callOk36F ?_ | refine callP_fn (hn _) callOk36F ?_ | refine callM_fn (fun _ => hn _) callOk36F ?_ | refine callK_fn (hm _) callOk36F ?_ | refine callP_fn (hm _) callOk36F ?_ | refine callM_fn (fun _ => hm _) callOk36F ?_ | refine callP_false (.bool false) ?_ | refine aw_region rfl ?_ | refine aw_region_draw mixedF rfl (by kernel_rfl) ?_ | refine aw_ret ?_ | refine aw_skip ?_ | refine aw_exit ?_ | refine aw_label ?_); simp only [go_sem, ↓reduceIte, Nat.reduceEqDiff, Nat.reduceAdd, Nat.reduceSub, Nat.reduceMul, Nat.reduceLeDiff, Nat.reduceLT, Nat.reduceBEq, Int.reduceNeg, Int.reduceLE, Int.reduceLT, Int.reduceToNat, String.reduceEq, hI, hT, hB, hli, hk1, hk2]) | refine aw_seq ?_ | refine aw_block ?_ | refine aw_scope ?_ | (refine aw_cond rfl (fun h => ?_) (fun h => ?_) <;> try (exfalso; first | (simp at h; done) | (simp at h; omega))) | ((with_reducible refine And.intro ?_ ?_); focus (first | omega | (intros; simp_all; done) | (simp; omega)))
                exact done (by simp only [pur_int, pur_bool, pur_str, pur_agg, pur_tup, pur_sl, pur_iface, pur_nilI, List.mem_cons, List.not_mem_nil, false_implies, forall_eq_or_imp, List.mem_map, forall_exists_index, and_imp, forall_apply_eq_imp_iff₂, or_false, forall_eq, implies_true, and_self, and_true, true_and, Go.Gw.stA, Go.Gw.opA, Go.Gw.ndA, Go.Gw.unA, Go.Gw.enA, Go.Gw.inA, Go.Gw.lgF, Go.Gw.lgA]) (.refl _)
            · have hk1 : decide (o.kind = 1) = false := decide_eq_false (by omega)
              have hk2 : decide (o.kind = 2) = true := decide_eq_true hk
              rw [nodeNew_write hk] at hm
              generalize (nodeWas l o).id = wid at *
              cases hff : fnd l o.node with
              | none =>
                rw [hff] at hm hn hdo
                generalize doL l o = a at *
                simp only [opA, unA, ndV, ndA, nd0, st0, Option.getD_some, Option.getD_none, Option.isSome_some, Option.isSome_none, if_true, if_false, Bool.false_eq_true, List.map_cons, List.map_nil] at hf5 hdo hn hm ⊢
                repeat' first | ((first | refine callK_fn (awake6_c _) callOk32F ?_ | refine callP_fn (awake6_c _) callOk32F ?_ | refine callM_fn (fun _ => awake6_c _) callOk32F ?_ | refine callK_fn (hf6 _) callOk33F ?_ | refine callP_fn (hf6 _) callOk33F ?_ | refine callM_fn (fun _ => hf6 _) callOk33F ?_ | refine callK_fn (hf5 _) callOk21F ?_ | refine callP_fn (hf5 _) callOk21F ?_ | refine callM_fn (fun _ => hf5 _) callOk21F ?_ | refine callK_fn (hc _) callOk38F ?_ | refine callP_fn (hc _) callOk38F ?_ | refine callM_fn (fun _ => hc _) callOk38F ?_ | refine callK_fn (hdo _) callOk34F ?_ | refine callP_fn (hdo _) callOk34F ?_ | refine callM_fn (fun _ => hdo _) callOk34F ?_ | refine callK_fn (hn _) callOk36F ?_ | refine callP_fn (hn _) callOk36F ?_ | refine callM_fn (fun _ => hn _) callOk36F ?_ | refine callK_fn (hm _) callOk36F ?_ | refine callP_fn (hm _) callOk36F ?_ | refine callM_fn (fun _ => hm _) callOk36F ?_ | refine callP_false (.bool false) ?_ | refine aw_region rfl ?_ | refine aw_region_draw mixedF rfl (by kernel_rfl) ?_ | refine aw_ret ?_ | refine aw_skip ?_ | refine aw_exit ?_ | refine aw_label ?_); simp only [go_sem, ↓reduceIte, Nat.reduceEqDiff, Nat.reduceAdd, Nat.reduceSub, Nat.reduceMul, Nat.reduceLeDiff, Nat.reduceLT, Nat.reduceBEq, Int.reduceNeg, Int.reduceLE, Int.reduceLT, Int.reduceToNat, String.reduceEq, hI, hT, hB, hli, hk1, hk2]) | refine aw_seq ?_ | refine aw_block ?_ | refine aw_scope ?_ | (refine aw_cond rfl (fun h => ?_) (fun h => ?_) <;> try (exfalso; first | (simp at h; done) | (simp at h; omega))) | ((with_reducible refine And.intro ?_ ?_); focus (first | omega | (intros; simp_all; done) | (simp; omega)))
                exact done (by simp only [pur_int, pur_bool, pur_str, pur_agg, pur_tup, pur_sl, pur_iface, pur_nilI, List.mem_cons, List.not_mem_nil, false_implies, forall_eq_or_imp, List.mem_map, forall_exists_index, and_imp, forall_apply_eq_imp_iff₂, or_false, forall_eq, implies_true, and_self, and_true, true_and, Go.Gw.stA, Go.Gw.opA, Go.Gw.ndA, Go.Gw.unA, Go.Gw.enA, Go.Gw.inA, Go.Gw.lgF, Go.Gw.lgA]) (.refl _)
              | some n =>
                rw [hff] at hm hn hdo
                generalize doL l o = a at *
                simp only [opA, unA, ndV, ndA, nd0, st0, Option.getD_some, Option.getD_none, Option.isSome_some, Option.isSome_none, if_true, if_false, Bool.false_eq_true, List.map_cons, List.map_nil] at hf5 hdo hn hm ⊢
                repeat' first | ((first | refine callK_fn (awake6_c _) callOk32F ?_ | refine callP_fn (awake6_c _) callOk32F ?_ | refine callM_fn (fun _ => awake6_c _) callOk32F ?_ | refine callK_fn (hf6 _) callOk33F ?_ | refine callP_fn (hf6 _) callOk33F ?_ | refine callM_fn (fun _ => hf6 _) callOk33F ?_ | refine callK_fn (hf5 _) callOk21F ?_ | refine callP_fn (hf5 _) callOk21F ?_ | refine callM_fn (fun _ => hf5 _) callOk21F ?_ | refine callK_fn (hc _) callOk38F ?_ | refine callP_fn (hc _) callOk38F ?_ | refine callM_fn (fun _ => hc _) callOk38F ?_ | refine callK_fn (hdo _) callOk34F ?_ | refine callP_fn (hdo _) callOk34F ?_ | refine callM_fn (fun _ => hdo _) callOk34F ?_ | refine callK_fn (hn _) callOk36F ?_ | refine callP_fn (hn _) callOk36F ?_ | refine callM_fn (fun _ => hn _) callOk36F ?_ | refine callK_fn (hm _) callOk36F ?_ | refine callP_fn (hm _) callOk36F ?_ | refine callM_fn (fun _ => hm _) callOk36F ?_ | refine callP_false (.bool false) ?_ | refine aw_region rfl ?_ | refine aw_region_draw mixedF rfl (by kernel_rfl) ?_ | refine aw_ret ?_ | refine aw_skip ?_ | refine aw_exit ?_ | refine aw_label ?_); simp only [go_sem, ↓reduceIte, Nat.reduceEqDiff, Nat.reduceAdd, Nat.reduceSub, Nat.reduceMul, Nat.reduceLeDiff, Nat.reduceLT, Nat.reduceBEq, Int.reduceNeg, Int.reduceLE, Int.reduceLT, Int.reduceToNat, String.reduceEq, hI, hT, hB, hli, hk1, hk2]) | refine aw_seq ?_ | refine aw_block ?_ | refine aw_scope ?_ | (refine aw_cond rfl (fun h => ?_) (fun h => ?_) <;> try (exfalso; first | (simp at h; done) | (simp at h; omega))) | ((with_reducible refine And.intro ?_ ?_); focus (first | omega | (intros; simp_all; done) | (simp; omega)))
                exact done (by simp only [pur_int, pur_bool, pur_str, pur_agg, pur_tup, pur_sl, pur_iface, pur_nilI, List.mem_cons, List.not_mem_nil, false_implies, forall_eq_or_imp, List.mem_map, forall_exists_index, and_imp, forall_apply_eq_imp_iff₂, or_false, forall_eq, implies_true, and_self, and_true, true_and, Go.Gw.stA, Go.Gw.opA, Go.Gw.ndA, Go.Gw.unA, Go.Gw.enA, Go.Gw.inA, Go.Gw.lgF, Go.Gw.lgA]) (.refl _)
          · rw [if_neg hid] at hm
            have hli : decide (id = o.node) = false := decide_eq_false hid
            have hnm : ∀ H, FnC Try.prog 36 [.sl false ((doL l o).map ndA), .int .i64 id] H (.tup [ndA ((findI l id).getD nd0), .bool (findI l id).isSome]) := hm
            have hnn : ∀ H, FnC Try.prog 36 [.sl b (l.map ndA), .int .i64 id] H (.tup [ndA ((findI l id).getD nd0), .bool (findI l id).isSome]) := hn
            generalize (findI l id).getD nd0 = n at *
            generalize (findI l id).isSome = s at *
            clear hm hn
            generalize doL l o = a at *
            generalize (fnd l o.node).getD nd0 = nn at *
            simp only [opA, unA, ndA, List.map_cons, List.map_nil] at hf5 hdo hnn hnm ⊢
            repeat' first | ((first | refine callK_fn (awake6_c _) callOk32F ?_ | refine callP_fn (awake6_c _) callOk32F ?_ | refine callM_fn (fun _ => awake6_c _) callOk32F ?_ | refine callK_fn (hf6 _) callOk33F ?_ | refine callP_fn (hf6 _) callOk33F ?_ | refine callM_fn (fun _ => hf6 _) callOk33F ?_ | refine callK_fn (hf5 _) callOk21F ?_ | refine callP_fn (hf5 _) callOk21F ?_ | refine callM_fn (fun _ => hf5 _) callOk21F ?_ | refine callK_fn (hc _) callOk38F ?_ | refine callP_fn (hc _) callOk38F ?_ | refine callM_fn (fun _ => hc _) callOk38F ?_ | refine callK_fn (hdo _) callOk34F ?_ | refine callP_fn (hdo _) callOk34F ?_ | refine callM_fn (fun _ => hdo _) callOk34F ?_ | refine callK_fn (hnn _) callOk36F ?_ | refine callP_fn (hnn _) callOk36F ?_ | refine callM_fn (fun _ => hnn _) callOk36F ?_ | refine callK_fn (hnm _) callOk36F ?_ | refine callP_fn (hnm _) callOk36F ?_ | refine callM_fn (fun _ => hnm _) callOk36F ?_ | refine callP_false (.bool false) ?_ | refine aw_region rfl ?_ | refine aw_region_draw mixedF rfl (by kernel_rfl) ?_ | refine aw_ret ?_ | refine aw_skip ?_ | refine aw_exit ?_ | refine aw_label ?_); simp only [go_sem, ↓reduceIte, Nat.reduceEqDiff, Nat.reduceAdd, Nat.reduceSub, Nat.reduceMul, Nat.reduceLeDiff, Nat.reduceLT, Nat.reduceBEq, Int.reduceNeg, Int.reduceLE, Int.reduceLT, Int.reduceToNat, String.reduceEq, hI, hT, hB, hli]) | refine aw_seq ?_ | refine aw_block ?_ | refine aw_scope ?_ | (refine aw_cond rfl (fun h => ?_) (fun h => ?_) <;> try (exfalso; first | (simp at h; done) | (simp at h; omega))) | ((with_reducible refine And.intro ?_ ?_); focus (first | omega | (intros; simp_all; done) | (simp; omega)))
            all_goals exact done (by simp only [pur_int, pur_bool, pur_str, pur_agg, pur_tup, pur_sl, pur_iface, pur_nilI, List.mem_cons, List.not_mem_nil, false_implies, forall_eq_or_imp, List.mem_map, forall_exists_index, and_imp, forall_apply_eq_imp_iff₂, or_false, forall_eq, implies_true, and_self, and_true, true_and, Go.Gw.stA, Go.Gw.opA, Go.Gw.ndA, Go.Gw.unA, Go.Gw.enA, Go.Gw.inA, Go.Gw.lgF, Go.Gw.lgA]) (.refl _)
end Go.Proofs.Ytoffonjlfomnbaa

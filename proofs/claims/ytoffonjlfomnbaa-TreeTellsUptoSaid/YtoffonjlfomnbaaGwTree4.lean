/- What the functions of the tree answer: Back. No condition. -/
import Derived.Test.YtoffonjlfomnbaaGwTree2
namespace Go.Proofs.Ytoffonjlfomnbaa
open Go Go.Aw Go.Gw
set_option linter.unusedSimpArgs false
set_option maxRecDepth 20000
set_option maxHeartbeats 1000000

theorem back_c (b : Bool) (l : List Nd) (o : Opn) (u : Und) (hl : l.length ≤ 1000000000) (H : AHeap) : FnC Try.prog 44 [.sl b (l.map ndA), opA o, unA u] H (.sl false ((backL l o u).map ndA)) := by
  refine fnC_of Try.func44 rfl (Nat.le_of_ble_eq_true rfl) ?_
  have hsm := tsame_c b l hl
  simp only [opA, unA]
  cases hc : chk l with
  | false =>
    have hr : (!chk l || !u.did) = true := by simp [hc]
    rw [backL, if_pos hr]
    repeat' first | ((first | refine callK_fn (chk_c _ _ _) callOk38F ?_ | refine callP_fn (chk_c _ _ _) callOk38F ?_ | refine callM_fn (fun _ => chk_c _ _ _) callOk38F ?_ | refine callK_fn (hsm _) callOk61F ?_ | refine callP_fn (hsm _) callOk61F ?_ | refine callM_fn (fun _ => hsm _) callOk61F ?_ | refine callP_false (.bool false) ?_ | refine aw_region rfl ?_ | refine aw_region_draw mixedF rfl (by kernel_rfl) ?_ | refine aw_ret ?_ | refine aw_skip ?_ | refine aw_exit ?_ | refine aw_label ?_); simp only [go_sem, ↓reduceIte, Nat.reduceEqDiff, Nat.reduceAdd, Nat.reduceSub, Nat.reduceMul, Nat.reduceLeDiff, Nat.reduceLT, Nat.reduceBEq, Int.reduceNeg, Int.reduceLE, Int.reduceLT, Int.reduceToNat, String.reduceEq, hc]) | refine aw_seq ?_ | refine aw_block ?_ | refine aw_scope ?_ | (refine aw_cond rfl (fun h => ?_) (fun h => ?_) <;> try (exfalso; first | (simp at h; done) | (simp at h; omega))) | ((with_reducible refine And.intro ?_ ?_); focus (first | omega | (intros; simp_all; done) | (simp; omega)))
    exact done (by simp only [pur_int, pur_bool, pur_str, pur_agg, pur_tup, pur_sl, pur_iface, pur_nilI, List.mem_cons, List.not_mem_nil, false_implies, forall_eq_or_imp, List.mem_map, forall_exists_index, and_imp, forall_apply_eq_imp_iff₂, or_false, forall_eq, implies_true, and_self, and_true, true_and, Go.Gw.stA, Go.Gw.opA, Go.Gw.ndA, Go.Gw.unA, Go.Gw.enA, Go.Gw.inA, Go.Gw.lgF, Go.Gw.lgA]) (.refl _)
  | true =>
    cases hd : u.did with
    | false =>
      have hr : (!chk l || !u.did) = true := by simp [hd]
      rw [backL, if_pos hr]
      repeat' first | ((first | refine callK_fn (chk_c _ _ _) callOk38F ?_ | refine callP_fn (chk_c _ _ _) callOk38F ?_ | refine callM_fn (fun _ => chk_c _ _ _) callOk38F ?_ | refine callK_fn (hsm _) callOk61F ?_ | refine callP_fn (hsm _) callOk61F ?_ | refine callM_fn (fun _ => hsm _) callOk61F ?_ | refine callP_false (.bool false) ?_ | refine aw_region rfl ?_ | refine aw_region_draw mixedF rfl (by kernel_rfl) ?_ | refine aw_ret ?_ | refine aw_skip ?_ | refine aw_exit ?_ | refine aw_label ?_); simp only [go_sem, ↓reduceIte, Nat.reduceEqDiff, Nat.reduceAdd, Nat.reduceSub, Nat.reduceMul, Nat.reduceLeDiff, Nat.reduceLT, Nat.reduceBEq, Int.reduceNeg, Int.reduceLE, Int.reduceLT, Int.reduceToNat, String.reduceEq, hc, hd]) | refine aw_seq ?_ | refine aw_block ?_ | refine aw_scope ?_ | (refine aw_cond rfl (fun h => ?_) (fun h => ?_) <;> try (exfalso; first | (simp at h; done) | (simp at h; omega))) | ((with_reducible refine And.intro ?_ ?_); focus (first | omega | (intros; simp_all; done) | (simp; omega)))
      exact done (by simp only [pur_int, pur_bool, pur_str, pur_agg, pur_tup, pur_sl, pur_iface, pur_nilI, List.mem_cons, List.not_mem_nil, false_implies, forall_eq_or_imp, List.mem_map, forall_exists_index, and_imp, forall_apply_eq_imp_iff₂, or_false, forall_eq, implies_true, and_self, and_true, true_and, Go.Gw.stA, Go.Gw.opA, Go.Gw.ndA, Go.Gw.unA, Go.Gw.enA, Go.Gw.inA, Go.Gw.lgF, Go.Gw.lgA]) (.refl _)
    | true =>
      have hr : ¬ (!chk l || !u.did) = true := by simp [hc, hd]
      have hpl := place_c b l o.node hc
      have hlay := lay_c b true l
      have hup := upto_le l o.node hc
      rw [backL, if_neg hr]
      cases hq : (ofOk o.node && u.had && decide (u.was.id = o.node)) with
      | true =>
        rw [if_pos rfl]
        have hl1 := hlay [u.was] (pos l o.node) (upto l o.node) hup.1 hup.2 (by simp; omega)
        simp only [List.map_cons, List.map_nil, ndA] at hl1
        cases hh : had l o.node with
        | true =>
          have hlt := had_lt hc hh
          have hw := wrap_succ hlt (show l.length ≤ 9223372036854775807 by omega)
          have eu : upto l o.node = pos l o.node + 1 := by rw [upto, if_pos hh]
          rw [eu] at hl1 ⊢
          repeat' first | ((first | refine callK_fn (chk_c _ _ _) callOk38F ?_ | refine callP_fn (chk_c _ _ _) callOk38F ?_ | refine callM_fn (fun _ => chk_c _ _ _) callOk38F ?_ | refine callK_fn (hpl _) callOk65F ?_ | refine callP_fn (hpl _) callOk65F ?_ | refine callM_fn (fun _ => hpl _) callOk65F ?_ | refine callK_fn (of_c _ _) callOk70F ?_ | refine callP_fn (of_c _ _) callOk70F ?_ | refine callM_fn (fun _ => of_c _ _) callOk70F ?_ | refine callK_fn (hl1 _) callOk66F ?_ | refine callP_fn (hl1 _) callOk66F ?_ | refine callM_fn (fun _ => hl1 _) callOk66F ?_ | refine callP_false (.bool false) ?_ | refine aw_region rfl ?_ | refine aw_region_draw mixedF rfl (by kernel_rfl) ?_ | refine aw_ret ?_ | refine aw_skip ?_ | refine aw_exit ?_ | refine aw_label ?_); simp only [go_sem, ↓reduceIte, Nat.reduceEqDiff, Nat.reduceAdd, Nat.reduceSub, Nat.reduceMul, Nat.reduceLeDiff, Nat.reduceLT, Nat.reduceBEq, Int.reduceNeg, Int.reduceLE, Int.reduceLT, Int.reduceToNat, String.reduceEq, hc, hd, hh, hw, hq]) | refine aw_seq ?_ | refine aw_block ?_ | refine aw_scope ?_ | (refine aw_cond rfl (fun h => ?_) (fun h => ?_) <;> try (exfalso; first | (simp at h; done) | (simp at h; omega))) | ((with_reducible refine And.intro ?_ ?_); focus (first | omega | (intros; simp_all; done) | (simp; omega)))
          exact done (by simp only [pur_int, pur_bool, pur_str, pur_agg, pur_tup, pur_sl, pur_iface, pur_nilI, List.mem_cons, List.not_mem_nil, false_implies, forall_eq_or_imp, List.mem_map, forall_exists_index, and_imp, forall_apply_eq_imp_iff₂, or_false, forall_eq, implies_true, and_self, and_true, true_and, Go.Gw.stA, Go.Gw.opA, Go.Gw.ndA, Go.Gw.unA, Go.Gw.enA, Go.Gw.inA, Go.Gw.lgF, Go.Gw.lgA]) (.refl _)
        | false =>
          have eu : upto l o.node = pos l o.node := by rw [upto, if_neg (by rw [hh]; decide)]
          rw [eu] at hl1 ⊢
          repeat' first | ((first | refine callK_fn (chk_c _ _ _) callOk38F ?_ | refine callP_fn (chk_c _ _ _) callOk38F ?_ | refine callM_fn (fun _ => chk_c _ _ _) callOk38F ?_ | refine callK_fn (hpl _) callOk65F ?_ | refine callP_fn (hpl _) callOk65F ?_ | refine callM_fn (fun _ => hpl _) callOk65F ?_ | refine callK_fn (of_c _ _) callOk70F ?_ | refine callP_fn (of_c _ _) callOk70F ?_ | refine callM_fn (fun _ => of_c _ _) callOk70F ?_ | refine callK_fn (hl1 _) callOk66F ?_ | refine callP_fn (hl1 _) callOk66F ?_ | refine callM_fn (fun _ => hl1 _) callOk66F ?_ | refine callP_false (.bool false) ?_ | refine aw_region rfl ?_ | refine aw_region_draw mixedF rfl (by kernel_rfl) ?_ | refine aw_ret ?_ | refine aw_skip ?_ | refine aw_exit ?_ | refine aw_label ?_); simp only [go_sem, ↓reduceIte, Nat.reduceEqDiff, Nat.reduceAdd, Nat.reduceSub, Nat.reduceMul, Nat.reduceLeDiff, Nat.reduceLT, Nat.reduceBEq, Int.reduceNeg, Int.reduceLE, Int.reduceLT, Int.reduceToNat, String.reduceEq, hc, hd, hh, hq]) | refine aw_seq ?_ | refine aw_block ?_ | refine aw_scope ?_ | (refine aw_cond rfl (fun h => ?_) (fun h => ?_) <;> try (exfalso; first | (simp at h; done) | (simp at h; omega))) | ((with_reducible refine And.intro ?_ ?_); focus (first | omega | (intros; simp_all; done) | (simp; omega)))
          exact done (by simp only [pur_int, pur_bool, pur_str, pur_agg, pur_tup, pur_sl, pur_iface, pur_nilI, List.mem_cons, List.not_mem_nil, false_implies, forall_eq_or_imp, List.mem_map, forall_exists_index, and_imp, forall_apply_eq_imp_iff₂, or_false, forall_eq, implies_true, and_self, and_true, true_and, Go.Gw.stA, Go.Gw.opA, Go.Gw.ndA, Go.Gw.unA, Go.Gw.enA, Go.Gw.inA, Go.Gw.lgF, Go.Gw.lgA]) (.refl _)
      | false =>
        rw [if_neg (by decide)]
        have hl1 := hlay [] (pos l o.node) (upto l o.node) hup.1 hup.2 (by simp; omega)
        simp only [List.map_nil] at hl1
        cases hh : had l o.node with
        | true =>
          have hlt := had_lt hc hh
          have hw := wrap_succ hlt (show l.length ≤ 9223372036854775807 by omega)
          have eu : upto l o.node = pos l o.node + 1 := by rw [upto, if_pos hh]
          rw [eu] at hl1 ⊢
          repeat' first | ((first | refine callK_fn (chk_c _ _ _) callOk38F ?_ | refine callP_fn (chk_c _ _ _) callOk38F ?_ | refine callM_fn (fun _ => chk_c _ _ _) callOk38F ?_ | refine callK_fn (hpl _) callOk65F ?_ | refine callP_fn (hpl _) callOk65F ?_ | refine callM_fn (fun _ => hpl _) callOk65F ?_ | refine callK_fn (of_c _ _) callOk70F ?_ | refine callP_fn (of_c _ _) callOk70F ?_ | refine callM_fn (fun _ => of_c _ _) callOk70F ?_ | refine callK_fn (hl1 _) callOk66F ?_ | refine callP_fn (hl1 _) callOk66F ?_ | refine callM_fn (fun _ => hl1 _) callOk66F ?_ | refine callP_false (.bool false) ?_ | refine aw_region rfl ?_ | refine aw_region_draw mixedF rfl (by kernel_rfl) ?_ | refine aw_ret ?_ | refine aw_skip ?_ | refine aw_exit ?_ | refine aw_label ?_); simp only [go_sem, ↓reduceIte, Nat.reduceEqDiff, Nat.reduceAdd, Nat.reduceSub, Nat.reduceMul, Nat.reduceLeDiff, Nat.reduceLT, Nat.reduceBEq, Int.reduceNeg, Int.reduceLE, Int.reduceLT, Int.reduceToNat, String.reduceEq, hc, hd, hh, hw, hq]) | refine aw_seq ?_ | refine aw_block ?_ | refine aw_scope ?_ | (refine aw_cond rfl (fun h => ?_) (fun h => ?_) <;> try (exfalso; first | (simp at h; done) | (simp at h; omega))) | ((with_reducible refine And.intro ?_ ?_); focus (first | omega | (intros; simp_all; done) | (simp; omega)))
          exact done (by simp only [pur_int, pur_bool, pur_str, pur_agg, pur_tup, pur_sl, pur_iface, pur_nilI, List.mem_cons, List.not_mem_nil, false_implies, forall_eq_or_imp, List.mem_map, forall_exists_index, and_imp, forall_apply_eq_imp_iff₂, or_false, forall_eq, implies_true, and_self, and_true, true_and, Go.Gw.stA, Go.Gw.opA, Go.Gw.ndA, Go.Gw.unA, Go.Gw.enA, Go.Gw.inA, Go.Gw.lgF, Go.Gw.lgA]) (.refl _)
        | false =>
          have eu : upto l o.node = pos l o.node := by rw [upto, if_neg (by rw [hh]; decide)]
          rw [eu] at hl1 ⊢
          repeat' first | ((first | refine callK_fn (chk_c _ _ _) callOk38F ?_ | refine callP_fn (chk_c _ _ _) callOk38F ?_ | refine callM_fn (fun _ => chk_c _ _ _) callOk38F ?_ | refine callK_fn (hpl _) callOk65F ?_ | refine callP_fn (hpl _) callOk65F ?_ | refine callM_fn (fun _ => hpl _) callOk65F ?_ | refine callK_fn (of_c _ _) callOk70F ?_ | refine callP_fn (of_c _ _) callOk70F ?_ | refine callM_fn (fun _ => of_c _ _) callOk70F ?_ | refine callK_fn (hl1 _) callOk66F ?_ | refine callP_fn (hl1 _) callOk66F ?_ | refine callM_fn (fun _ => hl1 _) callOk66F ?_ | refine callP_false (.bool false) ?_ | refine aw_region rfl ?_ | refine aw_region_draw mixedF rfl (by kernel_rfl) ?_ | refine aw_ret ?_ | refine aw_skip ?_ | refine aw_exit ?_ | refine aw_label ?_); simp only [go_sem, ↓reduceIte, Nat.reduceEqDiff, Nat.reduceAdd, Nat.reduceSub, Nat.reduceMul, Nat.reduceLeDiff, Nat.reduceLT, Nat.reduceBEq, Int.reduceNeg, Int.reduceLE, Int.reduceLT, Int.reduceToNat, String.reduceEq, hc, hd, hh, hq]) | refine aw_seq ?_ | refine aw_block ?_ | refine aw_scope ?_ | (refine aw_cond rfl (fun h => ?_) (fun h => ?_) <;> try (exfalso; first | (simp at h; done) | (simp at h; omega))) | ((with_reducible refine And.intro ?_ ?_); focus (first | omega | (intros; simp_all; done) | (simp; omega)))
          exact done (by simp only [pur_int, pur_bool, pur_str, pur_agg, pur_tup, pur_sl, pur_iface, pur_nilI, List.mem_cons, List.not_mem_nil, false_implies, forall_eq_or_imp, List.mem_map, forall_exists_index, and_imp, forall_apply_eq_imp_iff₂, or_false, forall_eq, implies_true, and_self, and_true, true_and, Go.Gw.stA, Go.Gw.opA, Go.Gw.ndA, Go.Gw.unA, Go.Gw.enA, Go.Gw.inA, Go.Gw.lgF, Go.Gw.lgA]) (.refl _)
end Go.Proofs.Ytoffonjlfomnbaa

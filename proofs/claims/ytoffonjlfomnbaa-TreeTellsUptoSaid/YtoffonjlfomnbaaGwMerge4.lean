/- What the functions of the logs answer: All, Of, Ops. No condition. -/
import Derived.Test.YtoffonjlfomnbaaGwMerge3
import Derived.Test.YtoffonjlfomnbaaGwMergeQ
namespace Go.Proofs.Ytoffonjlfomnbaa
open Go Go.Aw Go.Gw
set_option linter.unusedSimpArgs false
set_option maxRecDepth 20000
set_option maxHeartbeats 1000000

theorem mall_c (b1 b2 b3 : Bool) (g : Lg) (l : List Opn) (hf : Fit g l.length) (hl : ∀ o ∈ l, OpS o) (H : AHeap) : FnC Try.prog 18 [lgF b1 b2 g, .sl b3 (l.map opA)] H (tagV (allG g l) (allN g l)) := by
  refine fnC_of Try.func18 rfl (Nat.le_of_ble_eq_true rfl) ?_
  have hsm := msame_c b1 b2 g (by have := hf.len; omega) (by have := hf.nodes; omega)
  have hlen : l.length ≤ 1000000 := by have := hf.nodes; omega
  simp only [lgF, lgA, tagV] at hsm ⊢
  repeat' first | ((first | refine callK_fn (hsm _) callOk50F ?_ | refine callP_fn (hsm _) callOk50F ?_ | refine callM_fn (fun _ => hsm _) callOk50F ?_ | refine callP_false (.bool false) ?_ | refine aw_region rfl ?_ | refine aw_region_draw mixedF rfl (by kernel_rfl) ?_ | refine aw_ret ?_ | refine aw_skip ?_ | refine aw_exit ?_ | refine aw_label ?_); simp only [go_sem, ↓reduceIte, Nat.reduceEqDiff, Nat.reduceAdd, Nat.reduceSub, Nat.reduceMul, Nat.reduceLeDiff, Nat.reduceLT, Nat.reduceBEq, Int.reduceNeg, Int.reduceLE, Int.reduceLT, Int.reduceToNat, String.reduceEq]) | refine aw_seq ?_ | refine aw_block ?_ | refine aw_scope ?_ | (refine aw_cond rfl (fun h => ?_) (fun h => ?_) <;> try (exfalso; first | (simp at h; done) | (simp at h; omega))) | ((with_reducible refine And.intro ?_ ?_); focus (first | omega | (intros; simp_all; done) | (simp; omega)))
  refine aw_loopS (ι := Nat × AHeap) (fun x => [(4, .ref (H.length + 1) 0 0), (6, .ref (H.length + 2) 0 0), (7, .int .i64 (allN g (l.take x.1))), (13, .sl b3 (l.map opA)), (14, .int .i64 l.length), (15, .int .i64 x.1)])
    (fun x => x.2) (fun x => x.1 ≤ l.length ∧ hget x.2 (H.length + 1) = .cells 0 [.sl true [], .sl true []] ∧ hget x.2 (H.length + 2) = .cells 0 [.sl false ((allG g (l.take x.1)).entries.map enA), .sl false ((allG g (l.take x.1)).nodes.map ndA)] ∧ ∃ M, x.2 = H ++ M)
    (fun x => l.length - x.1) (0, _) ⟨Nat.zero_le _, by simp only [go_sem, ↓reduceIte, Nat.reduceEqDiff, Nat.reduceAdd, Nat.reduceSub, Nat.reduceMul, Nat.reduceLeDiff, Nat.reduceLT, Nat.reduceBEq, Int.reduceNeg, Int.reduceLE, Int.reduceLT, Int.reduceToNat, String.reduceEq], by simp only [go_sem, ↓reduceIte, Nat.reduceEqDiff, Nat.reduceAdd, Nat.reduceSub, Nat.reduceMul, Nat.reduceLeDiff, Nat.reduceLT, Nat.reduceBEq, Int.reduceNeg, Int.reduceLE, Int.reduceLT, Int.reduceToNat, String.reduceEq]; rfl, ⟨_, rfl⟩⟩ ?_ rfl ?_
  · simp [go_sem, allN]
  · rintro ⟨i, X⟩ ⟨hi, r1, r2, rP⟩
    simp only at hi r1 r2 rP ⊢
    have hX1 : H.length + 1 < X.length := hget_lt r1 trivial
    have hX2 : H.length + 2 < X.length := hget_lt r2 trivial
    have r2' := fun M => hget_appL r2 trivial M
    have qs := fun M b => hset_appL hX2 M b
    by_cases hlt : i < l.length
    · have hp := getD_map opA hlt
      have hli : decide ((i : Int) < (l.length : Int)) = true := decide_eq_true (by omega)
      have htk : l.take (i + 1) = l.take i ++ [l[i]] := List.take_succ_eq_append_getElem hlt
      have hops : ∀ o ∈ l.take i, OpS o := fun o ho => hl o (List.mem_of_mem_take ho)
      have hfi : Fit (allG g (l.take i)) 1 := Fit.all (k := 1) (hf.less (by rw [List.length_take]; omega)) hops
      have hadd := madd_c false false (allG g (l.take i)) l[i] (hl _ (List.getElem_mem hlt)) hfi.ops (by have := hfi.nodes; omega) (by have := hfi.len; omega)
      have hG : allG g (l.take (i + 1)) = addG (allG g (l.take i)) l[i] := by rw [htk, allG_app]; rfl
      have hN : allN g (l.take (i + 1)) = allN g (l.take i) + (if addE (allG g (l.take i)) l[i] = 0 then 0 else 1) := by rw [htk, allN_app]; simp [allN]
      have hnle := allN_le g (l.take i)
      rw [List.length_take] at hnle
      have hw : IntKind.i64.wrap (allN g (l.take i) + 1) = allN g (l.take i) + 1 := wrap_i64 (by omega) (by omega)
      simp only [lgF, lgA, opA, tagV] at hadd
      repeat' first | ((first | refine callK_fn (hadd _) callOk19F ?_ | refine callP_fn (hadd _) callOk19F ?_ | refine callM_fn (fun _ => hadd _) callOk19F ?_ | refine callP_false (.bool false) ?_ | refine aw_region rfl ?_ | refine aw_region_draw mixedF rfl (by kernel_rfl) ?_ | refine aw_ret ?_ | refine aw_skip ?_ | refine aw_exit ?_ | refine aw_label ?_); simp only [go_sem, ↓reduceIte, Nat.reduceEqDiff, Nat.reduceAdd, Nat.reduceSub, Nat.reduceMul, Nat.reduceLeDiff, Nat.reduceLT, Nat.reduceBEq, Int.reduceNeg, Int.reduceLE, Int.reduceLT, Int.reduceToNat, String.reduceEq, hp, opA, hli, r2', qs, hw]) | refine aw_seq ?_ | refine aw_block ?_ | refine aw_scope ?_ | (refine aw_cond rfl (fun h => ?_) (fun h => ?_) <;> try (exfalso; first | (simp at h; done) | (simp at h; omega))) | ((with_reducible refine And.intro ?_ ?_); focus (first | omega | (intros; simp_all; done) | (simp; omega)))
      · have he : ¬ addE (allG g (l.take i)) l[i] = 0 := by simpa using h
        rw [if_neg he] at hN
        exact ⟨(i + 1, _), ⟨hlt, hget_appL ((hget_set_ne (by omega) _).trans r1) trivial _, by simp only; rw [hG]; exact hget_appL (b := .cells 0 [.sl false ((addG (allG g (l.take i)) l[i]).entries.map enA), .sl false ((addG (allG g (l.take i)) l[i]).nodes.map ndA)]) (hget_set_eq hX2 _) trivial _, pre_app (pre_set rP (by omega) _) _⟩, by simp only; omega, ⟨by simp only; rw [hN], congrArg _ (wrap_succ hlt (by omega))⟩, rfl⟩
      · have he : addE (allG g (l.take i)) l[i] = 0 := by simpa using h
        rw [if_pos he] at hN
        exact ⟨(i + 1, _), ⟨hlt, hget_appL ((hget_set_ne (by omega) _).trans r1) trivial _, by simp only; rw [hG]; exact hget_appL (b := .cells 0 [.sl false ((addG (allG g (l.take i)) l[i]).entries.map enA), .sl false ((addG (allG g (l.take i)) l[i]).nodes.map ndA)]) (hget_set_eq hX2 _) trivial _, pre_app (pre_set rP (by omega) _) _⟩, by simp only; omega, ⟨by simp only; rw [hN, Int.add_zero], congrArg _ (wrap_succ hlt (by omega))⟩, rfl⟩
    · have hie : i = l.length := by omega
      subst hie
      have hli : decide ((l.length : Int) < (l.length : Int)) = false := by simp
      have sS : ∀ b, hget (hset X (H.length + 1) b) (H.length + 1) = b := fun b => hget_set_eq hX1 b
      rw [List.take_length] at r2 ⊢
      repeat' first | ((first | refine callP_false (.bool false) ?_ | refine aw_region rfl ?_ | refine aw_region_draw mixedF rfl (by kernel_rfl) ?_ | refine aw_ret ?_ | refine aw_skip ?_ | refine aw_exit ?_ | refine aw_label ?_); simp only [go_sem, ↓reduceIte, Nat.reduceEqDiff, Nat.reduceAdd, Nat.reduceSub, Nat.reduceMul, Nat.reduceLeDiff, Nat.reduceLT, Nat.reduceBEq, Int.reduceNeg, Int.reduceLE, Int.reduceLT, Int.reduceToNat, String.reduceEq, r1, r2, hli, sS]) | refine aw_seq ?_ | refine aw_block ?_ | refine aw_scope ?_ | (refine aw_cond rfl (fun h => ?_) (fun h => ?_) <;> try (exfalso; first | (simp at h; done) | (simp at h; omega))) | ((with_reducible refine And.intro ?_ ?_); focus (first | omega | (intros; simp_all; done) | (simp; omega)))
      obtain ⟨M2, hM2⟩ := pre_set rP (i := H.length + 1) (by omega) (.cells 0 [.sl false ((allG g l).entries.map enA), .sl false ((allG g l).nodes.map ndA)])
      exact ⟨M2, _, hM2, .cl _ (Pur.cl (by simp only [pur_int, pur_bool, pur_str, pur_agg, pur_tup, pur_sl, pur_iface, pur_nilI, List.mem_cons, List.not_mem_nil, false_implies, forall_eq_or_imp, List.mem_map, forall_exists_index, and_imp, forall_apply_eq_imp_iff₂, or_false, forall_eq, implies_true, and_self, and_true, true_and, Go.Gw.stA, Go.Gw.opA, Go.Gw.ndA, Go.Gw.unA, Go.Gw.enA, Go.Gw.inA, Go.Gw.lgF, Go.Gw.lgA]) _), rfl⟩

theorem mof_c (b : Bool) (l : List Opn) (hl : ∀ o ∈ l, OpS o) (hn : l.length ≤ 2000) (H : AHeap) : FnC Try.prog 29 [.sl b (l.map opA)] H (lgA (ofG l)) := by
  refine fnC_of Try.func29 rfl (Nat.le_of_ble_eq_true rfl) ?_
  have hall := mall_c true true b ⟨[], []⟩ l (Fit.nil _ hn) hl
  simp only [lgF, lgA, tagV, List.map_nil] at hall
  repeat' first | ((first | refine callK_fn (hall _) callOk18F ?_ | refine callP_fn (hall _) callOk18F ?_ | refine callM_fn (fun _ => hall _) callOk18F ?_ | refine callP_false (.bool false) ?_ | refine aw_region rfl ?_ | refine aw_region_draw mixedF rfl (by kernel_rfl) ?_ | refine aw_ret ?_ | refine aw_skip ?_ | refine aw_exit ?_ | refine aw_label ?_); simp only [go_sem, ↓reduceIte, Nat.reduceEqDiff, Nat.reduceAdd, Nat.reduceSub, Nat.reduceMul, Nat.reduceLeDiff, Nat.reduceLT, Nat.reduceBEq, Int.reduceNeg, Int.reduceLE, Int.reduceLT, Int.reduceToNat, String.reduceEq]) | refine aw_seq ?_ | refine aw_block ?_ | refine aw_scope ?_ | (refine aw_cond rfl (fun h => ?_) (fun h => ?_) <;> try (exfalso; first | (simp at h; done) | (simp at h; omega))) | ((with_reducible refine And.intro ?_ ?_); focus (first | omega | (intros; simp_all; done) | (simp; omega)))
  exact done (by simp only [pur_int, pur_bool, pur_str, pur_agg, pur_tup, pur_sl, pur_iface, pur_nilI, List.mem_cons, List.not_mem_nil, false_implies, forall_eq_or_imp, List.mem_map, forall_exists_index, and_imp, forall_apply_eq_imp_iff₂, or_false, forall_eq, implies_true, and_self, and_true, true_and, Go.Gw.stA, Go.Gw.opA, Go.Gw.ndA, Go.Gw.unA, Go.Gw.enA, Go.Gw.inA, Go.Gw.lgF, Go.Gw.lgA]) (.refl _)

theorem en_op (e : Ent) : (enA e).cells.take 7 = opCells e.op := rfl

theorem cells_op (l : List Opn) : ∀ e ∈ l.map opA, e.cells.length = 7 := fun e he => by
  obtain ⟨x, _, rfl⟩ := List.mem_map.1 he; rfl
theorem pur_op (l : List Opn) : ∀ e ∈ l.map opA, Pur e := fun e he => by
  obtain ⟨x, _, rfl⟩ := List.mem_map.1 he; exact (by simp only [pur_int, pur_bool, pur_str, pur_agg, pur_tup, pur_sl, pur_iface, pur_nilI, List.mem_cons, List.not_mem_nil, false_implies, forall_eq_or_imp, List.mem_map, forall_exists_index, and_imp, forall_apply_eq_imp_iff₂, or_false, forall_eq, implies_true, and_self, and_true, true_and, Go.Gw.stA, Go.Gw.opA, Go.Gw.ndA, Go.Gw.unA, Go.Gw.enA, Go.Gw.inA, Go.Gw.lgF, Go.Gw.lgA])
def opZ : AV := .agg [.int .i64 0, .int .i64 0, .int .i64 0, .int .i64 0, .int .i64 0, .str [], .str []]
theorem flat_opZ (n : Nat) : (List.flatMap AV.cells (List.replicate n opZ)).length = n * 7 := by
  induction n with
  | zero => rfl
  | succ n ih => rw [List.replicate_succ, List.flatMap_cons, List.length_append, ih]; simp [opZ, AV.cells]; omega
theorem flat_op_len (l : List Opn) : (List.flatMap AV.cells (l.map opA)).length = l.length * 7 := (flat_len (cells_op l)).trans (by rw [List.length_map])

theorem mops_c (b1 b2 : Bool) (g : Lg) (hn : g.entries.length ≤ 1000000) (H : AHeap) : FnC Try.prog 27 [lgF b1 b2 g] H (.sl false ((opsG g).map opA)) := by
  refine fnC_of Try.func27 rfl (Nat.le_of_ble_eq_true rfl) ?_
  simp only [lgF]
  have hz : opZ = .agg [.int .i64 0, .int .i64 0, .int .i64 0, .int .i64 0, .int .i64 0, .str [], .str []] := rfl
  repeat' first | ((first | refine callP_false (.bool false) ?_ | refine aw_region rfl ?_ | refine aw_region_draw mixedF rfl (by kernel_rfl) ?_ | refine aw_ret ?_ | refine aw_skip ?_ | refine aw_exit ?_ | refine aw_label ?_); simp only [go_sem, ↓reduceIte, Nat.reduceEqDiff, Nat.reduceAdd, Nat.reduceSub, Nat.reduceMul, Nat.reduceLeDiff, Nat.reduceLT, Nat.reduceBEq, Int.reduceNeg, Int.reduceLE, Int.reduceLT, Int.reduceToNat, String.reduceEq, ← hz]) | refine aw_seq ?_ | refine aw_block ?_ | refine aw_scope ?_ | (refine aw_cond rfl (fun h => ?_) (fun h => ?_) <;> try (exfalso; first | (simp at h; done) | (simp at h; omega))) | ((with_reducible refine And.intro ?_ ?_); focus (first | omega | (intros; simp_all; done) | (simp; omega)))
  refine aw_loopS (ι := Nat × AHeap) (fun x => [(3, .osl 7 (H.length + 1) 1 0 x.1 g.entries.length), (11, .sl b1 (g.entries.map enA)), (12, .int .i64 g.entries.length), (13, .int .i64 x.1)])
    (fun x => x.2) (fun x => x.1 ≤ g.entries.length ∧ hget x.2 (H.length + 1) = .cells 1 (List.flatMap AV.cells (((opsG g).take x.1).map opA) ++ List.flatMap AV.cells (List.replicate (g.entries.length - x.1) opZ)) ∧ ∃ M, x.2 = H ++ M)
    (fun x => g.entries.length - x.1) (0, _) ⟨Nat.zero_le _, by simp only [go_sem, ↓reduceIte, Nat.reduceEqDiff, Nat.reduceAdd, Nat.reduceSub, Nat.reduceMul, Nat.reduceLeDiff, Nat.reduceLT, Nat.reduceBEq, Int.reduceNeg, Int.reduceLE, Int.reduceLT, Int.reduceToNat, String.reduceEq]; simp, ⟨_, rfl⟩⟩ ?_ rfl ?_
  · simp [go_sem]
  · rintro ⟨i, X⟩ ⟨hi, r1, rP⟩
    simp only at hi r1 rP ⊢
    have hX1 : H.length + 1 < X.length := hget_lt r1 trivial
    have r1' := fun M => hget_appL r1 trivial M
    have qs := fun M b => hset_appL hX1 M b
    by_cases hlt : i < g.entries.length
    · have hp := getD_map enA hlt
      have hli : decide ((i : Int) < (g.entries.length : Int)) = true := decide_eq_true (by omega)
      have hne : ¬ i = g.entries.length := by omega
      have hlo : (opsG g).length = g.entries.length := List.length_map ..
      have hlt2 : i < (opsG g).length := by omega
      have htk : (opsG g).take (i + 1) = (opsG g).take i ++ [g.entries[i].op] := by
        rw [List.take_succ_eq_append_getElem hlt2]; congr 2; exact List.getElem_map _
      have hfl : (List.flatMap AV.cells (((opsG g).take i).map opA)).length = i * 7 := by rw [flat_op_len, List.length_take]; congr 1; omega
      obtain ⟨m, hm⟩ : ∃ m, g.entries.length - i = m + 1 := ⟨g.entries.length - i - 1, by omega⟩
      have hm2 : g.entries.length - (i + 1) = m := by omega
      have hsp : splice (List.flatMap AV.cells (((opsG g).take i).map opA) ++ List.flatMap AV.cells (List.replicate (g.entries.length - i) opZ)) (i * 7) (opCells g.entries[i].op) = List.flatMap AV.cells (((opsG g).take (i + 1)).map opA) ++ List.flatMap AV.cells (List.replicate (g.entries.length - (i + 1)) opZ) := by
        rw [splice_app hfl, hm, hm2, htk, List.map_append, List.flatMap_append, List.replicate_succ, List.flatMap_cons, List.append_assoc]
        rfl
      simp only [opCells] at hsp
      have hlz := flat_opZ (g.entries.length - i)
      repeat' first | ((first | refine callP_false (.bool false) ?_ | refine aw_region rfl ?_ | refine aw_region_draw mixedF rfl (by kernel_rfl) ?_ | refine aw_ret ?_ | refine aw_skip ?_ | refine aw_exit ?_ | refine aw_label ?_); simp only [go_sem, ↓reduceIte, Nat.reduceEqDiff, Nat.reduceAdd, Nat.reduceSub, Nat.reduceMul, Nat.reduceLeDiff, Nat.reduceLT, Nat.reduceBEq, Int.reduceNeg, Int.reduceLE, Int.reduceLT, Int.reduceToNat, String.reduceEq, hp, enA, hli, hne, r1', qs, hfl, hlz, hsp]) | refine aw_seq ?_ | refine aw_block ?_ | refine aw_scope ?_ | (refine aw_cond rfl (fun h => ?_) (fun h => ?_) <;> try (exfalso; first | (simp at h; done) | (simp at h; omega))) | ((with_reducible refine And.intro ?_ ?_); focus (first | omega | (intros; simp_all; done) | (simp; omega)))
      refine ⟨⟨by omega, by omega, fun e he => by rw [he]; rfl⟩, ?_⟩
      repeat' first | ((first | refine callP_false (.bool false) ?_ | refine aw_region rfl ?_ | refine aw_region_draw mixedF rfl (by kernel_rfl) ?_ | refine aw_ret ?_ | refine aw_skip ?_ | refine aw_exit ?_ | refine aw_label ?_); simp only [go_sem, ↓reduceIte, Nat.reduceEqDiff, Nat.reduceAdd, Nat.reduceSub, Nat.reduceMul, Nat.reduceLeDiff, Nat.reduceLT, Nat.reduceBEq, Int.reduceNeg, Int.reduceLE, Int.reduceLT, Int.reduceToNat, String.reduceEq]) | refine aw_seq ?_ | refine aw_block ?_ | refine aw_scope ?_ | (refine aw_cond rfl (fun h => ?_) (fun h => ?_) <;> try (exfalso; first | (simp at h; done) | (simp at h; omega))) | ((with_reducible refine And.intro ?_ ?_); focus (first | omega | (intros; simp_all; done) | (simp; omega)))
      refine ⟨(i + 1, _), ⟨hlt, hget_appL (b := .cells 1 (List.flatMap AV.cells (((opsG g).take (i + 1)).map opA) ++ List.flatMap AV.cells (List.replicate (g.entries.length - (i + 1)) opZ))) (hget_set_eq hX1 _) trivial _, pre_app (pre_set rP (by omega) _) _⟩, by simp only; omega, ⟨rfl, congrArg _ (wrap_succ hlt (by omega))⟩, rfl⟩
    · have hie : i = g.entries.length := by omega
      subst hie
      have hli : decide ((g.entries.length : Int) < (g.entries.length : Int)) = false := by simp
      repeat' first | ((first | refine callP_false (.bool false) ?_ | refine aw_region rfl ?_ | refine aw_region_draw mixedF rfl (by kernel_rfl) ?_ | refine aw_ret ?_ | refine aw_skip ?_ | refine aw_exit ?_ | refine aw_label ?_); simp only [go_sem, ↓reduceIte, Nat.reduceEqDiff, Nat.reduceAdd, Nat.reduceSub, Nat.reduceMul, Nat.reduceLeDiff, Nat.reduceLT, Nat.reduceBEq, Int.reduceNeg, Int.reduceLE, Int.reduceLT, Int.reduceToNat, String.reduceEq, r1, hli]) | refine aw_seq ?_ | refine aw_block ?_ | refine aw_scope ?_ | (refine aw_cond rfl (fun h => ?_) (fun h => ?_) <;> try (exfalso; first | (simp at h; done) | (simp at h; omega))) | ((with_reducible refine And.intro ?_ ?_); focus (first | omega | (intros; simp_all; done) | (simp; omega)))
      obtain ⟨M, hM⟩ := rP
      subst hM
      have hlo : (opsG g).length = g.entries.length := List.length_map ..
      exact doneOsl (es := (opsG g).map opA) (rest := []) (by omega) r1 (by rw [List.take_of_length_le (by omega)]; simp) (by rw [List.length_map]; exact hlo) (cells_op _) (pur_op _) rfl
end Go.Proofs.Ytoffonjlfomnbaa
